/- Walks and plain laws beneath the law TopOutcome. No conditions but what each statement names. -/
import Derived.Test.YtgbmnpgaddhfpaaGreatDoorM13
set_option linter.unusedVariables false
set_option linter.unusedSimpArgs false
namespace Go.Proofs.YtgbmnpgaddhfpaaGreatDoor.T
open Go.RowKit Go.Proofs.YtgbmnpgaddhfpaaGreatDoorW.PrintWords Go.Proofs.YtgbmnpgaddhfpaaGreatDoorW.PrintLast Go.Proofs.YtgbmnpgaddhfpaaGreatDoorW.PrintMore
attribute [local go_sem] max2_int min2_int max_two min_two
open Go.Proofs.YtgbmnpgaddhfpaaGreatDoor.G
open Tryz
set_option maxRecDepth 100000
section
section
variable {P : Program} {ops : Array Oper} {C : World → Prop} {Q : Act → Prop}
theorem quiet_yes {o : Oper} {rest : List Oper} {a : Act} (hw : Region.wanted o (yielded ops a.tmps) = true) (h : o.quiet P a C (wpQuiet P ops C Q rest)) : wpQuiet P ops C Q (o :: rest) a :=
 wpQuiet_step (fun K hK => by rw [if_pos hw];exact Oper.quiet_mono hK h)
theorem quiet_no {o : Oper} {rest : List Oper} {a : Act} (hw : Region.wanted o (yielded ops a.tmps) = false) (h : wpQuiet P ops C Q rest (a.put o.dst undef)) : wpQuiet P ops C Q (o :: rest) a :=
 wpQuiet_step (fun K hK => by rw [if_neg (by rw [hw];exact Bool.false_ne_true)];exact hK _ h)
end
def Chk3 (P : Prop) (e : Ending) : Prop := ∃ r q t : Int,e = .returned (.tuple #[.int .i64 r,.int .i64 q,.int .i64 t]) ∧ (r = 0 → P)
def mapR (ms : List S66) (rs : List S94) (st1 ver1 : Int) (l1 : List S87) (st2 ver2 : Int) (l2 : List S87) : Prop :=
 (schemaCheck st1 ver1 l1).1 = 0 ∧ (schemaCheck st2 ver2 l2).1 = 0 ∧ ms.length ≤ 256 ∧ (∀ j : Nat,j < ms.length → typedOk ver1 ver2 (rd_T66 ms (j : Int)) ∧ ∀ p ∈ ms.take j,p.f0 ≠ (rd_T66 ms (j : Int)).f0) ∧ rs.length ≤ 256 ∧ (∀ j : Nat,j < rs.length → ruleOk l1 l2 (rd_T94 rs (j : Int)) ∧ ∀ p ∈ rs.take j,twiceS p (rd_T94 rs (j : Int)) = false)
theorem headS_false {t : ByteArray} : ∀ {l : List S66},(headS t l).2 = false → ∀ p ∈ l,p.f0 ≠ t
 | [],_,p,hp => by cases hp
 | x :: xs,h,p,hp => by
  rw [headS] at h
  split at h
  ·cases h
  ·rcases List.mem_cons.1 hp with rfl | hp
   ·assumption
   ·exact headS_false h p hp
theorem take_mem94 {l : List S94} {k : Nat} (h : k < l.length) {p : S94} (hp : p ∈ l.take (k + 1)) : p ∈ l.take k ∨ p = rd_T94 l (k : Int) := by
 rw [List.take_succ_eq_append_getElem h] at hp
 rcases List.mem_append.1 hp with hp | hp
 ·exact .inl hp
 ·refine .inr ?_
  rw [List.mem_singleton.1 hp]
  simp [rd_T94,List.getD_eq_getElem?_getD,List.getElem?_eq_getElem h]
def post21 (vx v1 v2 : Value) (P : Prop) (g : Nat) (adx : Addr) (sl : Value) (i : Int) : Nat → Value → World → Prop
 | 0,v,_ => v = .pointer (some ⟨g,1,none⟩)
 | 1,v,_ => v = sl
 | 2,v,_ => v = .int .i64 i
 | 3,v,_ => v = .pointer (some adx)
 | 4,v,_ => v = vx
 | 5,v,_ => v = v1
 | 6,v,_ => v = v2
 | _,v,_ => ∃ r : Int,v = .int .i64 r ∧ (r = 0 → P)
def dst21 (i : Nat) : Tmp := [85,86,87,88,89,90,91,92].getD i 0
set_option maxHeartbeats 3000000 in
theorem groatref21_Check.at (Am : Option Addr) (cm : Nat) (ms : List S66) (Ar : Option Addr) (cr : Nat) (rs : List S94) (st1 ver1 : Int) (A1 : Option Addr) (c1 : Nat) (l1 : List S87) (st2 ver2 : Int) (A2 : Option Addr) (c2 : Nat) (l2 : List S87) (w : World)
  (hl1 : l1.length ≤ 4611686018427387904) (hl2 : l2.length ≤ 4611686018427387904) (hlm : ms.length ≤ 4611686018427387904) (hlr : rs.length ≤ 4611686018427387904) (hrm : Kd.C k66 w Am ms.length ms) (hcm : ms.length ≤ cm) (hrr : Kd.C k94 w Ar rs.length rs) (hcr : rs.length ≤ cr) (hr1 : Kd.C k87 w A1 l1.length l1) (hc1 : l1.length ≤ c1) (hr2 : Kd.C k87 w A2 l2.length l2) (hc2 : l2.length ≤ c2)
  (hsm : ∀ p ∈ ms,p.f0.size ≤ 1000000 ∧ p.f1.size ≤ 1000000) (hsr : ∀ r ∈ rs,r.f3.size ≤ 1000000 ∧ r.f4.length ≤ 4611686018427387904 ∧ ∀ p ∈ r.f4,p.f0.size ≤ 1000000 ∧ p.f1.size ≤ 1000000) :
  Calls prog 75 #[.agg #[.slice Am ms.length cm,.slice Ar rs.length cr],.agg #[.int .i64 st1,.int .i64 ver1,.slice A1 l1.length c1],.agg #[.int .i64 st2,.int .i64 ver2,.slice A2 l2.length c2]] w fun e w' => Chk3 (mapR ms rs st1 ver1 l1 st2 ver2 l2) e ∧ Below w.heap.size w w' := by
 have hu28 := underlying28
 have hu24 := underlying24
 have hu66 := underlying66
 have hu94 := underlying94
 have HRm := aS hrm
 have HCm := aS hcm
 have HRr := aS hrr
 have HCr := aS hcr
 have HR1 := aS hr1
 have HC1 := aS hc1
 have HR2 := aS hr2
 have HC2 := aS hc2
 have HSM := aS hsm
 have HSR := aS hsr
 clear hrm hcm hrr hcr hr1 hc1 hr2 hc2 hsm hsr
 obtain ⟨i66,hi66,_⟩ := info_parts info66
 have HI66 := aS hi66
 clear hi66
 rcases (Decidable.em ((schemaCheck st1 ver1 l1).1 = 0)).symm with q1 | q1
 ·have HS1 := aS (d_F q1)
  clear q1
  go_enter func75,ntmps75
  go_wp2_with (first | (go_at_call 52;refine (groatref13_Right.at st1 ver1 _ c1 l1 _ hl1 (c_B HR1.out (Box3.start w _ _ _).below) HC1.out).mono ?_;rintro e w1 ⟨rfl,hb1⟩;rw [HS1.out];have D := aS (Box3.init hb1);clear hb1;obtain ⟨m0,m1⟩ := cells_2 D.out.h1;obtain ⟨s0,s1,s2⟩ := cells_3 D.out.h2;obtain ⟨t0,t1,t2⟩ := cells_3 D.out.h3))
  go_ret3
  exact ⟨⟨_,_,_,rfl,fun h => absurd h (by decide)⟩,D.out.below⟩
 have HS1 := aS (d_T q1)
 have Q1 := aS q1
 clear q1
 rcases (Decidable.em ((schemaCheck st2 ver2 l2).1 = 0)).symm with q2 | q2
 ·have HS2 := aS (d_F q2)
  clear q2
  go_enter func75,ntmps75
  go_wp2_with (first | (go_at_call 52;have D0 := D;clear D0;refine (groatref13_Right.at st2 ver2 _ c2 l2 _ hl2 (c_B HR2.out D.out.below) HC2.out).mono ?_;rintro e w2 ⟨rfl,hb1⟩;rw [HS2.out];have D_ := aS (D.out.step hb1);clear m0 m1 s0 s1 s2 t0 t1 t2;clear D hb1;have D := D_;clear D_;obtain ⟨m0,m1⟩ := cells_2 D.out.h1;obtain ⟨s0,s1,s2⟩ := cells_3 D.out.h2;obtain ⟨t0,t1,t2⟩ := cells_3 D.out.h3) | (go_at_call 52;refine (groatref13_Right.at st1 ver1 _ c1 l1 _ hl1 (c_B HR1.out (Box3.start w _ _ _).below) HC1.out).mono ?_;rintro e w1 ⟨rfl,hb1⟩;rw [HS1.out];have D := aS (Box3.init hb1);clear hb1;obtain ⟨m0,m1⟩ := cells_2 D.out.h1;obtain ⟨s0,s1,s2⟩ := cells_3 D.out.h2;obtain ⟨t0,t1,t2⟩ := cells_3 D.out.h3))
  go_ret3
  exact ⟨⟨_,_,_,rfl,fun h => absurd h (by decide)⟩,D.out.below⟩
 have HS2 := aS (d_T q2)
 have Q2 := aS q2
 clear q2
 rcases (Decidable.em (256 < ms.length)) with q3 | q3
 ·have d0 : decide (256 < ms.length) = true := d_T q3
  have d1 : decide (256 < (ms.length : Int)) = true := d_T (by omega)
  clear q3
  go_enter func75,ntmps75
  go_wp2_with (first | (go_at_call 52;have D0 := D;clear D0;refine (groatref13_Right.at st2 ver2 _ c2 l2 _ hl2 (c_B HR2.out D.out.below) HC2.out).mono ?_;rintro e w2 ⟨rfl,hb1⟩;rw [HS2.out];have D_ := aS (D.out.step hb1);clear m0 m1 s0 s1 s2 t0 t1 t2;clear D hb1;have D := D_;clear D_;obtain ⟨m0,m1⟩ := cells_2 D.out.h1;obtain ⟨s0,s1,s2⟩ := cells_3 D.out.h2;obtain ⟨t0,t1,t2⟩ := cells_3 D.out.h3) | (go_at_call 52;refine (groatref13_Right.at st1 ver1 _ c1 l1 _ hl1 (c_B HR1.out (Box3.start w _ _ _).below) HC1.out).mono ?_;rintro e w1 ⟨rfl,hb1⟩;rw [HS1.out];have D := aS (Box3.init hb1);clear hb1;obtain ⟨m0,m1⟩ := cells_2 D.out.h1;obtain ⟨s0,s1,s2⟩ := cells_3 D.out.h2;obtain ⟨t0,t1,t2⟩ := cells_3 D.out.h3))
  go_ret3
  exact ⟨⟨_,_,_,rfl,fun h => absurd h (by decide)⟩,D.out.below⟩
 have d0 : decide (256 < ms.length) = false := d_F q3
 have d1 : decide (256 < (ms.length : Int)) = false := d_F (by omega)
 have Q3 := aS (Nat.le_of_not_lt q3)
 clear q3
 go_enter func75,ntmps75
 go_wp2_with (first | (go_at_call 52;have D0 := D;clear D0;refine (groatref13_Right.at st2 ver2 _ c2 l2 _ hl2 (c_B HR2.out D.out.below) HC2.out).mono ?_;rintro e w2 ⟨rfl,hb1⟩;rw [HS2.out];have D_ := aS (D.out.step hb1);clear m0 m1 s0 s1 s2 t0 t1 t2;clear D hb1;have D := D_;clear D_;obtain ⟨m0,m1⟩ := cells_2 D.out.h1;obtain ⟨s0,s1,s2⟩ := cells_3 D.out.h2;obtain ⟨t0,t1,t2⟩ := cells_3 D.out.h3) | (go_at_call 52;refine (groatref13_Right.at st1 ver1 _ c1 l1 _ hl1 (c_B HR1.out (Box3.start w _ _ _).below) HC1.out).mono ?_;rintro e w1 ⟨rfl,hb1⟩;rw [HS1.out];have D := aS (Box3.init hb1);clear hb1;obtain ⟨m0,m1⟩ := cells_2 D.out.h1;obtain ⟨s0,s1,s2⟩ := cells_3 D.out.h2;obtain ⟨t0,t1,t2⟩ := cells_3 D.out.h3))
 clear d0 d1 m0 m1 s0 s1 s2 t0 t1 t2
 go_loopg [9] ms.length (fun g v9 w' => ∃ i : Nat,v9 = .int .i64 i ∧ i + g = ms.length ∧ Aside0 (∀ j : Nat,j < i → typedOk ver1 ver2 (rd_T66 ms (j : Int)) ∧ ∀ p ∈ ms.take j,p.f0 ≠ (rd_T66 ms (j : Int)).f0) ∧ Aside0 (Box3 w w' (.cells #[.slice Am ms.length cm,.slice Ar rs.length cr] 28) (.cells #[.int .i64 st1,.int .i64 ver1,.slice A1 l1.length c1] 24) (.cells #[.int .i64 st2,.int .i64 ver2,.slice A2 l2.length c2] 24)))
 case atStart => exact ⟨0,rfl,Nat.zero_add _,⟨fun j hj => by omega⟩,D⟩
 case round =>
  clear D
  obtain ⟨i,rfl,hi,HF,D⟩ := hrel
  obtain ⟨m0,m1⟩ := cells_2 D.out.h1;obtain ⟨s0,s1,s2⟩ := cells_3 D.out.h2;obtain ⟨t0,t1,t2⟩ := cells_3 D.out.h3
  by_cases h : i < ms.length
  ·have e0 : decide ((i : Int) < ms.length) = true := d_T (by omega)
   obtain ⟨adm,rfl,hx0,hx1⟩ := at66 HRm.out D.out.below i h
   have q0 : (0 ≤ (i : Int)) = True := eq_true (by omega)
   have q1 : ((i : Int) < ms.length) = True := eq_true (by omega)
   have HSZ := aS (HSM.out _ (rd_mem66 h))
   have HNX : Aside0 (typedOk ver1 ver2 (rd_T66 ms (i : Int)) → (∀ p ∈ ms.take i,p.f0 ≠ (rd_T66 ms (i : Int)).f0) → ∀ j : Nat,j < i + 1 → typedOk ver1 ver2 (rd_T66 ms (j : Int)) ∧ ∀ p ∈ ms.take j,p.f0 ≠ (rd_T66 ms (j : Int)).f0) := ⟨fun a b j hj => by
    by_cases hji : j < i
    ·exact HF.out j hji
    ·obtain rfl : j = i := by omega
     exact ⟨a,b⟩⟩
   have HC59 : Aside0 (∀ (t : ByteArray) (W : World),Below w.heap.size w W → Calls prog 59 #[.slice (some adm) i cm,.string t] W fun e w' => e = .returned (.tuple #[.string (headS t (ms.take i)).1,.bool (headS t (ms.take i)).2]) ∧ w' = W) := ⟨fun t W hb => by
    have hl : (ms.take i).length = i := by rw [List.length_take];omega
    have h5 := groatref19_Apply.at (some adm) cm (ms.take i) t W (by omega) (c_B (Kd.C_take HRm.out (by omega)) hb) (by have := HCm.out;omega)
    rw [hl] at h5
    exact h5⟩
   have hcut := cut_to (P := prog) 25 66 .i64 underlying25 HI66.out (some adm) ms.length cm (i : Int) (by omega) (by omega) HCm.out
   simp only [Int.toNat_natCast] at hcut
   generalize rd_T66 ms (i : Int) = x at *
   go_wp2
   have D_ := aS (D.out.step (b_l (Below.refl _ _) (.cells #[.string x.f0,.string x.f1] 66)))
   have P66 := aS (blk_new wr (.cells #[.string x.f0,.string x.f1] 66))
   clear D m0 m1 s0 s1 s2 t0 t1 t2 hx0 hx1
   have D := D_
   clear D_
   generalize wr.alloc _ = w5 at *
   generalize wr.heap.size = g5 at *
   obtain ⟨m0,m1⟩ := cells_2 D.out.h1;obtain ⟨s0,s1,s2⟩ := cells_3 D.out.h2;obtain ⟨t0,t1,t2⟩ := cells_3 D.out.h3
   obtain ⟨pp0,pp1⟩ := cells_2 P66.out
   have HV1 : Aside0 (∀ W,Calls prog 127 #[.string x.f0,.int .i64 ver1] W fun e w' => e = .returned (.bool (decide (verV x.f0 = (ver1,true)))) ∧ w' = W) := ⟨fun W => groatref21_version.at _ _ _ (by have := HSZ.out.1;omega)⟩
   have HV2 : Aside0 (∀ W,Calls prog 127 #[.string x.f1,.int .i64 ver2] W fun e w' => e = .returned (.bool (decide (verV x.f1 = (ver2,true)))) ∧ w' = W) := ⟨fun W => groatref21_version.at _ _ _ (by have := HSZ.out.2;omega)⟩
   have HQ1 : Aside0 (∀ W,Calls prog 128 #[.string x.f0] W fun e w' => e = .returned (.bool (reqM x.f0)) ∧ w' = W) := ⟨fun W => groatref15_Request.at _ _ (by have := HSZ.out.1;omega)⟩
   have HQ2 : Aside0 (∀ W,Calls prog 128 #[.string x.f1] W fun e w' => e = .returned (.bool (reqM x.f1)) ∧ w' = W) := ⟨fun W => groatref15_Request.at _ _ (by have := HSZ.out.2;omega)⟩
   rcases (Decidable.em (verV x.f0 = (ver1,true))).symm with u1 | u1
   ·rw [d_F u1] at HV1
    clear u1
    refine wp_region_below (by kernel_rfl) (by kernel_rfl) ?_
    iterate 7 ((with_reducible refine quiet_yes ?hw ?_);(case hw => kernel_rfl);apply Exists.intro;refine ⟨fun w' hw' => ?_,?_⟩;(have hc := below_cells hw';unfold Oper.quietAt;go_simp;first | done | (with_reducible rfl) | (with_reducible exact ⟨rfl,rfl⟩) | (go_at_call 127;(with_reducible refine (HV1.out _).mono ?_);exact fun e w2 ⟨he,hb⟩ => ⟨he,hb ▸ hw'⟩) | (go_at_call 127;(with_reducible refine (HV2.out _).mono ?_);exact fun e w2 ⟨he,hb⟩ => ⟨he,hb ▸ hw'⟩) | (go_at_call 128;(with_reducible refine (HQ1.out _).mono ?_);exact fun e w2 ⟨he,hb⟩ => ⟨he,hb ▸ hw'⟩) | (go_at_call 128;(with_reducible refine (HQ2.out _).mono ?_);exact fun e w2 ⟨he,hb⟩ => ⟨he,hb ▸ hw'⟩) | rfl | exact ⟨rfl,rfl⟩))
    simp only [Act.put,sA,sB,sC]
    iterate 6 ((with_reducible refine quiet_no ?hw ?_);(case hw => kernel_rfl))
    simp only [Act.put,sA,sB,sC]
    iterate 2 ((with_reducible refine quiet_yes ?hw ?_);(case hw => kernel_rfl);apply Exists.intro;refine ⟨fun w' hw' => ?_,?_⟩;(have hc := below_cells hw';unfold Oper.quietAt;go_simp;first | done | (with_reducible rfl) | (with_reducible exact ⟨rfl,rfl⟩) | (go_at_call 127;(with_reducible refine (HV1.out _).mono ?_);exact fun e w2 ⟨he,hb⟩ => ⟨he,hb ▸ hw'⟩) | (go_at_call 127;(with_reducible refine (HV2.out _).mono ?_);exact fun e w2 ⟨he,hb⟩ => ⟨he,hb ▸ hw'⟩) | (go_at_call 128;(with_reducible refine (HQ1.out _).mono ?_);exact fun e w2 ⟨he,hb⟩ => ⟨he,hb ▸ hw'⟩) | (go_at_call 128;(with_reducible refine (HQ2.out _).mono ?_);exact fun e w2 ⟨he,hb⟩ => ⟨he,hb ▸ hw'⟩) | rfl | exact ⟨rfl,rfl⟩))
    simp only [Act.put,sA,sB,sC]
    iterate 7 ((with_reducible refine quiet_no ?hw ?_);(case hw => kernel_rfl))
    simp only [Act.put,sA,sB,sC]
    iterate 1 ((with_reducible refine quiet_yes ?hw ?_);(case hw => kernel_rfl);apply Exists.intro;refine ⟨fun w' hw' => ?_,?_⟩;(have hc := below_cells hw';unfold Oper.quietAt;go_simp;first | done | (with_reducible rfl) | (with_reducible exact ⟨rfl,rfl⟩) | (go_at_call 127;(with_reducible refine (HV1.out _).mono ?_);exact fun e w2 ⟨he,hb⟩ => ⟨he,hb ▸ hw'⟩) | (go_at_call 127;(with_reducible refine (HV2.out _).mono ?_);exact fun e w2 ⟨he,hb⟩ => ⟨he,hb ▸ hw'⟩) | (go_at_call 128;(with_reducible refine (HQ1.out _).mono ?_);exact fun e w2 ⟨he,hb⟩ => ⟨he,hb ▸ hw'⟩) | (go_at_call 128;(with_reducible refine (HQ2.out _).mono ?_);exact fun e w2 ⟨he,hb⟩ => ⟨he,hb ▸ hw'⟩) | rfl | exact ⟨rfl,rfl⟩))
    refine wpQuiet_nil ?_
    intro wq hw'
    have D_ := aS (D.out.step hw')
    have P_ := aS (k_B P66.out hw')
    clear hw' D P66 m0 m1 s0 s1 s2 t0 t1 t2 pp0 pp1
    have D := D_
    have P66 := P_
    clear D_ P_
    obtain ⟨m0,m1⟩ := cells_2 D.out.h1;obtain ⟨s0,s1,s2⟩ := cells_3 D.out.h2;obtain ⟨t0,t1,t2⟩ := cells_3 D.out.h3
    obtain ⟨pp0,pp1⟩ := cells_2 P66.out
    simp only [Act.put,sA,sB,sC]
    go_wp2
    go_ret3
    exact ⟨⟨_,_,_,rfl,fun h => absurd h (by decide)⟩,D.out.below⟩
   rw [d_T u1] at HV1
   rcases (Decidable.em (verV x.f1 = (ver2,true))).symm with u2 | u2
   ·rw [d_F u2] at HV2
    clear u1 u2
    refine wp_region_below (by kernel_rfl) (by kernel_rfl) ?_
    iterate 4 ((with_reducible refine quiet_yes ?hw ?_);(case hw => kernel_rfl);apply Exists.intro;refine ⟨fun w' hw' => ?_,?_⟩;(have hc := below_cells hw';unfold Oper.quietAt;go_simp;first | done | (with_reducible rfl) | (with_reducible exact ⟨rfl,rfl⟩) | (go_at_call 127;(with_reducible refine (HV1.out _).mono ?_);exact fun e w2 ⟨he,hb⟩ => ⟨he,hb ▸ hw'⟩) | (go_at_call 127;(with_reducible refine (HV2.out _).mono ?_);exact fun e w2 ⟨he,hb⟩ => ⟨he,hb ▸ hw'⟩) | (go_at_call 128;(with_reducible refine (HQ1.out _).mono ?_);exact fun e w2 ⟨he,hb⟩ => ⟨he,hb ▸ hw'⟩) | (go_at_call 128;(with_reducible refine (HQ2.out _).mono ?_);exact fun e w2 ⟨he,hb⟩ => ⟨he,hb ▸ hw'⟩) | rfl | exact ⟨rfl,rfl⟩))
    simp only [Act.put,sA,sB,sC]
    iterate 3 ((with_reducible refine quiet_yes ?hw ?_);(case hw => kernel_rfl);apply Exists.intro;refine ⟨fun w' hw' => ?_,?_⟩;(have hc := below_cells hw';unfold Oper.quietAt;go_simp;first | done | (with_reducible rfl) | (with_reducible exact ⟨rfl,rfl⟩) | (go_at_call 127;(with_reducible refine (HV1.out _).mono ?_);exact fun e w2 ⟨he,hb⟩ => ⟨he,hb ▸ hw'⟩) | (go_at_call 127;(with_reducible refine (HV2.out _).mono ?_);exact fun e w2 ⟨he,hb⟩ => ⟨he,hb ▸ hw'⟩) | (go_at_call 128;(with_reducible refine (HQ1.out _).mono ?_);exact fun e w2 ⟨he,hb⟩ => ⟨he,hb ▸ hw'⟩) | (go_at_call 128;(with_reducible refine (HQ2.out _).mono ?_);exact fun e w2 ⟨he,hb⟩ => ⟨he,hb ▸ hw'⟩) | rfl | exact ⟨rfl,rfl⟩))
    simp only [Act.put,sA,sB,sC]
    iterate 4 ((with_reducible refine quiet_yes ?hw ?_);(case hw => kernel_rfl);apply Exists.intro;refine ⟨fun w' hw' => ?_,?_⟩;(have hc := below_cells hw';unfold Oper.quietAt;go_simp;first | done | (with_reducible rfl) | (with_reducible exact ⟨rfl,rfl⟩) | (go_at_call 127;(with_reducible refine (HV1.out _).mono ?_);exact fun e w2 ⟨he,hb⟩ => ⟨he,hb ▸ hw'⟩) | (go_at_call 127;(with_reducible refine (HV2.out _).mono ?_);exact fun e w2 ⟨he,hb⟩ => ⟨he,hb ▸ hw'⟩) | (go_at_call 128;(with_reducible refine (HQ1.out _).mono ?_);exact fun e w2 ⟨he,hb⟩ => ⟨he,hb ▸ hw'⟩) | (go_at_call 128;(with_reducible refine (HQ2.out _).mono ?_);exact fun e w2 ⟨he,hb⟩ => ⟨he,hb ▸ hw'⟩) | rfl | exact ⟨rfl,rfl⟩))
    simp only [Act.put,sA,sB,sC]
    iterate 4 ((with_reducible refine quiet_yes ?hw ?_);(case hw => kernel_rfl);apply Exists.intro;refine ⟨fun w' hw' => ?_,?_⟩;(have hc := below_cells hw';unfold Oper.quietAt;go_simp;first | done | (with_reducible rfl) | (with_reducible exact ⟨rfl,rfl⟩) | (go_at_call 127;(with_reducible refine (HV1.out _).mono ?_);exact fun e w2 ⟨he,hb⟩ => ⟨he,hb ▸ hw'⟩) | (go_at_call 127;(with_reducible refine (HV2.out _).mono ?_);exact fun e w2 ⟨he,hb⟩ => ⟨he,hb ▸ hw'⟩) | (go_at_call 128;(with_reducible refine (HQ1.out _).mono ?_);exact fun e w2 ⟨he,hb⟩ => ⟨he,hb ▸ hw'⟩) | (go_at_call 128;(with_reducible refine (HQ2.out _).mono ?_);exact fun e w2 ⟨he,hb⟩ => ⟨he,hb ▸ hw'⟩) | rfl | exact ⟨rfl,rfl⟩))
    simp only [Act.put,sA,sB,sC]
    iterate 7 ((with_reducible refine quiet_no ?hw ?_);(case hw => kernel_rfl))
    simp only [Act.put,sA,sB,sC]
    iterate 1 ((with_reducible refine quiet_yes ?hw ?_);(case hw => kernel_rfl);apply Exists.intro;refine ⟨fun w' hw' => ?_,?_⟩;(have hc := below_cells hw';unfold Oper.quietAt;go_simp;first | done | (with_reducible rfl) | (with_reducible exact ⟨rfl,rfl⟩) | (go_at_call 127;(with_reducible refine (HV1.out _).mono ?_);exact fun e w2 ⟨he,hb⟩ => ⟨he,hb ▸ hw'⟩) | (go_at_call 127;(with_reducible refine (HV2.out _).mono ?_);exact fun e w2 ⟨he,hb⟩ => ⟨he,hb ▸ hw'⟩) | (go_at_call 128;(with_reducible refine (HQ1.out _).mono ?_);exact fun e w2 ⟨he,hb⟩ => ⟨he,hb ▸ hw'⟩) | (go_at_call 128;(with_reducible refine (HQ2.out _).mono ?_);exact fun e w2 ⟨he,hb⟩ => ⟨he,hb ▸ hw'⟩) | rfl | exact ⟨rfl,rfl⟩))
    refine wpQuiet_nil ?_
    intro wq hw'
    have D_ := aS (D.out.step hw')
    have P_ := aS (k_B P66.out hw')
    clear hw' D P66 m0 m1 s0 s1 s2 t0 t1 t2 pp0 pp1
    have D := D_
    have P66 := P_
    clear D_ P_
    obtain ⟨m0,m1⟩ := cells_2 D.out.h1;obtain ⟨s0,s1,s2⟩ := cells_3 D.out.h2;obtain ⟨t0,t1,t2⟩ := cells_3 D.out.h3
    obtain ⟨pp0,pp1⟩ := cells_2 P66.out
    simp only [Act.put,sA,sB,sC]
    go_wp2
    go_ret3
    exact ⟨⟨_,_,_,rfl,fun h => absurd h (by decide)⟩,D.out.below⟩
   rw [d_T u2] at HV2
   have U12 := aS (And.intro u1 u2)
   clear u1 u2
   obtain ⟨b1,hb1⟩ : ∃ b,reqM x.f0 = b := ⟨_,rfl⟩
   obtain ⟨b2,hb2⟩ : ∃ b,reqM x.f1 = b := ⟨_,rfl⟩
   rw [hb1] at HQ1
   rw [hb2] at HQ2
   rcases (show (b1 = true ∧ b2 = false) ∨ (b1 = false ∧ b2 = true) ∨ (b1 = b2) by cases b1 <;> cases b2 <;> simp) with ⟨rfl,rfl⟩ | ⟨rfl,rfl⟩ | u3
   ·clear hb1 hb2
    refine wp_region_below (by kernel_rfl) (by kernel_rfl) ?_
    iterate 4 ((with_reducible refine quiet_yes ?hw ?_);(case hw => kernel_rfl);apply Exists.intro;refine ⟨fun w' hw' => ?_,?_⟩;(have hc := below_cells hw';unfold Oper.quietAt;go_simp;first | done | (with_reducible rfl) | (with_reducible exact ⟨rfl,rfl⟩) | (go_at_call 127;(with_reducible refine (HV1.out _).mono ?_);exact fun e w2 ⟨he,hb⟩ => ⟨he,hb ▸ hw'⟩) | (go_at_call 127;(with_reducible refine (HV2.out _).mono ?_);exact fun e w2 ⟨he,hb⟩ => ⟨he,hb ▸ hw'⟩) | (go_at_call 128;(with_reducible refine (HQ1.out _).mono ?_);exact fun e w2 ⟨he,hb⟩ => ⟨he,hb ▸ hw'⟩) | (go_at_call 128;(with_reducible refine (HQ2.out _).mono ?_);exact fun e w2 ⟨he,hb⟩ => ⟨he,hb ▸ hw'⟩) | rfl | exact ⟨rfl,rfl⟩))
    simp only [Act.put,sA,sB,sC]
    iterate 3 ((with_reducible refine quiet_yes ?hw ?_);(case hw => kernel_rfl);apply Exists.intro;refine ⟨fun w' hw' => ?_,?_⟩;(have hc := below_cells hw';unfold Oper.quietAt;go_simp;first | done | (with_reducible rfl) | (with_reducible exact ⟨rfl,rfl⟩) | (go_at_call 127;(with_reducible refine (HV1.out _).mono ?_);exact fun e w2 ⟨he,hb⟩ => ⟨he,hb ▸ hw'⟩) | (go_at_call 127;(with_reducible refine (HV2.out _).mono ?_);exact fun e w2 ⟨he,hb⟩ => ⟨he,hb ▸ hw'⟩) | (go_at_call 128;(with_reducible refine (HQ1.out _).mono ?_);exact fun e w2 ⟨he,hb⟩ => ⟨he,hb ▸ hw'⟩) | (go_at_call 128;(with_reducible refine (HQ2.out _).mono ?_);exact fun e w2 ⟨he,hb⟩ => ⟨he,hb ▸ hw'⟩) | rfl | exact ⟨rfl,rfl⟩))
    simp only [Act.put,sA,sB,sC]
    iterate 4 ((with_reducible refine quiet_yes ?hw ?_);(case hw => kernel_rfl);apply Exists.intro;refine ⟨fun w' hw' => ?_,?_⟩;(have hc := below_cells hw';unfold Oper.quietAt;go_simp;first | done | (with_reducible rfl) | (with_reducible exact ⟨rfl,rfl⟩) | (go_at_call 127;(with_reducible refine (HV1.out _).mono ?_);exact fun e w2 ⟨he,hb⟩ => ⟨he,hb ▸ hw'⟩) | (go_at_call 127;(with_reducible refine (HV2.out _).mono ?_);exact fun e w2 ⟨he,hb⟩ => ⟨he,hb ▸ hw'⟩) | (go_at_call 128;(with_reducible refine (HQ1.out _).mono ?_);exact fun e w2 ⟨he,hb⟩ => ⟨he,hb ▸ hw'⟩) | (go_at_call 128;(with_reducible refine (HQ2.out _).mono ?_);exact fun e w2 ⟨he,hb⟩ => ⟨he,hb ▸ hw'⟩) | rfl | exact ⟨rfl,rfl⟩))
    simp only [Act.put,sA,sB,sC]
    iterate 4 ((with_reducible refine quiet_yes ?hw ?_);(case hw => kernel_rfl);apply Exists.intro;refine ⟨fun w' hw' => ?_,?_⟩;(have hc := below_cells hw';unfold Oper.quietAt;go_simp;first | done | (with_reducible rfl) | (with_reducible exact ⟨rfl,rfl⟩) | (go_at_call 127;(with_reducible refine (HV1.out _).mono ?_);exact fun e w2 ⟨he,hb⟩ => ⟨he,hb ▸ hw'⟩) | (go_at_call 127;(with_reducible refine (HV2.out _).mono ?_);exact fun e w2 ⟨he,hb⟩ => ⟨he,hb ▸ hw'⟩) | (go_at_call 128;(with_reducible refine (HQ1.out _).mono ?_);exact fun e w2 ⟨he,hb⟩ => ⟨he,hb ▸ hw'⟩) | (go_at_call 128;(with_reducible refine (HQ2.out _).mono ?_);exact fun e w2 ⟨he,hb⟩ => ⟨he,hb ▸ hw'⟩) | rfl | exact ⟨rfl,rfl⟩))
    simp only [Act.put,sA,sB,sC]
    iterate 4 ((with_reducible refine quiet_yes ?hw ?_);(case hw => kernel_rfl);apply Exists.intro;refine ⟨fun w' hw' => ?_,?_⟩;(have hc := below_cells hw';unfold Oper.quietAt;go_simp;first | done | (with_reducible rfl) | (with_reducible exact ⟨rfl,rfl⟩) | (go_at_call 127;(with_reducible refine (HV1.out _).mono ?_);exact fun e w2 ⟨he,hb⟩ => ⟨he,hb ▸ hw'⟩) | (go_at_call 127;(with_reducible refine (HV2.out _).mono ?_);exact fun e w2 ⟨he,hb⟩ => ⟨he,hb ▸ hw'⟩) | (go_at_call 128;(with_reducible refine (HQ1.out _).mono ?_);exact fun e w2 ⟨he,hb⟩ => ⟨he,hb ▸ hw'⟩) | (go_at_call 128;(with_reducible refine (HQ2.out _).mono ?_);exact fun e w2 ⟨he,hb⟩ => ⟨he,hb ▸ hw'⟩) | rfl | exact ⟨rfl,rfl⟩))
    simp only [Act.put,sA,sB,sC]
    iterate 4 ((with_reducible refine quiet_yes ?hw ?_);(case hw => kernel_rfl);apply Exists.intro;refine ⟨fun w' hw' => ?_,?_⟩;(have hc := below_cells hw';unfold Oper.quietAt;go_simp;first | done | (with_reducible rfl) | (with_reducible exact ⟨rfl,rfl⟩) | (go_at_call 127;(with_reducible refine (HV1.out _).mono ?_);exact fun e w2 ⟨he,hb⟩ => ⟨he,hb ▸ hw'⟩) | (go_at_call 127;(with_reducible refine (HV2.out _).mono ?_);exact fun e w2 ⟨he,hb⟩ => ⟨he,hb ▸ hw'⟩) | (go_at_call 128;(with_reducible refine (HQ1.out _).mono ?_);exact fun e w2 ⟨he,hb⟩ => ⟨he,hb ▸ hw'⟩) | (go_at_call 128;(with_reducible refine (HQ2.out _).mono ?_);exact fun e w2 ⟨he,hb⟩ => ⟨he,hb ▸ hw'⟩) | rfl | exact ⟨rfl,rfl⟩))
    refine wpQuiet_nil ?_
    intro wq hw'
    have D_ := aS (D.out.step hw')
    have P_ := aS (k_B P66.out hw')
    clear hw' D P66 m0 m1 s0 s1 s2 t0 t1 t2 pp0 pp1
    have D := D_
    have P66 := P_
    clear D_ P_
    obtain ⟨m0,m1⟩ := cells_2 D.out.h1;obtain ⟨s0,s1,s2⟩ := cells_3 D.out.h2;obtain ⟨t0,t1,t2⟩ := cells_3 D.out.h3
    obtain ⟨pp0,pp1⟩ := cells_2 P66.out
    simp only [Act.put,sA,sB,sC]
    go_wp2
    go_ret3
    exact ⟨⟨_,_,_,rfl,fun h => absurd h (by decide)⟩,D.out.below⟩
   ·clear hb1 hb2
    refine wp_region_below (by kernel_rfl) (by kernel_rfl) ?_
    iterate 4 ((with_reducible refine quiet_yes ?hw ?_);(case hw => kernel_rfl);apply Exists.intro;refine ⟨fun w' hw' => ?_,?_⟩;(have hc := below_cells hw';unfold Oper.quietAt;go_simp;first | done | (with_reducible rfl) | (with_reducible exact ⟨rfl,rfl⟩) | (go_at_call 127;(with_reducible refine (HV1.out _).mono ?_);exact fun e w2 ⟨he,hb⟩ => ⟨he,hb ▸ hw'⟩) | (go_at_call 127;(with_reducible refine (HV2.out _).mono ?_);exact fun e w2 ⟨he,hb⟩ => ⟨he,hb ▸ hw'⟩) | (go_at_call 128;(with_reducible refine (HQ1.out _).mono ?_);exact fun e w2 ⟨he,hb⟩ => ⟨he,hb ▸ hw'⟩) | (go_at_call 128;(with_reducible refine (HQ2.out _).mono ?_);exact fun e w2 ⟨he,hb⟩ => ⟨he,hb ▸ hw'⟩) | rfl | exact ⟨rfl,rfl⟩))
    simp only [Act.put,sA,sB,sC]
    iterate 3 ((with_reducible refine quiet_yes ?hw ?_);(case hw => kernel_rfl);apply Exists.intro;refine ⟨fun w' hw' => ?_,?_⟩;(have hc := below_cells hw';unfold Oper.quietAt;go_simp;first | done | (with_reducible rfl) | (with_reducible exact ⟨rfl,rfl⟩) | (go_at_call 127;(with_reducible refine (HV1.out _).mono ?_);exact fun e w2 ⟨he,hb⟩ => ⟨he,hb ▸ hw'⟩) | (go_at_call 127;(with_reducible refine (HV2.out _).mono ?_);exact fun e w2 ⟨he,hb⟩ => ⟨he,hb ▸ hw'⟩) | (go_at_call 128;(with_reducible refine (HQ1.out _).mono ?_);exact fun e w2 ⟨he,hb⟩ => ⟨he,hb ▸ hw'⟩) | (go_at_call 128;(with_reducible refine (HQ2.out _).mono ?_);exact fun e w2 ⟨he,hb⟩ => ⟨he,hb ▸ hw'⟩) | rfl | exact ⟨rfl,rfl⟩))
    simp only [Act.put,sA,sB,sC]
    iterate 4 ((with_reducible refine quiet_yes ?hw ?_);(case hw => kernel_rfl);apply Exists.intro;refine ⟨fun w' hw' => ?_,?_⟩;(have hc := below_cells hw';unfold Oper.quietAt;go_simp;first | done | (with_reducible rfl) | (with_reducible exact ⟨rfl,rfl⟩) | (go_at_call 127;(with_reducible refine (HV1.out _).mono ?_);exact fun e w2 ⟨he,hb⟩ => ⟨he,hb ▸ hw'⟩) | (go_at_call 127;(with_reducible refine (HV2.out _).mono ?_);exact fun e w2 ⟨he,hb⟩ => ⟨he,hb ▸ hw'⟩) | (go_at_call 128;(with_reducible refine (HQ1.out _).mono ?_);exact fun e w2 ⟨he,hb⟩ => ⟨he,hb ▸ hw'⟩) | (go_at_call 128;(with_reducible refine (HQ2.out _).mono ?_);exact fun e w2 ⟨he,hb⟩ => ⟨he,hb ▸ hw'⟩) | rfl | exact ⟨rfl,rfl⟩))
    simp only [Act.put,sA,sB,sC]
    iterate 4 ((with_reducible refine quiet_yes ?hw ?_);(case hw => kernel_rfl);apply Exists.intro;refine ⟨fun w' hw' => ?_,?_⟩;(have hc := below_cells hw';unfold Oper.quietAt;go_simp;first | done | (with_reducible rfl) | (with_reducible exact ⟨rfl,rfl⟩) | (go_at_call 127;(with_reducible refine (HV1.out _).mono ?_);exact fun e w2 ⟨he,hb⟩ => ⟨he,hb ▸ hw'⟩) | (go_at_call 127;(with_reducible refine (HV2.out _).mono ?_);exact fun e w2 ⟨he,hb⟩ => ⟨he,hb ▸ hw'⟩) | (go_at_call 128;(with_reducible refine (HQ1.out _).mono ?_);exact fun e w2 ⟨he,hb⟩ => ⟨he,hb ▸ hw'⟩) | (go_at_call 128;(with_reducible refine (HQ2.out _).mono ?_);exact fun e w2 ⟨he,hb⟩ => ⟨he,hb ▸ hw'⟩) | rfl | exact ⟨rfl,rfl⟩))
    simp only [Act.put,sA,sB,sC]
    iterate 4 ((with_reducible refine quiet_yes ?hw ?_);(case hw => kernel_rfl);apply Exists.intro;refine ⟨fun w' hw' => ?_,?_⟩;(have hc := below_cells hw';unfold Oper.quietAt;go_simp;first | done | (with_reducible rfl) | (with_reducible exact ⟨rfl,rfl⟩) | (go_at_call 127;(with_reducible refine (HV1.out _).mono ?_);exact fun e w2 ⟨he,hb⟩ => ⟨he,hb ▸ hw'⟩) | (go_at_call 127;(with_reducible refine (HV2.out _).mono ?_);exact fun e w2 ⟨he,hb⟩ => ⟨he,hb ▸ hw'⟩) | (go_at_call 128;(with_reducible refine (HQ1.out _).mono ?_);exact fun e w2 ⟨he,hb⟩ => ⟨he,hb ▸ hw'⟩) | (go_at_call 128;(with_reducible refine (HQ2.out _).mono ?_);exact fun e w2 ⟨he,hb⟩ => ⟨he,hb ▸ hw'⟩) | rfl | exact ⟨rfl,rfl⟩))
    simp only [Act.put,sA,sB,sC]
    iterate 4 ((with_reducible refine quiet_yes ?hw ?_);(case hw => kernel_rfl);apply Exists.intro;refine ⟨fun w' hw' => ?_,?_⟩;(have hc := below_cells hw';unfold Oper.quietAt;go_simp;first | done | (with_reducible rfl) | (with_reducible exact ⟨rfl,rfl⟩) | (go_at_call 127;(with_reducible refine (HV1.out _).mono ?_);exact fun e w2 ⟨he,hb⟩ => ⟨he,hb ▸ hw'⟩) | (go_at_call 127;(with_reducible refine (HV2.out _).mono ?_);exact fun e w2 ⟨he,hb⟩ => ⟨he,hb ▸ hw'⟩) | (go_at_call 128;(with_reducible refine (HQ1.out _).mono ?_);exact fun e w2 ⟨he,hb⟩ => ⟨he,hb ▸ hw'⟩) | (go_at_call 128;(with_reducible refine (HQ2.out _).mono ?_);exact fun e w2 ⟨he,hb⟩ => ⟨he,hb ▸ hw'⟩) | rfl | exact ⟨rfl,rfl⟩))
    refine wpQuiet_nil ?_
    intro wq hw'
    have D_ := aS (D.out.step hw')
    have P_ := aS (k_B P66.out hw')
    clear hw' D P66 m0 m1 s0 s1 s2 t0 t1 t2 pp0 pp1
    have D := D_
    have P66 := P_
    clear D_ P_
    obtain ⟨m0,m1⟩ := cells_2 D.out.h1;obtain ⟨s0,s1,s2⟩ := cells_3 D.out.h2;obtain ⟨t0,t1,t2⟩ := cells_3 D.out.h3
    obtain ⟨pp0,pp1⟩ := cells_2 P66.out
    simp only [Act.put,sA,sB,sC]
    go_wp2
    go_ret3
    exact ⟨⟨_,_,_,rfl,fun h => absurd h (by decide)⟩,D.out.below⟩
   subst u3
   have HTY : Aside0 (typedOk ver1 ver2 x) := ⟨⟨U12.out.1,U12.out.2,hb1.trans hb2.symm⟩⟩
   clear hb1 hb2
   have ebb : (b1 != b1) = false := by cases b1 <;> rfl
   refine wp_region_below (by kernel_rfl) (by kernel_rfl) ?_
   iterate 4 ((with_reducible refine quiet_yes ?hw ?_);(case hw => kernel_rfl);apply Exists.intro;refine ⟨fun w' hw' => ?_,?_⟩;(have hc := below_cells hw';unfold Oper.quietAt;go_simp;first | done | (with_reducible rfl) | (with_reducible exact ⟨rfl,rfl⟩) | (go_at_call 127;(with_reducible refine (HV1.out _).mono ?_);exact fun e w2 ⟨he,hb⟩ => ⟨he,hb ▸ hw'⟩) | (go_at_call 127;(with_reducible refine (HV2.out _).mono ?_);exact fun e w2 ⟨he,hb⟩ => ⟨he,hb ▸ hw'⟩) | (go_at_call 128;(with_reducible refine (HQ1.out _).mono ?_);exact fun e w2 ⟨he,hb⟩ => ⟨he,hb ▸ hw'⟩) | (go_at_call 128;(with_reducible refine (HQ2.out _).mono ?_);exact fun e w2 ⟨he,hb⟩ => ⟨he,hb ▸ hw'⟩) | rfl | exact ⟨rfl,rfl⟩))
   simp only [Act.put,sA,sB,sC]
   iterate 3 ((with_reducible refine quiet_yes ?hw ?_);(case hw => kernel_rfl);apply Exists.intro;refine ⟨fun w' hw' => ?_,?_⟩;(have hc := below_cells hw';unfold Oper.quietAt;go_simp;first | done | (with_reducible rfl) | (with_reducible exact ⟨rfl,rfl⟩) | (go_at_call 127;(with_reducible refine (HV1.out _).mono ?_);exact fun e w2 ⟨he,hb⟩ => ⟨he,hb ▸ hw'⟩) | (go_at_call 127;(with_reducible refine (HV2.out _).mono ?_);exact fun e w2 ⟨he,hb⟩ => ⟨he,hb ▸ hw'⟩) | (go_at_call 128;(with_reducible refine (HQ1.out _).mono ?_);exact fun e w2 ⟨he,hb⟩ => ⟨he,hb ▸ hw'⟩) | (go_at_call 128;(with_reducible refine (HQ2.out _).mono ?_);exact fun e w2 ⟨he,hb⟩ => ⟨he,hb ▸ hw'⟩) | rfl | exact ⟨rfl,rfl⟩))
   simp only [Act.put,sA,sB,sC]
   iterate 4 ((with_reducible refine quiet_yes ?hw ?_);(case hw => kernel_rfl);apply Exists.intro;refine ⟨fun w' hw' => ?_,?_⟩;(have hc := below_cells hw';unfold Oper.quietAt;go_simp;first | done | (with_reducible rfl) | (with_reducible exact ⟨rfl,rfl⟩) | (go_at_call 127;(with_reducible refine (HV1.out _).mono ?_);exact fun e w2 ⟨he,hb⟩ => ⟨he,hb ▸ hw'⟩) | (go_at_call 127;(with_reducible refine (HV2.out _).mono ?_);exact fun e w2 ⟨he,hb⟩ => ⟨he,hb ▸ hw'⟩) | (go_at_call 128;(with_reducible refine (HQ1.out _).mono ?_);exact fun e w2 ⟨he,hb⟩ => ⟨he,hb ▸ hw'⟩) | (go_at_call 128;(with_reducible refine (HQ2.out _).mono ?_);exact fun e w2 ⟨he,hb⟩ => ⟨he,hb ▸ hw'⟩) | rfl | exact ⟨rfl,rfl⟩))
   simp only [Act.put,sA,sB,sC]
   iterate 4 ((with_reducible refine quiet_yes ?hw ?_);(case hw => kernel_rfl);apply Exists.intro;refine ⟨fun w' hw' => ?_,?_⟩;(have hc := below_cells hw';unfold Oper.quietAt;go_simp;first | done | (with_reducible rfl) | (with_reducible exact ⟨rfl,rfl⟩) | (go_at_call 127;(with_reducible refine (HV1.out _).mono ?_);exact fun e w2 ⟨he,hb⟩ => ⟨he,hb ▸ hw'⟩) | (go_at_call 127;(with_reducible refine (HV2.out _).mono ?_);exact fun e w2 ⟨he,hb⟩ => ⟨he,hb ▸ hw'⟩) | (go_at_call 128;(with_reducible refine (HQ1.out _).mono ?_);exact fun e w2 ⟨he,hb⟩ => ⟨he,hb ▸ hw'⟩) | (go_at_call 128;(with_reducible refine (HQ2.out _).mono ?_);exact fun e w2 ⟨he,hb⟩ => ⟨he,hb ▸ hw'⟩) | rfl | exact ⟨rfl,rfl⟩))
   simp only [Act.put,sA,sB,sC]
   iterate 4 ((with_reducible refine quiet_yes ?hw ?_);(case hw => kernel_rfl);apply Exists.intro;refine ⟨fun w' hw' => ?_,?_⟩;(have hc := below_cells hw';unfold Oper.quietAt;go_simp;first | done | (with_reducible rfl) | (with_reducible exact ⟨rfl,rfl⟩) | (go_at_call 127;(with_reducible refine (HV1.out _).mono ?_);exact fun e w2 ⟨he,hb⟩ => ⟨he,hb ▸ hw'⟩) | (go_at_call 127;(with_reducible refine (HV2.out _).mono ?_);exact fun e w2 ⟨he,hb⟩ => ⟨he,hb ▸ hw'⟩) | (go_at_call 128;(with_reducible refine (HQ1.out _).mono ?_);exact fun e w2 ⟨he,hb⟩ => ⟨he,hb ▸ hw'⟩) | (go_at_call 128;(with_reducible refine (HQ2.out _).mono ?_);exact fun e w2 ⟨he,hb⟩ => ⟨he,hb ▸ hw'⟩) | rfl | exact ⟨rfl,rfl⟩))
   simp only [Act.put,sA,sB,sC]
   iterate 4 ((with_reducible refine quiet_yes ?hw ?_);(case hw => kernel_rfl);apply Exists.intro;refine ⟨fun w' hw' => ?_,?_⟩;(have hc := below_cells hw';unfold Oper.quietAt;go_simp;first | done | (with_reducible rfl) | (with_reducible exact ⟨rfl,rfl⟩) | (go_at_call 127;(with_reducible refine (HV1.out _).mono ?_);exact fun e w2 ⟨he,hb⟩ => ⟨he,hb ▸ hw'⟩) | (go_at_call 127;(with_reducible refine (HV2.out _).mono ?_);exact fun e w2 ⟨he,hb⟩ => ⟨he,hb ▸ hw'⟩) | (go_at_call 128;(with_reducible refine (HQ1.out _).mono ?_);exact fun e w2 ⟨he,hb⟩ => ⟨he,hb ▸ hw'⟩) | (go_at_call 128;(with_reducible refine (HQ2.out _).mono ?_);exact fun e w2 ⟨he,hb⟩ => ⟨he,hb ▸ hw'⟩) | rfl | exact ⟨rfl,rfl⟩))
   refine wpQuiet_nil ?_
   intro wq hw'
   have D_ := aS (D.out.step hw')
   have P_ := aS (k_B P66.out hw')
   clear hw' D P66 m0 m1 s0 s1 s2 t0 t1 t2 pp0 pp1
   have D := D_
   have P66 := P_
   clear D_ P_
   obtain ⟨m0,m1⟩ := cells_2 D.out.h1;obtain ⟨s0,s1,s2⟩ := cells_3 D.out.h2;obtain ⟨t0,t1,t2⟩ := cells_3 D.out.h3
   obtain ⟨pp0,pp1⟩ := cells_2 P66.out
   simp only [Act.put,sA,sB,sC]
   go_wp2
   have HA : Aside0 (∀ W,Below w5.heap.size w5 W → True) := ⟨fun _ _ => trivial⟩
   obtain ⟨hh,hhq⟩ : ∃ h,headS x.f0 (ms.take i) = h := ⟨_,rfl⟩
   have HH := aS hhq
   have HC := aS (fun W hb => HC59.out x.f0 W hb)
   rw [hhq] at HC
   clear hhq
   refine wp_region_below (by kernel_rfl) (by kernel_rfl) ?_
   repeat ((with_reducible refine quiet_yes ?hw ?_);(case hw => kernel_rfl);apply Exists.intro;refine ⟨fun w' hw' => ?_,?_⟩;(have hc := below_cells hw';unfold Oper.quietAt;go_simp;first | done | (with_reducible rfl) | (with_reducible exact ⟨rfl,rfl⟩) | (go_at_call 59;exact (HC.out _ (b_s D.out.below hw')).mono fun e w2 ⟨he,hb⟩ => ⟨he,hb ▸ hw'⟩) | rfl | exact ⟨rfl,rfl⟩))
   refine wpQuiet_nil ?_
   intro wq hw'
   have D_ := aS (D.out.step hw')
   have P_ := aS (k_B P66.out hw')
   clear hw' D P66 m0 m1 s0 s1 s2 t0 t1 t2 pp0 pp1
   have D := D_
   have P66 := P_
   clear D_ P_
   obtain ⟨m0,m1⟩ := cells_2 D.out.h1;obtain ⟨s0,s1,s2⟩ := cells_3 D.out.h2;obtain ⟨t0,t1,t2⟩ := cells_3 D.out.h3
   obtain ⟨pp0,pp1⟩ := cells_2 P66.out
   simp only [Act.put,sA,sB,sC]
   rcases hh with ⟨hs,hk⟩
   simp only at *
   cases hk with
   | true =>
    go_wp2
    go_ret3
    exact ⟨⟨_,_,_,rfl,fun h => absurd h (by decide)⟩,D.out.below⟩
   | false =>
    have HN := aS (HNX.out HTY.out (headS_false (by rw [HH.out])))
    go_wp2
    obtain ⟨g,rfl⟩ : ∃ g,gk = g + 1 := ⟨gk - 1,by omega⟩
    go_roundg g
    case rel => exact ⟨i + 1,rfl,by omega,HN,D⟩
    case measure => omega
  ·have e0 : decide ((i : Int) < ms.length) = false := d_F (by omega)
   have HM : Aside0 (∀ j : Nat,j < ms.length → typedOk ver1 ver2 (rd_T66 ms (j : Int)) ∧ ∀ p ∈ ms.take j,p.f0 ≠ (rd_T66 ms (j : Int)).f0) := ⟨fun j hj => HF.out j (by omega)⟩
   rcases (Decidable.em (256 < rs.length)) with q3 | q3
   ·have d0 : decide (256 < rs.length) = true := d_T q3
    have d1 : decide (256 < (rs.length : Int)) = true := d_T (by omega)
    clear q3
    go_wp2
    go_ret3
    exact ⟨⟨_,_,_,rfl,fun h => absurd h (by decide)⟩,D.out.below⟩
   have d0 : decide (256 < rs.length) = false := d_F q3
   have d1 : decide (256 < (rs.length : Int)) = false := d_F (by omega)
   have Q6 := aS (Nat.le_of_not_lt q3)
   clear q3
   go_wp2
   clear m0 m1 s0 s1 s2 t0 t1 t2 d0 d1
   go_loopg [13] rs.length (fun g v13 w' => ∃ i : Nat,v13 = .int .i64 i ∧ i + g = rs.length ∧ Aside0 (∀ j : Nat,j < i → ruleOk l1 l2 (rd_T94 rs (j : Int)) ∧ ∀ p ∈ rs.take j,twiceS p (rd_T94 rs (j : Int)) = false) ∧ Aside0 (Box3 w w' (.cells #[.slice Am ms.length cm,.slice Ar rs.length cr] 28) (.cells #[.int .i64 st1,.int .i64 ver1,.slice A1 l1.length c1] 24) (.cells #[.int .i64 st2,.int .i64 ver2,.slice A2 l2.length c2] 24)))
   case atStart => exact ⟨0,rfl,Nat.zero_add _,⟨fun j hj => by omega⟩,D⟩
   case round =>
    clear D HF hi h e0
    obtain ⟨i,rfl,hi,HF,D⟩ := hrel
    obtain ⟨m0,m1⟩ := cells_2 D.out.h1;obtain ⟨s0,s1,s2⟩ := cells_3 D.out.h2;obtain ⟨t0,t1,t2⟩ := cells_3 D.out.h3
    by_cases h : i < rs.length
    ·have e0 : decide ((i : Int) < rs.length) = true := d_T (by omega)
     obtain ⟨adr,A4,c4,rfl,hx0,hx1,hx2,hx3,hx4,hx5,hx6⟩ := at94 HRr.out (Below.refl _ _) i h
     have HX : Aside0 (∀ W,Below w.heap.size w W → W.cell? (adr.add (i * 5)) = some (.int .i64 (rd_T94 rs (i : Int)).f0) ∧ W.cell? ⟨(adr.add (i * 5)).block,(adr.add (i * 5)).off + 1,none⟩ = some (.int .i64 (rd_T94 rs (i : Int)).f1) ∧ W.cell? ⟨(adr.add (i * 5)).block,(adr.add (i * 5)).off + 2,none⟩ = some (.int .i64 (rd_T94 rs (i : Int)).f2) ∧ W.cell? ⟨(adr.add (i * 5)).block,(adr.add (i * 5)).off + 3,none⟩ = some (.string (rd_T94 rs (i : Int)).f3) ∧ W.cell? ⟨(adr.add (i * 5)).block,(adr.add (i * 5)).off + 4,none⟩ = some (.slice A4 (rd_T94 rs (i : Int)).f4.length c4)) :=
      ⟨fun W hb => have up : ∀ {a : Addr} {v : Value},w.cell? a = some v → W.cell? a = some v := fun hx => (hb.cell (World.block_lt_of_cell? w _ hx)).trans hx
       ⟨up hx0,up hx1,up hx2,up hx3,up hx4⟩⟩
     have X5 := aS hx5
     have X6 := aS hx6
     clear hx0 hx1 hx2 hx3 hx4 hx5 hx6
     have q0 : (0 ≤ (i : Int)) = True := eq_true (by omega)
     have q1 : ((i : Int) < rs.length) = True := eq_true (by omega)
     have HSX := aS (HSR.out _ (rd_mem94 h))
     have HNX : Aside0 (ruleOk l1 l2 (rd_T94 rs (i : Int)) → (∀ p ∈ rs.take i,twiceS p (rd_T94 rs (i : Int)) = false) → ∀ j : Nat,j < i + 1 → ruleOk l1 l2 (rd_T94 rs (j : Int)) ∧ ∀ p ∈ rs.take j,twiceS p (rd_T94 rs (j : Int)) = false) := ⟨fun a b j hj => by
      by_cases hji : j < i
      ·exact HF.out j hji
      ·obtain rfl : j = i := by omega
       exact ⟨a,b⟩⟩
     generalize rd_T94 rs (i : Int) = x at *
     go_wp2
     refine region_grow (by kernel_rfl) 8 dst21 (post21 (.agg #[.int .i64 x.f0,.int .i64 x.f1,.int .i64 x.f2,.string x.f3,.slice A4 x.f4.length c4]) (.agg #[.int .i64 st1,.int .i64 ver1,.slice A1 l1.length c1]) (.agg #[.int .i64 st2,.int .i64 ver2,.slice A2 l2.length c2]) (ruleOk l1 l2 x) w.heap.size (adr.add (i * 5)) (.slice (some adr) rs.length cr) i) (fun _ _ _ _ => True) (by decide) ?rsym ?rst ?rlow ?rgrow ?rinj ?rsz ?rlate ?rtail
     case rsym => exact fun _ _ _ _ _ => trivial
     case rst =>
      intro i' u W W' hp hb
      match i',hp with
      | 0,hp => exact hp
      | 1,hp => exact hp
      | 2,hp => exact hp
      | 3,hp => exact hp
      | 4,hp => exact hp
      | 5,hp => exact hp
      | 6,hp => exact hp
      | n + 7,hp => exact hp
     case rlow =>
      intro i' o hi' ho
      rcases (show i' = 0 ∨ i' = 1 ∨ i' = 2 ∨ i' = 3 ∨ i' = 4 ∨ i' = 5 ∨ i' = 6 ∨ i' = 7 by omega) with rfl | rfl | rfl | rfl | rfl | rfl | rfl | rfl <;> (cases ho;exact ⟨rfl,rfl,by decide⟩)
     case rinj =>
      intro i' j hi' hj
      revert j
      revert i'
      decide
     case rsz =>
      intro i' hi'
      exact Nat.lt_of_lt_of_le ((by decide : ∀ i,i < 8 → dst21 i < 100) i' hi') (Nat.le_of_ble_eq_true rfl)
     case rlate =>
      intro listed hc i' hk hi' hl
      have hi8 : i' = 8 := by
       obtain ⟨_,o,ho,_⟩ := mem_ready.1 hi'
       have := (Array.getElem?_eq_some_iff.1 ho).1
       simp at this
       omega
      subst hi8
      have H := mem_ready' hi' rfl
      have t0 := H ⟨0,.phase⟩ (by simp) rfl
      have t1 := H ⟨1,.phase⟩ (by simp) rfl
      have t2 := H ⟨2,.phase⟩ (by simp) rfl
      have t3 := H ⟨3,.phase⟩ (by simp) rfl
      have t4 := H ⟨4,.phase⟩ (by simp) rfl
      have t5 := H ⟨5,.phase⟩ (by simp) rfl
      have t6 := H ⟨6,.phase⟩ (by simp) rfl
      have t7 := H ⟨7,.phase⟩ (by simp) rfl
      intro j hj
      rcases (show j = 0 ∨ j = 1 ∨ j = 2 ∨ j = 3 ∨ j = 4 ∨ j = 5 ∨ j = 6 ∨ j = 7 by omega) with rfl | rfl | rfl | rfl | rfl | rfl | rfl | rfl <;> assumption
     case rgrow =>
      intro i' o hi' ho a W hb hf hp K' hK
      have HK := aS hK
      have D2 := aS (D.out.step hb)
      clear hK hb D m0 m1 s0 s1 s2 t0 t1 t2
      rcases (show i' = 0 ∨ i' = 1 ∨ i' = 2 ∨ i' = 3 ∨ i' = 4 ∨ i' = 5 ∨ i' = 6 ∨ i' = 7 by omega) with rfl | rfl | rfl | rfl | rfl | rfl | rfl | rfl
      ·cases ho
       have e3 : a.tmps[3]? = some (.pointer (some ⟨w.heap.size,0,none⟩)) := (hf.2.2 3 (by decide)).trans rfl
       clear hp hf
       unfold Oper.wp
       go_simp
       exact HK.out _ _ (Below.refl _ _) rfl (fun _ _ _ _ _ => trivial)
      ·cases ho
       have h0 : a.eval (.tmp 85) = .pointer (some ⟨w.heap.size,1,none⟩) := hp ⟨0,.data⟩ (by simp) rfl
       clear hp hf
       simp only [Act.eval,Array.getD_eq_getD_getElem?] at h0
       obtain ⟨m0,m1⟩ := cells_2 D2.out.h1
       unfold Oper.wp
       go_simp
       exact HK.out _ _ (Below.refl _ _) rfl (fun _ _ _ _ _ => trivial)
      ·cases ho
       have e13 : a.tmps[13]? = some (.int .i64 i) := (hf.2.2 13 (by decide)).trans rfl
       clear hp hf
       unfold Oper.wp
       go_simp
       exact HK.out _ _ (Below.refl _ _) rfl (fun _ _ _ _ _ => trivial)
      ·cases ho
       have h1 : a.eval (.tmp 86) = .slice (some adr) rs.length cr := hp ⟨1,.data⟩ (by simp) rfl
       have h2 : a.eval (.tmp 87) = .int .i64 i := hp ⟨2,.data⟩ (by simp) rfl
       clear hp hf
       simp only [Act.eval,Array.getD_eq_getD_getElem?] at h1 h2
       unfold Oper.wp
       go_simp
       exact HK.out _ _ (Below.refl _ _) rfl (fun _ _ _ _ _ => trivial)
      ·cases ho
       have h3 : a.eval (.tmp 88) = .pointer (some (adr.add (i * 5))) := hp ⟨3,.data⟩ (by simp) rfl
       clear hp hf
       simp only [Act.eval,Array.getD_eq_getD_getElem?] at h3
       obtain ⟨x0,x1,x2,x3,x4⟩ := HX.out _ D2.out.below
       unfold Oper.wp
       go_simp
       exact HK.out _ _ (Below.refl _ _) rfl (fun _ _ _ _ _ => trivial)
      ·cases ho
       have e4 : a.tmps[4]? = some (.pointer (some ⟨w.heap.size + 1,0,none⟩)) := (hf.2.2 4 (by decide)).trans rfl
       clear hp hf
       obtain ⟨s0,s1,s2⟩ := cells_3 D2.out.h2
       unfold Oper.wp
       go_simp
       exact HK.out _ _ (Below.refl _ _) rfl (fun _ _ _ _ _ => trivial)
      ·cases ho
       have e5 : a.tmps[5]? = some (.pointer (some ⟨w.heap.size + 1 + 1,0,none⟩)) := (hf.2.2 5 (by decide)).trans rfl
       clear hp hf
       obtain ⟨t0,t1,t2⟩ := cells_3 D2.out.h3
       unfold Oper.wp
       go_simp
       exact HK.out _ _ (Below.refl _ _) rfl (fun _ _ _ _ _ => trivial)
      ·cases ho
       have h4 : a.eval (.tmp 89) = .agg #[.int .i64 x.f0,.int .i64 x.f1,.int .i64 x.f2,.string x.f3,.slice A4 x.f4.length c4] := hp ⟨4,.data⟩ (by simp) rfl
       have h5 : a.eval (.tmp 90) = .agg #[.int .i64 st1,.int .i64 ver1,.slice A1 l1.length c1] := hp ⟨5,.data⟩ (by simp) rfl
       have h6 : a.eval (.tmp 91) = .agg #[.int .i64 st2,.int .i64 ver2,.slice A2 l2.length c2] := hp ⟨6,.data⟩ (by simp) rfl
       clear hp hf
       simp only [Act.eval,Array.getD_eq_getD_getElem?] at h4 h5 h6
       unfold Oper.wp
       go_simp
       go_at_call 129
       have hC := groatref20_Check.at x A4 c4 st1 ver1 A1 c1 l1 st2 ver2 A2 c2 l2 W hl1 hl2 (c_B HR1.out D2.out.below) HC1.out (c_B HR2.out D2.out.below) HC2.out (c_B X6.out D2.out.below) X5.out HSX.out.2.1 HSX.out.1 HSX.out.2.2
       refine (show Calls prog 129 #[.agg #[.int .i64 x.f0,.int .i64 x.f1,.int .i64 x.f2,.string x.f3,.slice A4 x.f4.length c4],.agg #[.int .i64 st1,.int .i64 ver1,.slice A1 l1.length c1],.agg #[.int .i64 st2,.int .i64 ver2,.slice A2 l2.length c2]] W _ from hC).mono ?_
       rintro e w7 ⟨⟨r,rfl,hr⟩,hb7⟩
       exact HK.out _ _ hb7 ⟨r,rfl,hr⟩ (fun _ _ _ _ _ => trivial)
     case rtail =>
      intro a W fuel hfl hb he hp _
      obtain ⟨r,v7,hr⟩ : ∃ r : Int,a.eval (.tmp 92) = .int .i64 r ∧ (r = 0 → ruleOk l1 l2 x) := hp 7 (by omega)
      replace he : putL _ [(85,a.eval (.tmp 85)),(86,a.eval (.tmp 86)),(87,a.eval (.tmp 87)),(88,a.eval (.tmp 88)),(89,a.eval (.tmp 89)),(90,a.eval (.tmp 90)),(91,a.eval (.tmp 91)),(92,a.eval (.tmp 92))] = a := he
      rw [v7] at he
      clear hp v7
      generalize a.eval (.tmp 85) = z85 at he
      generalize a.eval (.tmp 86) = z86 at he
      generalize a.eval (.tmp 87) = z87 at he
      generalize a.eval (.tmp 88) = z88 at he
      generalize a.eval (.tmp 89) = z89 at he
      generalize a.eval (.tmp 90) = z90 at he
      generalize a.eval (.tmp 91) = z91 at he
      simp only [putL,Act.put,sA,sB,sC] at he
      subst he
      have D_ := aS (D.out.step hb)
      clear hb D m0 m1 s0 s1 s2 t0 t1 t2
      have D := D_
      clear D_
      obtain ⟨f,rfl⟩ : ∃ f,fuel = f + 1 := ⟨fuel - 1,by have : (9 - 8 : Nat) ≤ fuel := hfl;omega⟩
      clear hfl
      have HRK := aS hr
      clear hr
      refine wpAny_one (i := 8) (by kernel_rfl) rfl rfl ?_
      unfold Oper.wp
      go_simp
      refine wpAny_none (by kernel_rfl) ?_ _
      obtain ⟨m0,m1⟩ := cells_2 D.out.h1;obtain ⟨s0,s1,s2⟩ := cells_3 D.out.h2;obtain ⟨t0,t1,t2⟩ := cells_3 D.out.h3
      rcases (Decidable.em (r = 0)).symm with r0 | r0
      ·have b0 : (r != 0) = true := bne_iff_ne.mpr r0
       have HZ := aS r0
       clear r0
       go_wp2
       go_ret3
       exact ⟨⟨_,_,_,rfl,fun h => absurd h HZ.out⟩,D.out.below⟩
      have HOK := aS (HRK.out r0)
      subst r0
      obtain ⟨g,rfl⟩ : ∃ g,gk = g + 1 := ⟨gk - 1,by omega⟩
      go_wp2
      clear m0 m1 s0 s1 s2 t0 t1 t2
      go_loopg [15] i (fun g v15 w' => ∃ k : Nat,v15 = .int .i64 k ∧ k + g = i ∧ Aside0 (∀ p ∈ rs.take k,twiceS p x = false) ∧ Aside0 (Box3 w w' (.cells #[.slice Am ms.length cm,.slice (some adr) rs.length cr] 28) (.cells #[.int .i64 st1,.int .i64 ver1,.slice A1 l1.length c1] 24) (.cells #[.int .i64 st2,.int .i64 ver2,.slice A2 l2.length c2] 24)))
      case atStart => exact ⟨0,rfl,Nat.zero_add _,⟨fun p hp => by cases hp⟩,D⟩
      case round =>
       clear D
       obtain ⟨k,rfl,hk,HT,D⟩ := hrel
       obtain ⟨m0,m1⟩ := cells_2 D.out.h1;obtain ⟨s0,s1,s2⟩ := cells_3 D.out.h2;obtain ⟨t0,t1,t2⟩ := cells_3 D.out.h3
       by_cases h' : k < i
       ·have e1 : decide ((k : Int) < i) = true := d_T (by omega)
        have e2 : decide (k < i) = true := d_T h'
        have hkr : k < rs.length := by omega
        obtain ⟨adr',A5,c5,ee,hy0,hy1,hy2,hy3,hy4,_,_⟩ := at94 HRr.out D.out.below k hkr
        cases ee
        obtain ⟨x0,x1,x2,x3,x4⟩ := HX.out _ D.out.below
        have q2 : (0 ≤ (k : Int)) = True := eq_true (by omega)
        have q3 : ((k : Int) < rs.length) = True := eq_true (by omega)
        have HTK : Aside0 (twiceS (rd_T94 rs (k : Int)) x = false → ∀ p ∈ rs.take (k + 1),twiceS p x = false) := ⟨fun a p hp => by
         rcases take_mem94 hkr hp with hp | rfl
         ·exact HT.out p hp
         ·exact a⟩
        generalize rd_T94 rs (k : Int) = y at *
        have HTW : Aside0 (∀ W,Calls prog 130 #[.agg #[.int .i64 y.f0,.int .i64 y.f1,.int .i64 y.f2,.string y.f3,.slice A5 y.f4.length c5],.agg #[.int .i64 x.f0,.int .i64 x.f1,.int .i64 x.f2,.string x.f3,.slice A4 x.f4.length c4]] W fun e w' => e = .returned (.bool (twiceS y x)) ∧ Below W.heap.size W w') := ⟨fun W => groatref21_twice.at y x A5 A4 c5 c4 W⟩
        go_wp2
        refine wp_region_below (by kernel_rfl) (by kernel_rfl) ?_
        iterate 5 ((with_reducible refine quiet_yes ?hw ?_);(case hw => kernel_rfl);apply Exists.intro;refine ⟨fun w' hw' => ?_,?_⟩;(have hc := below_cells hw';unfold Oper.quietAt;go_simp;first | done | (with_reducible rfl) | (with_reducible exact ⟨rfl,rfl⟩) | (go_at_call 130;(with_reducible refine (HTW.out _).mono ?_);exact fun e w2 ⟨he,hb⟩ => ⟨he,b_s hw' hb⟩) | rfl | exact ⟨rfl,rfl⟩))
        simp only [Act.put,sA,sB,sC]
        iterate 6 ((with_reducible refine quiet_yes ?hw ?_);(case hw => kernel_rfl);apply Exists.intro;refine ⟨fun w' hw' => ?_,?_⟩;(have hc := below_cells hw';unfold Oper.quietAt;go_simp;first | done | (with_reducible rfl) | (with_reducible exact ⟨rfl,rfl⟩) | (go_at_call 130;(with_reducible refine (HTW.out _).mono ?_);exact fun e w2 ⟨he,hb⟩ => ⟨he,b_s hw' hb⟩) | rfl | exact ⟨rfl,rfl⟩))
        refine wpQuiet_nil ?_
        intro wq hw'
        have D_ := aS (D.out.step hw')
        clear hw' D m0 m1 s0 s1 s2 t0 t1 t2 x0 x1 x2 x3 x4 hy0 hy1 hy2 hy3 hy4
        have D := D_
        clear D_
        obtain ⟨m0,m1⟩ := cells_2 D.out.h1;obtain ⟨s0,s1,s2⟩ := cells_3 D.out.h2;obtain ⟨t0,t1,t2⟩ := cells_3 D.out.h3
        simp only [Act.put,sA,sB,sC]
        cases ht : twiceS y x with
        | true =>
         clear ht
         go_wp2
         go_ret3
         exact ⟨⟨_,_,_,rfl,fun h => absurd h (by decide)⟩,D.out.below⟩
        | false =>
         have HN := aS (HTK.out ht)
         clear ht
         go_wp2
         obtain ⟨g2,rfl⟩ : ∃ g2,gk = g2 + 1 := ⟨gk - 1,by omega⟩
         go_roundg g2
         case rel => exact ⟨k + 1,rfl,by omega,HN,D⟩
         case measure => omega
       ·have e1 : decide ((k : Int) < i) = false := d_F (by omega)
        have e2 : decide (k < i) = false := d_F h'
        obtain rfl : k = i := by omega
        have HN := aS (HNX.out HOK.out HT.out)
        go_wp2
        go_roundg g
        case rel => exact ⟨k + 1,rfl,by omega,HN,D⟩
        case measure => omega
    ·have e0 : decide ((i : Int) < rs.length) = false := d_F (by omega)
     have HR : Aside0 (mapR ms rs st1 ver1 l1 st2 ver2 l2) := ⟨⟨Q1.out,Q2.out,Q3.out,HM.out,Q6.out,fun j hj => HF.out j (by omega)⟩⟩
     go_wp2
     go_ret3
     exact ⟨⟨_,_,_,rfl,fun _ => HR.out⟩,D.out.below⟩
end
theorem plC_none {t : Int} : ∀ {l : List S129} {i : Int},0 ≤ i → plC t l i < 0 → ∀ p ∈ l,p.f0 ≠ t
 | [],_,_,_,p,hp => by cases hp
 | x :: xs,i,hi,h,p,hp => by
  rw [plC] at h
  split at h
  ·omega
  ·rcases List.mem_cons.1 hp with rfl | hp
   ·assumption
   ·exact plC_none (by omega) h p hp
theorem plC_some {t : Int} : ∀ {l : List S129} {i : Int},0 ≤ i → 0 ≤ plC t l i → (codeS t l).2 = true
 | [],_,_,h => by rw [plC] at h;omega
 | x :: xs,i,hi,h => by
  rw [plC] at h
  rw [codeS]
  split at h
  ·rename_i e
   rw [if_pos e]
  ·rename_i e
   rw [if_neg e]
   exact plC_some (by omega) h
def sideR (st ver : Int) (l : List S87) (echo : List Int) (cs : List S129) : Prop :=
 (schemaCheck st ver l).1 = 0 ∧ (findS 39 l).2 = true ∧ (∀ j : Nat,j < echo.length → (findS (rd echo (j : Int)) l).2 = true ∧ rd echo (j : Int) ≠ 39 ∧ rd echo (j : Int) ∉ echo.take j) ∧
 (∀ j : Nat,j < cs.length → (0 ≤ (rd_T129 cs (j : Int)).f0 ∧ (rd_T129 cs (j : Int)).f0 ≤ 16) ∧ (∀ p ∈ cs.take j,p.f0 ≠ (rd_T129 cs (j : Int)).f0) ∧ specValue (findS 39 l).1 (rd_T129 cs (j : Int)).f1 = 0) ∧ (codeS 0 cs).2 = true
theorem rd_mem129 {l : List S129} {i : Nat} (h : i < l.length) : rd_T129 l (i : Int) ∈ l := by
 simp [rd_T129,List.getD_eq_getElem?_getD,List.getElem?_eq_getElem h]
set_option maxHeartbeats 4000000 in
theorem groatref23_Check.at (st ver : Int) (A1 : Option Addr) (c1 : Nat) (l : List S87) (v2 v3 : Value) (Ae : Option Addr) (ce : Nat) (echo : List Int) (Ac : Option Addr) (cc : Nat) (cs : List S129) (w : World)
  (hs2 : ∃ a n c,v2 = .slice a n c) (hs3 : ∃ a n c,v3 = .slice a n c) (hl : l.length ≤ 4611686018427387904) (hle : echo.length ≤ 4611686018427387904) (hlc : cs.length ≤ 4611686018427387904) (hr1 : Kd.C k87 w A1 l.length l) (hc1 : l.length ≤ c1) (hre : Kd.C (Kd.int .i64) w Ae echo.length echo) (hce : echo.length ≤ ce) (hrc : Kd.C k129 w Ac cs.length cs) (hcc : cs.length ≤ cc) (hsz : ∀ p ∈ cs,p.f1.size ≤ 1000000) :
  Calls prog 74 #[.agg #[.int .i64 st,.int .i64 ver,.slice A1 l.length c1,v2,v3,.slice Ae echo.length ce,.slice Ac cs.length cc]] w fun e w' => Chk3 (sideR st ver l echo cs) e ∧ Below w.heap.size w w' := by
 have hu32 := underlying32
 have hu24 := underlying24
 have hu87 := underlying87
 have hu129 := underlying129
 obtain ⟨a2,n2,c2,rfl⟩ := hs2
 obtain ⟨a3,n3,c3,rfl⟩ := hs3
 have HR1 := aS hr1
 have HC1 := aS hc1
 have HRe := aS hre
 have HCe := aS hce
 have HRc := aS hrc
 have HCc := aS hcc
 have HSZ := aS hsz
 clear hr1 hc1 hre hce hrc hcc hsz
 obtain ⟨i3,hi3,_⟩ := info_parts info3
 have HI3 := aS hi3
 clear hi3
 rcases (Decidable.em ((schemaCheck st ver l).1 = 0)).symm with q1 | q1
 ·have HS1 := aS (d_F q1)
  clear q1
  go_enter func74,ntmps74
  go_wp2_with (first | (go_at_call 52;refine (groatref13_Right.at st ver _ c1 l _ hl (c_B HR1.out (Box1.start w _).below) HC1.out).mono ?_;rintro e w1 ⟨rfl,hb1⟩;rw [HS1.out];have D := aS (Box1.init hb1);clear hb1;obtain ⟨s0,s1,s2,s3,s4,s5,s6⟩ := cells_7 D.out.h1))
  go_ret3
  exact ⟨⟨_,_,_,rfl,fun h => absurd h (by decide)⟩,D.out.below⟩
 have HS1 := aS (d_T q1)
 have Q1 := aS q1
 clear q1
 obtain ⟨n1,hn1⟩ : ∃ n,placeS 39 l 0 = n := ⟨_,rfl⟩
 have hp1 := placeS_cases 39 l
 rw [hn1] at hp1
 have HP := aS hn1
 clear hn1
 rcases hp1 with ⟨rfl,_⟩ | ⟨k1,rfl,h1,hf1⟩
 ·skip
  go_enter func74,ntmps74
  go_wp2_with (first | (go_at_call 56;refine (groatref13_Find.at st ver _ c1 l 39 _ hl (c_B HR1.out D.out.below) HC1.out).mono ?_;rintro e w2 ⟨rfl,hb1⟩;rw [HP.out];have D_ := aS (D.out.step hb1);clear s0 s1 s2 s3 s4 s5 s6;clear D hb1;have D := D_;clear D_;obtain ⟨s0,s1,s2,s3,s4,s5,s6⟩ := cells_7 D.out.h1) | (go_at_call 52;refine (groatref13_Right.at st ver _ c1 l _ hl (c_B HR1.out (Box1.start w _).below) HC1.out).mono ?_;rintro e w1 ⟨rfl,hb1⟩;rw [HS1.out];have D := aS (Box1.init hb1);clear hb1;obtain ⟨s0,s1,s2,s3,s4,s5,s6⟩ := cells_7 D.out.h1))
  go_ret3
  exact ⟨⟨_,_,_,rfl,fun h => absurd h (by decide)⟩,D.out.below⟩
 have d1 : decide ((k1 : Int) < 0) = false := d_F (by omega)
 have HF1 := aS hf1
 clear hf1
 obtain ⟨ad1,rfl,hx0,hx1,hx2,hx3,hx4⟩ := at87 HR1.out (Below.refl _ _) k1 h1
 have p1 : (0 ≤ (k1 : Int)) = True := eq_true (by omega)
 have p2 : ((k1 : Int) < l.length) = True := eq_true (by omega)
 have HX : Aside0 (∀ W,Below w.heap.size w W → W.cell? (ad1.add (k1 * 5)) = some (.int .i64 (rd_T87 l (k1 : Int)).f0) ∧ W.cell? ⟨(ad1.add (k1 * 5)).block,(ad1.add (k1 * 5)).off + 1,none⟩ = some (.int .i64 (rd_T87 l (k1 : Int)).f1) ∧ W.cell? ⟨(ad1.add (k1 * 5)).block,(ad1.add (k1 * 5)).off + 2,none⟩ = some (.int .i64 (rd_T87 l (k1 : Int)).f2) ∧ W.cell? ⟨(ad1.add (k1 * 5)).block,(ad1.add (k1 * 5)).off + 3,none⟩ = some (.int .i64 (rd_T87 l (k1 : Int)).f3) ∧ W.cell? ⟨(ad1.add (k1 * 5)).block,(ad1.add (k1 * 5)).off + 4,none⟩ = some (.int .i64 (rd_T87 l (k1 : Int)).f4)) :=
  ⟨fun W hb => have up : ∀ {a : Addr} {v : Value},w.cell? a = some v → W.cell? a = some v := fun hx => (hb.cell (World.block_lt_of_cell? w _ hx)).trans hx
   ⟨up hx0,up hx1,up hx2,up hx3,up hx4⟩⟩
 clear hx0 hx1 hx2 hx3 hx4
 have HSX : Aside0 (∀ t,specValue (rd_T87 l (k1 : Int)) t = specValue (findS 39 l).1 t) := ⟨fun t => by rw [HF1.out]⟩
 generalize rd_T87 l (k1 : Int) = x at *
 have HC56 : Aside0 (∀ (no : Int) (W : World),Below w.heap.size w W → Calls prog 56 #[.agg #[.int .i64 st,.int .i64 ver,.slice (some ad1) l.length c1],.int .i64 no] W fun e w' => e = .returned (.int .i64 (placeS no l 0)) ∧ Below W.heap.size W w') :=
  ⟨fun no W hb => groatref13_Find.at st ver (some ad1) c1 l no W hl (c_B HR1.out hb) HC1.out⟩
 go_enter func74,ntmps74
 go_wp2_with (first | (go_at_call 56;refine (groatref13_Find.at st ver _ c1 l 39 _ hl (c_B HR1.out D.out.below) HC1.out).mono ?_;rintro e w2 ⟨rfl,hb1⟩;rw [HP.out];have D_ := aS (D.out.step hb1);clear s0 s1 s2 s3 s4 s5 s6;clear D hb1;have D := D_;clear D_;obtain ⟨s0,s1,s2,s3,s4,s5,s6⟩ := cells_7 D.out.h1) | (go_at_call 52;refine (groatref13_Right.at st ver _ c1 l _ hl (c_B HR1.out (Box1.start w _).below) HC1.out).mono ?_;rintro e w1 ⟨rfl,hb1⟩;rw [HS1.out];have D := aS (Box1.init hb1);clear hb1;obtain ⟨s0,s1,s2,s3,s4,s5,s6⟩ := cells_7 D.out.h1))
 clear s0 s1 s2 s3 s4 s5 s6
 go_loopg [6] echo.length (fun g v6 w' => ∃ i : Nat,v6 = .int .i64 i ∧ i + g = echo.length ∧ Aside0 (∀ j : Nat,j < i → (findS (rd echo (j : Int)) l).2 = true ∧ rd echo (j : Int) ≠ 39 ∧ rd echo (j : Int) ∉ echo.take j) ∧ Aside0 (Box1 w w' (.cells #[.int .i64 st,.int .i64 ver,.slice (some ad1) l.length c1,.slice a2 n2 c2,.slice a3 n3 c3,.slice Ae echo.length ce,.slice Ac cs.length cc] 32)))
 case atStart => exact ⟨0,rfl,Nat.zero_add _,⟨fun j hj => by omega⟩,D⟩
 case round =>
  clear D
  obtain ⟨i,rfl,hi,HF,D⟩ := hrel
  obtain ⟨s0,s1,s2,s3,s4,s5,s6⟩ := cells_7 D.out.h1
  by_cases h : i < echo.length
  ·have e0 : decide ((i : Int) < echo.length) = true := d_T (by omega)
   obtain ⟨ade,rfl,hy⟩ := at3 HRe.out (Below.refl _ _) i h
   have q0 : (0 ≤ (i : Int)) = True := eq_true (by omega)
   have q1 : ((i : Int) < echo.length) = True := eq_true (by omega)
   have HNX : Aside0 ((findS (rd echo (i : Int)) l).2 = true → rd echo (i : Int) ≠ 39 → rd echo (i : Int) ∉ echo.take i → ∀ j : Nat,j < i + 1 → (findS (rd echo (j : Int)) l).2 = true ∧ rd echo (j : Int) ≠ 39 ∧ rd echo (j : Int) ∉ echo.take j) := ⟨fun a b c j hj => by
    by_cases hji : j < i
    ·exact HF.out j hji
    ·obtain rfl : j = i := by omega
     exact ⟨a,b,c⟩⟩
   have HC120 : Aside0 (∀ (t : Int) (W : World),Below w.heap.size w W → Calls prog 120 #[.slice (some ade) i ce,.int .i64 t] W fun e w' => e = .returned (.bool (decide (t ∈ echo.take i))) ∧ w' = W) := ⟨fun t W hb => by
    have hl : (echo.take i).length = i := by rw [List.length_take];omega
    have h5 := groatref05_In.at (some ade) ce (echo.take i) t W (by omega) (c_B (Kd.C_take HRe.out (by omega)) hb) (by have := HCe.out;omega)
    rw [hl] at h5
    exact h5⟩
   have hcut := cut_to (P := prog) 29 3 .i64 underlying29 HI3.out (some ade) echo.length ce (i : Int) (by omega) (by omega) HCe.out
   simp only [Int.toNat_natCast] at hcut
   have HY : Aside0 (∀ W,Below w.heap.size w W → W.cell? (ade.add i) = some (.int .i64 (rd echo (i : Int)))) := ⟨fun W hb => (hb.cell (World.block_lt_of_cell? w _ hy)).trans hy⟩
   clear hy
   have y0 := HY.out _ D.out.below
   generalize rd echo (i : Int) = y at *
   obtain ⟨n,hn⟩ : ∃ n,placeS y l 0 = n := ⟨_,rfl⟩
   have hp := placeS_cases y l
   rw [hn] at hp
   have HC := aS (HC56.out y)
   rw [hn] at HC
   clear hn
   go_wp2
   rcases hp with ⟨rfl,_⟩ | ⟨k,rfl,_,hf⟩
   ·skip
    refine wp_region_below (by kernel_rfl) (by kernel_rfl) ?_
    iterate 4 ((with_reducible refine quiet_yes ?hw ?_);(case hw => kernel_rfl);apply Exists.intro;refine ⟨fun w' hw' => ?_,?_⟩;(have hc := below_cells hw';unfold Oper.quietAt;go_simp;first | done | (with_reducible rfl) | (with_reducible exact ⟨rfl,rfl⟩) | (go_at_call 56;(with_reducible refine (HC.out _ (b_s D.out.below hw')).mono ?_);exact fun e w2 ⟨he,hb⟩ => ⟨he,b_s hw' hb⟩) | rfl | exact ⟨rfl,rfl⟩))
    simp only [Act.put,sA,sB,sC]
    iterate 5 ((with_reducible refine quiet_yes ?hw ?_);(case hw => kernel_rfl);apply Exists.intro;refine ⟨fun w' hw' => ?_,?_⟩;(have hc := below_cells hw';unfold Oper.quietAt;go_simp;first | done | (with_reducible rfl) | (with_reducible exact ⟨rfl,rfl⟩) | (go_at_call 56;(with_reducible refine (HC.out _ (b_s D.out.below hw')).mono ?_);exact fun e w2 ⟨he,hb⟩ => ⟨he,b_s hw' hb⟩) | rfl | exact ⟨rfl,rfl⟩))
    refine wpQuiet_nil ?_
    intro wq hw'
    have D_ := aS (D.out.step hw')
    clear hw' D s0 s1 s2 s3 s4 s5 s6 y0
    have D := D_
    clear D_
    obtain ⟨s0,s1,s2,s3,s4,s5,s6⟩ := cells_7 D.out.h1
    simp only [Act.put,sA,sB,sC]
    go_wp2
    go_ret3
    exact ⟨⟨_,_,_,rfl,fun h => absurd h (by decide)⟩,D.out.below⟩
   have d2 : decide ((k : Int) < 0) = false := d_F (by omega)
   have HFS : Aside0 ((findS y l).2 = true) := ⟨by rw [hf]⟩
   clear hf
   refine wp_region_below (by kernel_rfl) (by kernel_rfl) ?_
   iterate 4 ((with_reducible refine quiet_yes ?hw ?_);(case hw => kernel_rfl);apply Exists.intro;refine ⟨fun w' hw' => ?_,?_⟩;(have hc := below_cells hw';unfold Oper.quietAt;go_simp;first | done | (with_reducible rfl) | (with_reducible exact ⟨rfl,rfl⟩) | (go_at_call 56;(with_reducible refine (HC.out _ (b_s D.out.below hw')).mono ?_);exact fun e w2 ⟨he,hb⟩ => ⟨he,b_s hw' hb⟩) | rfl | exact ⟨rfl,rfl⟩))
   simp only [Act.put,sA,sB,sC]
   iterate 5 ((with_reducible refine quiet_yes ?hw ?_);(case hw => kernel_rfl);apply Exists.intro;refine ⟨fun w' hw' => ?_,?_⟩;(have hc := below_cells hw';unfold Oper.quietAt;go_simp;first | done | (with_reducible rfl) | (with_reducible exact ⟨rfl,rfl⟩) | (go_at_call 56;(with_reducible refine (HC.out _ (b_s D.out.below hw')).mono ?_);exact fun e w2 ⟨he,hb⟩ => ⟨he,b_s hw' hb⟩) | rfl | exact ⟨rfl,rfl⟩))
   refine wpQuiet_nil ?_
   intro wq hw'
   have D_ := aS (D.out.step hw')
   clear hw' D s0 s1 s2 s3 s4 s5 s6 y0
   have D := D_
   clear D_
   obtain ⟨s0,s1,s2,s3,s4,s5,s6⟩ := cells_7 D.out.h1
   simp only [Act.put,sA,sB,sC]
   have y0 := HY.out _ D.out.below
   rcases (Decidable.em (y = 39)) with u | u
   ·have b0 : (y == 39) = true := beq_iff_eq.mpr u
    clear u
    go_wp2
    go_ret3
    exact ⟨⟨_,_,_,rfl,fun h => absurd h (by decide)⟩,D.out.below⟩
   have b0 : (y == 39) = false := beq_eq_false_iff_ne.mpr u
   have HU := aS u
   clear u
   go_wp2
   have HC2 := aS (HC120.out y)
   rcases (Decidable.em (y ∈ echo.take i)) with u | u
   ·rw [d_T u] at HC2
    clear u
    refine wp_region_below (by kernel_rfl) (by kernel_rfl) ?_
    iterate 5 ((with_reducible refine quiet_yes ?hw ?_);(case hw => kernel_rfl);apply Exists.intro;refine ⟨fun w' hw' => ?_,?_⟩;(have hc := below_cells hw';unfold Oper.quietAt;go_simp;first | done | (with_reducible rfl) | (with_reducible exact ⟨rfl,rfl⟩) | (go_at_call 120;(with_reducible refine (HC2.out _ (b_s D.out.below hw')).mono ?_);exact fun e w2 ⟨he,hb⟩ => ⟨he,hb ▸ hw'⟩) | rfl | exact ⟨rfl,rfl⟩))
    simp only [Act.put,sA,sB,sC]
    iterate 5 ((with_reducible refine quiet_yes ?hw ?_);(case hw => kernel_rfl);apply Exists.intro;refine ⟨fun w' hw' => ?_,?_⟩;(have hc := below_cells hw';unfold Oper.quietAt;go_simp;first | done | (with_reducible rfl) | (with_reducible exact ⟨rfl,rfl⟩) | (go_at_call 120;(with_reducible refine (HC2.out _ (b_s D.out.below hw')).mono ?_);exact fun e w2 ⟨he,hb⟩ => ⟨he,hb ▸ hw'⟩) | rfl | exact ⟨rfl,rfl⟩))
    refine wpQuiet_nil ?_
    intro wq hw'
    have D_ := aS (D.out.step hw')
    clear hw' D s0 s1 s2 s3 s4 s5 s6 y0
    have D := D_
    clear D_
    obtain ⟨s0,s1,s2,s3,s4,s5,s6⟩ := cells_7 D.out.h1
    simp only [Act.put,sA,sB,sC]
    go_wp2
    go_ret3
    exact ⟨⟨_,_,_,rfl,fun h => absurd h (by decide)⟩,D.out.below⟩
   rw [d_F u] at HC2
   have HN := aS (HNX.out HFS.out HU.out u)
   clear u
   refine wp_region_below (by kernel_rfl) (by kernel_rfl) ?_
   iterate 5 ((with_reducible refine quiet_yes ?hw ?_);(case hw => kernel_rfl);apply Exists.intro;refine ⟨fun w' hw' => ?_,?_⟩;(have hc := below_cells hw';unfold Oper.quietAt;go_simp;first | done | (with_reducible rfl) | (with_reducible exact ⟨rfl,rfl⟩) | (go_at_call 120;(with_reducible refine (HC2.out _ (b_s D.out.below hw')).mono ?_);exact fun e w2 ⟨he,hb⟩ => ⟨he,hb ▸ hw'⟩) | rfl | exact ⟨rfl,rfl⟩))
   simp only [Act.put,sA,sB,sC]
   iterate 5 ((with_reducible refine quiet_yes ?hw ?_);(case hw => kernel_rfl);apply Exists.intro;refine ⟨fun w' hw' => ?_,?_⟩;(have hc := below_cells hw';unfold Oper.quietAt;go_simp;first | done | (with_reducible rfl) | (with_reducible exact ⟨rfl,rfl⟩) | (go_at_call 120;(with_reducible refine (HC2.out _ (b_s D.out.below hw')).mono ?_);exact fun e w2 ⟨he,hb⟩ => ⟨he,hb ▸ hw'⟩) | rfl | exact ⟨rfl,rfl⟩))
   refine wpQuiet_nil ?_
   intro wq hw'
   have D_ := aS (D.out.step hw')
   clear hw' D s0 s1 s2 s3 s4 s5 s6 y0
   have D := D_
   clear D_
   obtain ⟨s0,s1,s2,s3,s4,s5,s6⟩ := cells_7 D.out.h1
   simp only [Act.put,sA,sB,sC]
   go_wp2
   obtain ⟨g,rfl⟩ : ∃ g,gk = g + 1 := ⟨gk - 1,by omega⟩
   go_roundg g
   case rel => exact ⟨i + 1,rfl,by omega,HN,D⟩
   case measure => omega
  ·have e0 : decide ((i : Int) < echo.length) = false := d_F (by omega)
   have HE : Aside0 (∀ j : Nat,j < echo.length → (findS (rd echo (j : Int)) l).2 = true ∧ rd echo (j : Int) ≠ 39 ∧ rd echo (j : Int) ∉ echo.take j) := ⟨fun j hj => HF.out j (by omega)⟩
   go_wp2
   clear HF s0 s1 s2 s3 s4 s5 s6
   go_loopg [7] cs.length (fun g v7 w' => ∃ i : Nat,v7 = .int .i64 i ∧ i + g = cs.length ∧ Aside0 (∀ j : Nat,j < i → (0 ≤ (rd_T129 cs (j : Int)).f0 ∧ (rd_T129 cs (j : Int)).f0 ≤ 16) ∧ (∀ p ∈ cs.take j,p.f0 ≠ (rd_T129 cs (j : Int)).f0) ∧ specValue (findS 39 l).1 (rd_T129 cs (j : Int)).f1 = 0) ∧ Aside0 (Box1 w w' (.cells #[.int .i64 st,.int .i64 ver,.slice (some ad1) l.length c1,.slice a2 n2 c2,.slice a3 n3 c3,.slice Ae echo.length ce,.slice Ac cs.length cc] 32)))
   case atStart => exact ⟨0,rfl,Nat.zero_add _,⟨fun j hj => by omega⟩,D⟩
   case round =>
    clear D hi h e0
    obtain ⟨i,rfl,hi,HF,D⟩ := hrel
    obtain ⟨s0,s1,s2,s3,s4,s5,s6⟩ := cells_7 D.out.h1
    by_cases h : i < cs.length
    ·have e0 : decide ((i : Int) < cs.length) = true := d_T (by omega)
     obtain ⟨adc,rfl,hy0,hy1⟩ := at129 HRc.out (Below.refl _ _) i h
     have q0 : (0 ≤ (i : Int)) = True := eq_true (by omega)
     have q1 : ((i : Int) < cs.length) = True := eq_true (by omega)
     have HSY := aS (HSZ.out _ (rd_mem129 h))
     have HNX : Aside0 ((0 ≤ (rd_T129 cs (i : Int)).f0 ∧ (rd_T129 cs (i : Int)).f0 ≤ 16) → (∀ p ∈ cs.take i,p.f0 ≠ (rd_T129 cs (i : Int)).f0) → specValue (findS 39 l).1 (rd_T129 cs (i : Int)).f1 = 0 → ∀ j : Nat,j < i + 1 → (0 ≤ (rd_T129 cs (j : Int)).f0 ∧ (rd_T129 cs (j : Int)).f0 ≤ 16) ∧ (∀ p ∈ cs.take j,p.f0 ≠ (rd_T129 cs (j : Int)).f0) ∧ specValue (findS 39 l).1 (rd_T129 cs (j : Int)).f1 = 0) := ⟨fun a b c j hj => by
      by_cases hji : j < i
      ·exact HF.out j hji
      ·obtain rfl : j = i := by omega
       exact ⟨a,b,c⟩⟩
     have HC126 : Aside0 (∀ (t : Int) (W : World),Below w.heap.size w W → Calls prog 126 #[.slice (some adc) cs.length cc,.int .i64 i,.int .i64 t] W fun e w' => e = .returned (.int .i64 (plC t (cs.take i) 0)) ∧ w' = W) := ⟨fun t W hb => groatref23_find.at (some adc) cc i cs t W (by omega) hlc (c_B HRc.out hb) HCc.out⟩
     have HY : Aside0 (∀ W,Below w.heap.size w W → W.cell? (adc.add (i * 2)) = some (.int .i64 (rd_T129 cs (i : Int)).f0) ∧ W.cell? ⟨(adc.add (i * 2)).block,(adc.add (i * 2)).off + 1,none⟩ = some (.string (rd_T129 cs (i : Int)).f1)) := ⟨fun W hb => ⟨(hb.cell (World.block_lt_of_cell? w _ hy0)).trans hy0,(hb.cell (World.block_lt_of_cell? w _ hy1)).trans hy1⟩⟩
     clear hy0 hy1
     obtain ⟨y0,y1⟩ := HY.out _ D.out.below
     generalize rd_T129 cs (i : Int) = y at *
     rcases (Decidable.em (y.f0 < 0)) with u | u
     ·have b0 : decide (y.f0 < 0) = true := d_T u
      clear u
      go_wp2
      go_ret3
      exact ⟨⟨_,_,_,rfl,fun h => absurd h (by decide)⟩,D.out.below⟩
     have b0 : decide (y.f0 < 0) = false := d_F u
     rcases (Decidable.em (16 < y.f0)) with u' | u'
     ·have b1 : decide (16 < y.f0) = true := d_T u'
      clear u u'
      go_wp2
      go_ret3
      exact ⟨⟨_,_,_,rfl,fun h => absurd h (by decide)⟩,D.out.below⟩
     have b1 : decide (16 < y.f0) = false := d_F u'
     have HU : Aside0 (0 ≤ y.f0 ∧ y.f0 ≤ 16) := ⟨by omega⟩
     clear u u'
     go_wp2
     obtain ⟨n,hn⟩ : ∃ n,plC y.f0 (cs.take i) 0 = n := ⟨_,rfl⟩
     have HC := aS (HC126.out y.f0)
     rw [hn] at HC
     have HN0 : Aside0 (n < 0 → ∀ p ∈ cs.take i,p.f0 ≠ y.f0) := ⟨fun h => plC_none (Int.le_refl 0) (by rw [hn];exact h)⟩
     clear hn
     rcases (Decidable.em (0 ≤ n)) with u | u
     ·have b2 : decide (0 ≤ n) = true := d_T u
      clear u
      refine wp_region_below (by kernel_rfl) (by kernel_rfl) ?_
      iterate 5 ((with_reducible refine quiet_yes ?hw ?_);(case hw => kernel_rfl);apply Exists.intro;refine ⟨fun w' hw' => ?_,?_⟩;(have hc := below_cells hw';unfold Oper.quietAt;go_simp;first | done | (with_reducible rfl) | (with_reducible exact ⟨rfl,rfl⟩) | (go_at_call 126;(with_reducible refine (HC.out _ (b_s D.out.below hw')).mono ?_);exact fun e w2 ⟨he,hb⟩ => ⟨he,hb ▸ hw'⟩) | rfl | exact ⟨rfl,rfl⟩))
      simp only [Act.put,sA,sB,sC]
      iterate 6 ((with_reducible refine quiet_yes ?hw ?_);(case hw => kernel_rfl);apply Exists.intro;refine ⟨fun w' hw' => ?_,?_⟩;(have hc := below_cells hw';unfold Oper.quietAt;go_simp;first | done | (with_reducible rfl) | (with_reducible exact ⟨rfl,rfl⟩) | (go_at_call 126;(with_reducible refine (HC.out _ (b_s D.out.below hw')).mono ?_);exact fun e w2 ⟨he,hb⟩ => ⟨he,hb ▸ hw'⟩) | rfl | exact ⟨rfl,rfl⟩))
      refine wpQuiet_nil ?_
      intro wq hw'
      have D_ := aS (D.out.step hw')
      clear hw' D s0 s1 s2 s3 s4 s5 s6 y0 y1
      have D := D_
      clear D_
      obtain ⟨s0,s1,s2,s3,s4,s5,s6⟩ := cells_7 D.out.h1
      simp only [Act.put,sA,sB,sC]
      go_wp2
      go_ret3
      exact ⟨⟨_,_,_,rfl,fun h => absurd h (by decide)⟩,D.out.below⟩
     have b2 : decide (0 ≤ n) = false := d_F u
     have HND := aS (HN0.out (by omega))
     clear u
     refine wp_region_below (by kernel_rfl) (by kernel_rfl) ?_
     iterate 5 ((with_reducible refine quiet_yes ?hw ?_);(case hw => kernel_rfl);apply Exists.intro;refine ⟨fun w' hw' => ?_,?_⟩;(have hc := below_cells hw';unfold Oper.quietAt;go_simp;first | done | (with_reducible rfl) | (with_reducible exact ⟨rfl,rfl⟩) | (go_at_call 126;(with_reducible refine (HC.out _ (b_s D.out.below hw')).mono ?_);exact fun e w2 ⟨he,hb⟩ => ⟨he,hb ▸ hw'⟩) | rfl | exact ⟨rfl,rfl⟩))
     simp only [Act.put,sA,sB,sC]
     iterate 6 ((with_reducible refine quiet_yes ?hw ?_);(case hw => kernel_rfl);apply Exists.intro;refine ⟨fun w' hw' => ?_,?_⟩;(have hc := below_cells hw';unfold Oper.quietAt;go_simp;first | done | (with_reducible rfl) | (with_reducible exact ⟨rfl,rfl⟩) | (go_at_call 126;(with_reducible refine (HC.out _ (b_s D.out.below hw')).mono ?_);exact fun e w2 ⟨he,hb⟩ => ⟨he,hb ▸ hw'⟩) | rfl | exact ⟨rfl,rfl⟩))
     refine wpQuiet_nil ?_
     intro wq hw'
     have D_ := aS (D.out.step hw')
     clear hw' D s0 s1 s2 s3 s4 s5 s6 y0 y1
     have D := D_
     clear D_
     obtain ⟨s0,s1,s2,s3,s4,s5,s6⟩ := cells_7 D.out.h1
     simp only [Act.put,sA,sB,sC]
     obtain ⟨y0,y1⟩ := HY.out _ D.out.below
     obtain ⟨x0,x1,x2,x3,x4⟩ := HX.out _ D.out.below
     go_wp2
     have HV : Aside0 (∀ W,Calls prog 64 #[.agg #[.int .i64 x.f0,.int .i64 x.f1,.int .i64 x.f2,.int .i64 x.f3,.int .i64 x.f4],.string y.f1] W fun e w' => e = .returned (.int .i64 (specValue x y.f1)) ∧ Below W.heap.size W w') := ⟨fun W => groatref11_Value.at x y.f1 W HSY.out⟩
     obtain ⟨v,hv⟩ : ∃ v,specValue x y.f1 = v := ⟨_,rfl⟩
     rw [hv] at HV
     have HVV : Aside0 (v = 0 → specValue (findS 39 l).1 y.f1 = 0) := ⟨fun h => by rw [← HSX.out,hv,h]⟩
     clear hv
     refine wp_region_below (by kernel_rfl) (by kernel_rfl) ?_
     iterate 6 ((with_reducible refine quiet_yes ?hw ?_);(case hw => kernel_rfl);apply Exists.intro;refine ⟨fun w' hw' => ?_,?_⟩;(have hc := below_cells hw';unfold Oper.quietAt;go_simp;first | done | (with_reducible rfl) | (with_reducible exact ⟨rfl,rfl⟩) | (go_at_call 64;(with_reducible refine (HV.out _).mono ?_);exact fun e w2 ⟨he,hb⟩ => ⟨he,b_s hw' hb⟩) | rfl | exact ⟨rfl,rfl⟩))
     simp only [Act.put,sA,sB,sC]
     iterate 5 ((with_reducible refine quiet_yes ?hw ?_);(case hw => kernel_rfl);apply Exists.intro;refine ⟨fun w' hw' => ?_,?_⟩;(have hc := below_cells hw';unfold Oper.quietAt;go_simp;first | done | (with_reducible rfl) | (with_reducible exact ⟨rfl,rfl⟩) | (go_at_call 64;(with_reducible refine (HV.out _).mono ?_);exact fun e w2 ⟨he,hb⟩ => ⟨he,b_s hw' hb⟩) | rfl | exact ⟨rfl,rfl⟩))
     simp only [Act.put,sA,sB,sC]
     iterate 3 ((with_reducible refine quiet_yes ?hw ?_);(case hw => kernel_rfl);apply Exists.intro;refine ⟨fun w' hw' => ?_,?_⟩;(have hc := below_cells hw';unfold Oper.quietAt;go_simp;first | done | (with_reducible rfl) | (with_reducible exact ⟨rfl,rfl⟩) | (go_at_call 64;(with_reducible refine (HV.out _).mono ?_);exact fun e w2 ⟨he,hb⟩ => ⟨he,b_s hw' hb⟩) | rfl | exact ⟨rfl,rfl⟩))
     refine wpQuiet_nil ?_
     intro wq hw'
     have D_ := aS (D.out.step hw')
     clear hw' D s0 s1 s2 s3 s4 s5 s6 y0 y1 x0 x1 x2 x3 x4
     have D := D_
     clear D_
     obtain ⟨s0,s1,s2,s3,s4,s5,s6⟩ := cells_7 D.out.h1
     simp only [Act.put,sA,sB,sC]
     rcases (Decidable.em (v = 0)).symm with u | u
     ·have b3 : (v != 0) = true := bne_iff_ne.mpr u
      have HZ := aS u
      clear u
      go_wp2
      go_ret3
      exact ⟨⟨_,_,_,rfl,fun h => absurd h HZ.out⟩,D.out.below⟩
     have HN := aS (HNX.out HU.out HND.out (HVV.out u))
     subst u
     go_wp2
     obtain ⟨g,rfl⟩ : ∃ g,gk = g + 1 := ⟨gk - 1,by omega⟩
     go_roundg g
     case rel => exact ⟨i + 1,rfl,by omega,HN,D⟩
     case measure => omega
    ·have e0 : decide ((i : Int) < cs.length) = false := d_F (by omega)
     obtain ⟨n,hn⟩ : ∃ n,plC 0 cs 0 = n := ⟨_,rfl⟩
     have HN : Aside0 (plC 0 (cs.take cs.length) 0 = n) := ⟨by rw [List.take_length];exact hn⟩
     have HG : Aside0 (0 ≤ n → sideR st ver l echo cs) := ⟨fun h => ⟨Q1.out,by rw [HF1.out],HE.out,fun j hj => HF.out j (by omega),plC_some (Int.le_refl 0) (by rw [hn];exact h)⟩⟩
     clear hn
     rcases (Decidable.em (n < 0)) with u | u
     ·have b4 : decide (n < 0) = true := d_T u
      clear u
      go_wp2_with (first | (go_at_call 126;refine (groatref23_find.at Ac cc cs.length cs 0 _ (Nat.le_refl _) hlc (c_B HRc.out D.out.below) HCc.out).mono ?_;rintro e w2 ⟨rfl,rfl⟩;rw [HN.out]))
      go_quiet (fail)
      go_wp2
      go_ret3
      exact ⟨⟨_,_,_,rfl,fun h => absurd h (by decide)⟩,pw_below_drewN D.out.below _⟩
     ·have b4 : decide (n < 0) = false := d_F u
      have HGG := aS (HG.out (by omega))
      clear u
      go_wp2_with (first | (go_at_call 126;refine (groatref23_find.at Ac cc cs.length cs 0 _ (Nat.le_refl _) hlc (c_B HRc.out D.out.below) HCc.out).mono ?_;rintro e w2 ⟨rfl,rfl⟩;rw [HN.out]))
      go_ret3
      exact ⟨⟨_,_,_,rfl,fun _ => HGG.out⟩,D.out.below⟩
end Go.Proofs.YtgbmnpgaddhfpaaGreatDoor.T
