/- Walks and plain laws beneath the law TopOutcome. No conditions but what each statement names. -/
import Derived.Test.YtgbmnpgaddhfpaaGreatDoorM14
set_option linter.unusedVariables false
set_option linter.unusedSimpArgs false
namespace Go.Proofs.YtgbmnpgaddhfpaaGreatDoor.T
open Go.RowKit Go.Proofs.YtgbmnpgaddhfpaaGreatDoorW.PrintWords Go.Proofs.YtgbmnpgaddhfpaaGreatDoorW.PrintLast Go.Proofs.YtgbmnpgaddhfpaaGreatDoorW.PrintMore
attribute [local go_sem] max2_int min2_int max_two min_two
open Go.Proofs.YtgbmnpgaddhfpaaGreatDoor.G
open Tryz
set_option maxRecDepth 100000
section
section
variable {P : Program} {md : Region.Mode} {ops : Array Oper} {Q : Exit → Act → World → Prop}
theorem wpAny_more : ∀ (fuel : Nat) (listed : Array Bool) (a : Act) (w : World),wpAny P md ops Q fuel listed a w → wpAny P md ops Q (fuel + 1) listed a w
 | 0,_,_,_,h => ⟨fun _ => h.2,fun i hi => by rw [h.1] at hi;cases hi⟩
 | n + 1,_,_,_,h => ⟨h.1,fun i hi => wpOp_mono (fun a w hk => wpAny_more n _ a w hk) (h.2 i hi)⟩
theorem wpAny_le {n : Nat} {listed : Array Bool} {a : Act} {w : World} (h : wpAny P md ops Q n listed a w) : ∀ fuel,n ≤ fuel → wpAny P md ops Q fuel listed a w := by
 intro fuel hf
 obtain ⟨d,rfl⟩ := Nat.exists_eq_add_of_le hf
 clear hf
 induction d with
 | zero => exact h
 | succ d ih => exact wpAny_more _ _ _ _ ih
theorem wpAny_tail (k : Nat) {listed : Array Bool} {a : Act} {w : World} (hs : Region.noSelect ops = true) (hlex : Region.lexFrom md ops (ops.toList.drop k).length k listed = true)
  (h : wpQuiet P ops (fun w' => w' = w) (fun a' => Q .normal a' w) (ops.toList.drop k) a) : ∀ fuel,ops.size - k ≤ fuel → wpAny P md ops Q fuel listed a w := by
 have e : (ops.toList.drop k).length = ops.size - k := by simp
 rw [← e]
 refine wpAny_le ?_
 exact wpAny_of_quiet (C := fun w' => w' = w) (Q := fun a' => Q .normal a' w) (fun a' w' hw' hq => by rw [hw'];exact hq) _ _ _ _ rfl (wpAnyQ_lex hs _ k listed a (fun j => by simp) hlex h)
end
structure Sd where
 st : Int
 ver : Int
 l : List S87
 ms : List S66
 rs : List S94
 echo : List Int
 cs : List S129
structure Ad where
 A1 : Option Addr
 c1 : Nat
 Am : Option Addr
 cm : Nat
 Ar : Option Addr
 cr : Nat
 Ae : Option Addr
 ce : Nat
 Ac : Option Addr
 cc : Nat
structure SdAt (w : World) (s : Sd) (p : Ad) : Prop where
 r1 : Kd.C k87 w p.A1 s.l.length s.l
 h1 : s.l.length ≤ p.c1
 n1 : s.l.length ≤ 4611686018427387904
 rm : Kd.C k66 w p.Am s.ms.length s.ms
 hm : s.ms.length ≤ p.cm
 nm : s.ms.length ≤ 4611686018427387904
 rr : Kd.C k94 w p.Ar s.rs.length s.rs
 hr : s.rs.length ≤ p.cr
 nr : s.rs.length ≤ 4611686018427387904
 re : Kd.C (Kd.int .i64) w p.Ae s.echo.length s.echo
 he : s.echo.length ≤ p.ce
 ne : s.echo.length ≤ 4611686018427387904
 rc : Kd.C k129 w p.Ac s.cs.length s.cs
 hc : s.cs.length ≤ p.cc
 nc : s.cs.length ≤ 4611686018427387904
 n4 : ∀ r ∈ s.rs,r.f4.length ≤ 4611686018427387904
theorem SdAt.step {w W : World} {s : Sd} {p : Ad} (h : SdAt w s p) (hb : Below w.heap.size w W) : SdAt W s p :=
 ⟨c_B h.r1 hb,h.h1,h.n1,c_B h.rm hb,h.hm,h.nm,c_B h.rr hb,h.hr,h.nr,c_B h.re hb,h.he,h.ne,c_B h.rc hb,h.hc,h.nc,h.n4⟩
structure SdSz (s : Sd) : Prop where
 m : ∀ p ∈ s.ms,p.f0.size ≤ 1000000 ∧ p.f1.size ≤ 1000000
 r : ∀ r ∈ s.rs,r.f3.size ≤ 1000000 ∧ r.f4.length ≤ 4611686018427387904 ∧ ∀ p ∈ r.f4,p.f0.size ≤ 1000000 ∧ p.f1.size ≤ 1000000
 c : ∀ p ∈ s.cs,p.f1.size ≤ 1000000
def sdR (s : Sd) : Prop := sideR s.st s.ver s.l s.echo s.cs
def mpR (s t : Sd) : Prop := mapR s.ms s.rs s.st s.ver s.l t.st t.ver t.l
def cfgR (s t : Sd) (most : Int) : Prop := (1 ≤ most ∧ most ≤ 65535) ∧ (sdR s ∧ mpR s t) ∧ (sdR t ∧ mpR t s)
theorem s74 {W : World} {s : Sd} {p : Ad} (h : SdAt W s p) (hz : SdSz s) : Calls prog 74 #[.agg #[.int .i64 s.st,.int .i64 s.ver,.slice p.A1 s.l.length p.c1,.slice p.Am s.ms.length p.cm,.slice p.Ar s.rs.length p.cr,.slice p.Ae s.echo.length p.ce,.slice p.Ac s.cs.length p.cc]] W fun e w' => Chk3 (sdR s) e ∧ Below W.heap.size W w' :=
 groatref23_Check.at s.st s.ver p.A1 p.c1 s.l _ _ p.Ae p.ce s.echo p.Ac p.cc s.cs W ⟨_,_,_,rfl⟩ ⟨_,_,_,rfl⟩ h.n1 h.ne h.nc h.r1 h.h1 h.re h.he h.rc h.hc hz.c
theorem s75 {W : World} {s t : Sd} {p q : Ad} (h : SdAt W s p) (h' : SdAt W t q) (hz : SdSz s) : Calls prog 75 #[.agg #[.slice p.Am s.ms.length p.cm,.slice p.Ar s.rs.length p.cr],.agg #[.int .i64 s.st,.int .i64 s.ver,.slice p.A1 s.l.length p.c1],.agg #[.int .i64 t.st,.int .i64 t.ver,.slice q.A1 t.l.length q.c1]] W fun e w' => Chk3 (mpR s t) e ∧ Below W.heap.size W w' :=
 groatref21_Check.at p.Am p.cm s.ms p.Ar p.cr s.rs s.st s.ver p.A1 p.c1 s.l t.st t.ver q.A1 q.c1 t.l W h.n1 h'.n1 h.nm h.nr h.rm h.hm h.rr h.hr h.r1 h.h1 h'.r1 h'.h1 hz.m hz.r
theorem cells_15 {w : World} {g : Nat} {t : TypeId} {v0 v1 v2 v3 v4 v5 v6 v7 v8 v9 v10 v11 v12 v13 v14 : Value} (h : w.heap[g]? = some (.cells #[v0,v1,v2,v3,v4,v5,v6,v7,v8,v9,v10,v11,v12,v13,v14] t (0,0))) :
  w.cell? ⟨g,0,none⟩ = some v0 ∧ w.cell? ⟨g,1,none⟩ = some v1 ∧ w.cell? ⟨g,2,none⟩ = some v2 ∧ w.cell? ⟨g,3,none⟩ = some v3 ∧ w.cell? ⟨g,4,none⟩ = some v4 ∧ w.cell? ⟨g,5,none⟩ = some v5 ∧ w.cell? ⟨g,6,none⟩ = some v6 ∧ w.cell? ⟨g,7,none⟩ = some v7 ∧ w.cell? ⟨g,8,none⟩ = some v8 ∧ w.cell? ⟨g,9,none⟩ = some v9 ∧ w.cell? ⟨g,10,none⟩ = some v10 ∧ w.cell? ⟨g,11,none⟩ = some v11 ∧ w.cell? ⟨g,12,none⟩ = some v12 ∧ w.cell? ⟨g,13,none⟩ = some v13 ∧ w.cell? ⟨g,14,none⟩ = some v14 :=
 ⟨blk_cell h 0,blk_cell h 1,blk_cell h 2,blk_cell h 3,blk_cell h 4,blk_cell h 5,blk_cell h 6,blk_cell h 7,blk_cell h 8,blk_cell h 9,blk_cell h 10,blk_cell h 11,blk_cell h 12,blk_cell h 13,blk_cell h 14⟩
def post9 (vals : List Value) (P : Prop) : Nat → Value → Prop
 | 16,v => ∃ r q t : Int,v = .tuple #[.int .i64 r,.int .i64 q,.int .i64 t] ∧ (r = 0 → P)
 | 17,v => ∃ r q t : Int,v = .tuple #[.int .i64 r,.int .i64 q,.int .i64 t] ∧ (r = 0 → P)
 | i,v => v = vals.getD i undef
def dst9 (i : Nat) : Tmp := [38,39,40,41,42,43,44,45,46,47,48,49,50,51,52,53,54,37].getD i 0
set_option maxHeartbeats 4000000 in
theorem groatref24_Check.at (s t : Sd) (p q : Ad) (most : Int) (w : World) (h1 : SdAt w s p) (h2 : SdAt w t q) (z1 : SdSz s) (z2 : SdSz t) :
  Calls prog 29 #[.agg #[.int .i64 s.st,.int .i64 s.ver,.slice p.A1 s.l.length p.c1,.slice p.Am s.ms.length p.cm,.slice p.Ar s.rs.length p.cr,.slice p.Ae s.echo.length p.ce,.slice p.Ac s.cs.length p.cc,.int .i64 t.st,.int .i64 t.ver,.slice q.A1 t.l.length q.c1,.slice q.Am t.ms.length q.cm,.slice q.Ar t.rs.length q.cr,.slice q.Ae t.echo.length q.ce,.slice q.Ac t.cs.length q.cc,.int .i64 most]] w fun e w' => Chk3 (cfgR s t most) e ∧ Below w.heap.size w w' := by
 have hu35 := underlying35
 have hu33 := underlying33
 have hu32 := underlying32
 have hu28 := underlying28
 have hu24 := underlying24
 have HS := aS h1
 have HT := aS h2
 have HZ1 := aS z1
 have HZ2 := aS z2
 clear h1 h2 z1 z2
 have D := aS (Box1.start w (.cells #[.int .i64 s.st,.int .i64 s.ver,.slice p.A1 s.l.length p.c1,.slice p.Am s.ms.length p.cm,.slice p.Ar s.rs.length p.cr,.slice p.Ae s.echo.length p.ce,.slice p.Ac s.cs.length p.cc,.int .i64 t.st,.int .i64 t.ver,.slice q.A1 t.l.length q.c1,.slice q.Am t.ms.length q.cm,.slice q.Ar t.rs.length q.cr,.slice q.Ae t.echo.length q.ce,.slice q.Ac t.cs.length q.cc,.int .i64 most] 35))
 rcases (Decidable.em (most < 1)) with u | u
 ·have b0 : decide (most < 1) = true := d_T u
  clear u
  go_enter func29,ntmps29
  go_wp2
  go_ret3
  exact ⟨⟨_,_,_,rfl,fun h => absurd h (by decide)⟩,D.out.below⟩
 have b0 : decide (most < 1) = false := d_F u
 rcases (Decidable.em (65535 < most)) with u' | u'
 ·have b1 : decide (65535 < most) = true := d_T u'
  clear u u'
  go_enter func29,ntmps29
  go_wp2
  go_ret3
  exact ⟨⟨_,_,_,rfl,fun h => absurd h (by decide)⟩,D.out.below⟩
 have b1 : decide (65535 < most) = false := d_F u'
 have HM : Aside0 (1 ≤ most ∧ most ≤ 65535) := ⟨by omega⟩
 clear u u'
 go_enter func29,ntmps29
 go_wp2
 clear b0 b1
 go_loopg [5] 2 (fun g v5 w' => ∃ i : Nat,v5 = .int .i64 i ∧ i + g = 2 ∧ Aside0 ((1 ≤ i → sdR s ∧ mpR s t) ∧ (2 ≤ i → sdR t ∧ mpR t s)) ∧ Aside0 (Box1 w w' (.cells #[.int .i64 s.st,.int .i64 s.ver,.slice p.A1 s.l.length p.c1,.slice p.Am s.ms.length p.cm,.slice p.Ar s.rs.length p.cr,.slice p.Ae s.echo.length p.ce,.slice p.Ac s.cs.length p.cc,.int .i64 t.st,.int .i64 t.ver,.slice q.A1 t.l.length q.c1,.slice q.Am t.ms.length q.cm,.slice q.Ar t.rs.length q.cr,.slice q.Ae t.echo.length q.ce,.slice q.Ac t.cs.length q.cc,.int .i64 most] 35)))
 case atStart => exact ⟨0,rfl,rfl,⟨fun h => absurd h (by decide),fun h => absurd h (by decide)⟩,D⟩
 case round =>
  clear D
  obtain ⟨i,rfl,hi,HF,D⟩ := hrel
  obtain ⟨c0_,c1_,c2_,c3_,c4_,c5_,c6_,c7_,c8_,c9_,c10_,c11_,c12_,c13_,c14_⟩ := cells_15 D.out.h1
  by_cases i0 : i = 0
  ·subst i0
   go_wp2_with (first | (go_at_call 74;refine (s74 (HS.out.step D.out.below) HZ1.out).mono ?_;rintro e w3 ⟨⟨rr,qq,tt,rfl,hrr⟩,hb1⟩;have HRR := aS hrr;have D_ := aS (D.out.step hb1);clear c0_ c1_ c2_ c3_ c4_ c5_ c6_ c7_ c8_ c9_ c10_ c11_ c12_ c13_ c14_;clear D hb1 hrr;have D := D_;clear D_;obtain ⟨c0_,c1_,c2_,c3_,c4_,c5_,c6_,c7_,c8_,c9_,c10_,c11_,c12_,c13_,c14_⟩ := cells_15 D.out.h1))
   all_goals first | (rename_i h0;have h1 := aS (bne_iff_ne.1 h0);clear h0;go_ret3;exact ⟨⟨_,_,_,rfl,fun h => absurd h h1.out⟩,D.out.below⟩) | skip
   have h1 : rr = 0 := by first | assumption | exact bne_eq_false_iff_eq.1 (by assumption)
   have HSD := aS (HRR.out h1)
   clear HRR h1
   refine region_grow (by kernel_rfl) 18 dst9 (fun i v _ => post9 [.int .i64 0,.pointer (some ⟨w.heap.size,0,none⟩),.pointer (some ⟨w.heap.size,0,none⟩),.pointer (some ⟨w.heap.size,3,none⟩),.agg #[.slice p.Am s.ms.length p.cm,.slice p.Ar s.rs.length p.cr],.int .i64 0,.pointer (some ⟨w.heap.size,0,none⟩),.pointer (some ⟨w.heap.size,0,none⟩),.pointer (some ⟨w.heap.size,0,none⟩),.agg #[.int .i64 s.st,.int .i64 s.ver,.slice p.A1 s.l.length p.c1],.int .i64 0,.int .i64 1,.pointer (some ⟨w.heap.size,0,none⟩),.pointer (some ⟨w.heap.size,7,none⟩),.pointer (some ⟨w.heap.size,7,none⟩),.agg #[.int .i64 t.st,.int .i64 t.ver,.slice q.A1 t.l.length q.c1]] (mpR s t) i v) (fun _ _ _ _ => True) (by decide) ?rsym0 ?rst0 ?rlow0 ?rgrow0 ?rinj0 ?rsz0 ?rlate0 ?rtail0
   case rsym0 => exact fun _ _ _ _ _ => trivial
   case rst0 => exact fun _ _ _ _ hp _ => hp
   case rlow0 =>
    intro i' o hi' ho
    rcases (show i' = 0 ∨ i' = 1 ∨ i' = 2 ∨ i' = 3 ∨ i' = 4 ∨ i' = 5 ∨ i' = 6 ∨ i' = 7 ∨ i' = 8 ∨ i' = 9 ∨ i' = 10 ∨ i' = 11 ∨ i' = 12 ∨ i' = 13 ∨ i' = 14 ∨ i' = 15 ∨ i' = 16 ∨ i' = 17 by omega) with rfl | rfl | rfl | rfl | rfl | rfl | rfl | rfl | rfl | rfl | rfl | rfl | rfl | rfl | rfl | rfl | rfl | rfl <;> (cases ho;exact ⟨rfl,rfl,by decide⟩)
   case rinj0 =>
    intro i' j hi' hj
    revert j
    revert i'
    decide
   case rsz0 =>
    intro i' hi'
    exact Nat.lt_of_lt_of_le ((by decide : ∀ i,i < 18 → dst9 i < 60) i' hi') (Nat.le_of_ble_eq_true rfl)
   case rlate0 =>
    intro listed hc i' hk hi' hl
    have hi8 : i' = 18 ∨ i' = 19 ∨ i' = 20 ∨ i' = 21 ∨ i' = 22 ∨ i' = 23 := by
     obtain ⟨_,o,ho,_⟩ := mem_ready.1 hi'
     have := (Array.getElem?_eq_some_iff.1 ho).1
     simp at this
     omega
    have t17 : listed.getD 17 false = true := by
     rcases hi8 with rfl | rfl | rfl | rfl | rfl | rfl
     ·exact mem_ready' hi' rfl ⟨17,.data⟩ (by simp) rfl
     ·exact mem_ready' hi' rfl ⟨17,.data⟩ (by simp) rfl
     ·exact mem_ready' hi' rfl ⟨17,.data⟩ (by simp) rfl
     ·exact mem_ready' hi' rfl ⟨17,.phase⟩ (by simp) rfl
     ·exact mem_ready' hi' rfl ⟨17,.phase⟩ (by simp) rfl
     ·exact mem_ready' hi' rfl ⟨17,.phase⟩ (by simp) rfl
    have t16 := hc 17 _ (by omega) rfl t17 ⟨16,.data⟩ (by simp) rfl
    have t4 := hc 16 _ (by omega) rfl t16 ⟨4,.data⟩ (by simp) rfl
    have t9 := hc 16 _ (by omega) rfl t16 ⟨9,.data⟩ (by simp) rfl
    have t15 := hc 16 _ (by omega) rfl t16 ⟨15,.data⟩ (by simp) rfl
    have t14 := hc 15 _ (by omega) rfl t15 ⟨14,.data⟩ (by simp) rfl
    have t13 := hc 14 _ (by omega) rfl t14 ⟨13,.data⟩ (by simp) rfl
    have t12 := hc 13 _ (by omega) rfl t13 ⟨12,.data⟩ (by simp) rfl
    have t11 := hc 13 _ (by omega) rfl t13 ⟨11,.data⟩ (by simp) rfl
    have t10 := hc 11 _ (by omega) rfl t11 ⟨10,.data⟩ (by simp) rfl
    have t8 := hc 9 _ (by omega) rfl t9 ⟨8,.data⟩ (by simp) rfl
    have t7 := hc 8 _ (by omega) rfl t8 ⟨7,.data⟩ (by simp) rfl
    have t6 := hc 7 _ (by omega) rfl t7 ⟨6,.data⟩ (by simp) rfl
    have t5 := hc 7 _ (by omega) rfl t7 ⟨5,.data⟩ (by simp) rfl
    have t3 := hc 4 _ (by omega) rfl t4 ⟨3,.data⟩ (by simp) rfl
    have t2 := hc 3 _ (by omega) rfl t3 ⟨2,.data⟩ (by simp) rfl
    have t1 := hc 2 _ (by omega) rfl t2 ⟨1,.data⟩ (by simp) rfl
    have t0 := hc 2 _ (by omega) rfl t2 ⟨0,.data⟩ (by simp) rfl
    intro j hj
    rcases (show j = 0 ∨ j = 1 ∨ j = 2 ∨ j = 3 ∨ j = 4 ∨ j = 5 ∨ j = 6 ∨ j = 7 ∨ j = 8 ∨ j = 9 ∨ j = 10 ∨ j = 11 ∨ j = 12 ∨ j = 13 ∨ j = 14 ∨ j = 15 ∨ j = 16 ∨ j = 17 by omega) with rfl | rfl | rfl | rfl | rfl | rfl | rfl | rfl | rfl | rfl | rfl | rfl | rfl | rfl | rfl | rfl | rfl | rfl <;> assumption
   case rgrow0 =>
    intro i' o hi' ho a W hb hf hp K' hK
    have HK := aS hK
    have D2 := aS (D.out.step hb)
    clear hK hb D c0_ c1_ c2_ c3_ c4_ c5_ c6_ c7_ c8_ c9_ c10_ c11_ c12_ c13_ c14_
    rcases (show i' = 0 ∨ i' = 1 ∨ i' = 2 ∨ i' = 3 ∨ i' = 4 ∨ i' = 5 ∨ i' = 6 ∨ i' = 7 ∨ i' = 8 ∨ i' = 9 ∨ i' = 10 ∨ i' = 11 ∨ i' = 12 ∨ i' = 13 ∨ i' = 14 ∨ i' = 15 ∨ i' = 16 ∨ i' = 17 by omega) with rfl | rfl | rfl | rfl | rfl | rfl | rfl | rfl | rfl | rfl | rfl | rfl | rfl | rfl | rfl | rfl | rfl | rfl
    ·cases ho
     have e5 : a.tmps[5]? = some (.int .i64 0) := (hf.2.2 5 (by decide)).trans rfl
     clear hp hf
     unfold Oper.wp
     go_simp
     exact HK.out _ _ (Below.refl _ _) rfl (fun _ _ _ _ _ => trivial)
    ·cases ho
     have e1 : a.tmps[1]? = some (.pointer (some ⟨w.heap.size,0,none⟩)) := (hf.2.2 1 (by decide)).trans rfl
     clear hp hf
     unfold Oper.wp
     go_simp
     exact HK.out _ _ (Below.refl _ _) rfl (fun _ _ _ _ _ => trivial)
    ·cases ho
     have h1 : a.eval (.tmp 39) = .pointer (some ⟨w.heap.size,0,none⟩) := hp ⟨1,.data⟩ (by simp) rfl
     have h0 : a.eval (.tmp 38) = .int .i64 0 := hp ⟨0,.data⟩ (by simp) rfl
     clear hp hf
     simp only [Act.eval,Array.getD_eq_getD_getElem?] at h1 h0
     unfold Oper.wp
     go_simp
     exact HK.out _ _ (Below.refl _ _) rfl (fun _ _ _ _ _ => trivial)
    ·cases ho
     have h2 : a.eval (.tmp 40) = .pointer (some ⟨w.heap.size,0,none⟩) := hp ⟨2,.data⟩ (by simp) rfl
     clear hp hf
     simp only [Act.eval,Array.getD_eq_getD_getElem?] at h2
     unfold Oper.wp
     go_simp
     exact HK.out _ _ (Below.refl _ _) rfl (fun _ _ _ _ _ => trivial)
    ·cases ho
     have h3 : a.eval (.tmp 41) = .pointer (some ⟨w.heap.size,3,none⟩) := hp ⟨3,.data⟩ (by simp) rfl
     clear hp hf
     simp only [Act.eval,Array.getD_eq_getD_getElem?] at h3
     obtain ⟨c0_,c1_,c2_,c3_,c4_,c5_,c6_,c7_,c8_,c9_,c10_,c11_,c12_,c13_,c14_⟩ := cells_15 D2.out.h1
     unfold Oper.wp
     go_simp
     exact HK.out _ _ (Below.refl _ _) rfl (fun _ _ _ _ _ => trivial)
    ·cases ho
     have e5 : a.tmps[5]? = some (.int .i64 0) := (hf.2.2 5 (by decide)).trans rfl
     clear hp hf
     unfold Oper.wp
     go_simp
     exact HK.out _ _ (Below.refl _ _) rfl (fun _ _ _ _ _ => trivial)
    ·cases ho
     have e1 : a.tmps[1]? = some (.pointer (some ⟨w.heap.size,0,none⟩)) := (hf.2.2 1 (by decide)).trans rfl
     clear hp hf
     unfold Oper.wp
     go_simp
     exact HK.out _ _ (Below.refl _ _) rfl (fun _ _ _ _ _ => trivial)
    ·cases ho
     have h6 : a.eval (.tmp 44) = .pointer (some ⟨w.heap.size,0,none⟩) := hp ⟨6,.data⟩ (by simp) rfl
     have h5 : a.eval (.tmp 43) = .int .i64 0 := hp ⟨5,.data⟩ (by simp) rfl
     clear hp hf
     simp only [Act.eval,Array.getD_eq_getD_getElem?] at h6 h5
     unfold Oper.wp
     go_simp
     exact HK.out _ _ (Below.refl _ _) rfl (fun _ _ _ _ _ => trivial)
    ·cases ho
     have h7 : a.eval (.tmp 45) = .pointer (some ⟨w.heap.size,0,none⟩) := hp ⟨7,.data⟩ (by simp) rfl
     clear hp hf
     simp only [Act.eval,Array.getD_eq_getD_getElem?] at h7
     unfold Oper.wp
     go_simp
     exact HK.out _ _ (Below.refl _ _) rfl (fun _ _ _ _ _ => trivial)
    ·cases ho
     have h8 : a.eval (.tmp 46) = .pointer (some ⟨w.heap.size,0,none⟩) := hp ⟨8,.data⟩ (by simp) rfl
     clear hp hf
     simp only [Act.eval,Array.getD_eq_getD_getElem?] at h8
     obtain ⟨c0_,c1_,c2_,c3_,c4_,c5_,c6_,c7_,c8_,c9_,c10_,c11_,c12_,c13_,c14_⟩ := cells_15 D2.out.h1
     unfold Oper.wp
     go_simp
     exact HK.out _ _ (Below.refl _ _) rfl (fun _ _ _ _ _ => trivial)
    ·cases ho
     have e5 : a.tmps[5]? = some (.int .i64 0) := (hf.2.2 5 (by decide)).trans rfl
     clear hp hf
     unfold Oper.wp
     go_simp
     exact HK.out _ _ (Below.refl _ _) rfl (fun _ _ _ _ _ => trivial)
    ·cases ho
     have h10 : a.eval (.tmp 48) = .int .i64 0 := hp ⟨10,.data⟩ (by simp) rfl
     clear hp hf
     simp only [Act.eval,Array.getD_eq_getD_getElem?] at h10
     unfold Oper.wp
     go_simp
     exact HK.out _ _ (Below.refl _ _) rfl (fun _ _ _ _ _ => trivial)
    ·cases ho
     have e1 : a.tmps[1]? = some (.pointer (some ⟨w.heap.size,0,none⟩)) := (hf.2.2 1 (by decide)).trans rfl
     clear hp hf
     unfold Oper.wp
     go_simp
     exact HK.out _ _ (Below.refl _ _) rfl (fun _ _ _ _ _ => trivial)
    ·cases ho
     have h12 : a.eval (.tmp 50) = .pointer (some ⟨w.heap.size,0,none⟩) := hp ⟨12,.data⟩ (by simp) rfl
     have h11 : a.eval (.tmp 49) = .int .i64 1 := hp ⟨11,.data⟩ (by simp) rfl
     clear hp hf
     simp only [Act.eval,Array.getD_eq_getD_getElem?] at h12 h11
     unfold Oper.wp
     go_simp
     exact HK.out _ _ (Below.refl _ _) rfl (fun _ _ _ _ _ => trivial)
    ·cases ho
     have h13 : a.eval (.tmp 51) = .pointer (some ⟨w.heap.size,7,none⟩) := hp ⟨13,.data⟩ (by simp) rfl
     clear hp hf
     simp only [Act.eval,Array.getD_eq_getD_getElem?] at h13
     unfold Oper.wp
     go_simp
     exact HK.out _ _ (Below.refl _ _) rfl (fun _ _ _ _ _ => trivial)
    ·cases ho
     have h14 : a.eval (.tmp 52) = .pointer (some ⟨w.heap.size,7,none⟩) := hp ⟨14,.data⟩ (by simp) rfl
     clear hp hf
     simp only [Act.eval,Array.getD_eq_getD_getElem?] at h14
     obtain ⟨c0_,c1_,c2_,c3_,c4_,c5_,c6_,c7_,c8_,c9_,c10_,c11_,c12_,c13_,c14_⟩ := cells_15 D2.out.h1
     unfold Oper.wp
     go_simp
     exact HK.out _ _ (Below.refl _ _) rfl (fun _ _ _ _ _ => trivial)
    ·cases ho
     have h4 : a.eval (.tmp 42) = .agg #[.slice p.Am s.ms.length p.cm,.slice p.Ar s.rs.length p.cr] := hp ⟨4,.data⟩ (by simp) rfl
     have h9 : a.eval (.tmp 47) = .agg #[.int .i64 s.st,.int .i64 s.ver,.slice p.A1 s.l.length p.c1] := hp ⟨9,.data⟩ (by simp) rfl
     have h15 : a.eval (.tmp 53) = .agg #[.int .i64 t.st,.int .i64 t.ver,.slice q.A1 t.l.length q.c1] := hp ⟨15,.data⟩ (by simp) rfl
     clear hp hf
     simp only [Act.eval,Array.getD_eq_getD_getElem?] at h4 h9 h15
     unfold Oper.wp
     go_simp
     go_at_call 75
     refine (s75 (HS.out.step D2.out.below) (HT.out.step D2.out.below) HZ1.out).mono ?_
     rintro e w7 ⟨⟨r,q',t',rfl,hr⟩,hb7⟩
     exact HK.out _ _ hb7 ⟨r,q',t',rfl,hr⟩ (fun _ _ _ _ _ => trivial)
    ·cases ho
     obtain ⟨r,q',t',h16,hr⟩ : ∃ r q9 t9 : Int,a.eval (.tmp 54) = .tuple #[.int .i64 r,.int .i64 q9,.int .i64 t9] ∧ (r = 0 → mpR s t) := hp ⟨16,.data⟩ (by simp) rfl
     clear hp hf
     simp only [Act.eval,Array.getD_eq_getD_getElem?] at h16
     unfold Oper.wp
     go_simp
     exact HK.out _ _ (Below.refl _ _) ⟨r,q',t',rfl,hr⟩ (fun _ _ _ _ _ => trivial)
   case rtail0 =>
    intro a W fuel hfl hb he hp _
    obtain ⟨r,q',t',v37,hr⟩ : ∃ r q9 t9 : Int,a.eval (.tmp 37) = .tuple #[.int .i64 r,.int .i64 q9,.int .i64 t9] ∧ (r = 0 → mpR s t) := hp 17 (by omega)
    replace he : putL _ [(38,a.eval (.tmp 38)),(39,a.eval (.tmp 39)),(40,a.eval (.tmp 40)),(41,a.eval (.tmp 41)),(42,a.eval (.tmp 42)),(43,a.eval (.tmp 43)),(44,a.eval (.tmp 44)),(45,a.eval (.tmp 45)),(46,a.eval (.tmp 46)),(47,a.eval (.tmp 47)),(48,a.eval (.tmp 48)),(49,a.eval (.tmp 49)),(50,a.eval (.tmp 50)),(51,a.eval (.tmp 51)),(52,a.eval (.tmp 52)),(53,a.eval (.tmp 53)),(54,a.eval (.tmp 54)),(37,a.eval (.tmp 37))] = a := he
    rw [v37] at he
    clear hp v37
    generalize a.eval (.tmp 38) = z38 at he
    generalize a.eval (.tmp 39) = z39 at he
    generalize a.eval (.tmp 40) = z40 at he
    generalize a.eval (.tmp 41) = z41 at he
    generalize a.eval (.tmp 42) = z42 at he
    generalize a.eval (.tmp 43) = z43 at he
    generalize a.eval (.tmp 44) = z44 at he
    generalize a.eval (.tmp 45) = z45 at he
    generalize a.eval (.tmp 46) = z46 at he
    generalize a.eval (.tmp 47) = z47 at he
    generalize a.eval (.tmp 48) = z48 at he
    generalize a.eval (.tmp 49) = z49 at he
    generalize a.eval (.tmp 50) = z50 at he
    generalize a.eval (.tmp 51) = z51 at he
    generalize a.eval (.tmp 52) = z52 at he
    generalize a.eval (.tmp 53) = z53 at he
    generalize a.eval (.tmp 54) = z54 at he
    simp only [putL,Act.put,sA,sB,sC] at he
    subst he
    have D_ := aS (D.out.step hb)
    clear hb D c0_ c1_ c2_ c3_ c4_ c5_ c6_ c7_ c8_ c9_ c10_ c11_ c12_ c13_ c14_
    have D := D_
    clear D_
    have HRK := aS hr
    clear hr
    refine wpAny_tail 18 (by kernel_rfl) ?hlex0 ?hq0 fuel hfl
    case hlex0 => kernel_rfl
    simp only [List.drop_succ_cons,List.drop_zero]
    iterate 6 ((with_reducible refine quiet_yes ?hw ?_);(case hw => kernel_rfl);apply Exists.intro;refine ⟨fun w' hw' => ?_,?_⟩;(unfold Oper.quietAt;go_simp;first | done | rfl | exact ⟨rfl,rfl⟩ | exact ⟨hw',rfl⟩))
    refine wpQuiet_nil ?_
    simp only [Act.put,sA,sB,sC]
    obtain ⟨c0_,c1_,c2_,c3_,c4_,c5_,c6_,c7_,c8_,c9_,c10_,c11_,c12_,c13_,c14_⟩ := cells_15 D.out.h1
    rcases (Decidable.em (r = 0)).symm with r0 | r0
    ·have b0 : (r != 0) = true := bne_iff_ne.mpr r0
     have HZZ := aS r0
     clear r0
     go_wp2
     go_ret3
     exact ⟨⟨_,_,_,rfl,fun h => absurd h HZZ.out⟩,D.out.below⟩
    have HOK := aS (HRK.out r0)
    subst r0
    obtain ⟨g,rfl⟩ : ∃ g,gk = g + 1 := ⟨gk - 1,by omega⟩
    go_wp2
    go_roundg g
    case rel => exact ⟨1,rfl,by omega,⟨fun _ => ⟨HSD.out,HOK.out⟩,fun h => absurd h (by decide)⟩,D⟩
    case measure => omega
  by_cases i1 : i = 1
  ·subst i1
   go_wp2_with (first | (go_at_call 74;refine (s74 (HT.out.step D.out.below) HZ2.out).mono ?_;rintro e w3 ⟨⟨rr,qq,tt,rfl,hrr⟩,hb1⟩;have HRR := aS hrr;have D_ := aS (D.out.step hb1);clear c0_ c1_ c2_ c3_ c4_ c5_ c6_ c7_ c8_ c9_ c10_ c11_ c12_ c13_ c14_;clear D hb1 hrr;have D := D_;clear D_;obtain ⟨c0_,c1_,c2_,c3_,c4_,c5_,c6_,c7_,c8_,c9_,c10_,c11_,c12_,c13_,c14_⟩ := cells_15 D.out.h1))
   all_goals first | (rename_i h0;have h1 := aS (bne_iff_ne.1 h0);clear h0;go_ret3;exact ⟨⟨_,_,_,rfl,fun h => absurd h h1.out⟩,D.out.below⟩) | skip
   have h1 : rr = 0 := by first | assumption | exact bne_eq_false_iff_eq.1 (by assumption)
   have HSD := aS (HRR.out h1)
   clear HRR h1
   refine region_grow (by kernel_rfl) 18 dst9 (fun i v _ => post9 [.int .i64 1,.pointer (some ⟨w.heap.size,0,none⟩),.pointer (some ⟨w.heap.size,7,none⟩),.pointer (some ⟨w.heap.size,10,none⟩),.agg #[.slice q.Am t.ms.length q.cm,.slice q.Ar t.rs.length q.cr],.int .i64 1,.pointer (some ⟨w.heap.size,0,none⟩),.pointer (some ⟨w.heap.size,7,none⟩),.pointer (some ⟨w.heap.size,7,none⟩),.agg #[.int .i64 t.st,.int .i64 t.ver,.slice q.A1 t.l.length q.c1],.int .i64 1,.int .i64 0,.pointer (some ⟨w.heap.size,0,none⟩),.pointer (some ⟨w.heap.size,0,none⟩),.pointer (some ⟨w.heap.size,0,none⟩),.agg #[.int .i64 s.st,.int .i64 s.ver,.slice p.A1 s.l.length p.c1]] (mpR t s) i v) (fun _ _ _ _ => True) (by decide) ?rsym1 ?rst1 ?rlow1 ?rgrow1 ?rinj1 ?rsz1 ?rlate1 ?rtail1
   case rsym1 => exact fun _ _ _ _ _ => trivial
   case rst1 => exact fun _ _ _ _ hp _ => hp
   case rlow1 =>
    intro i' o hi' ho
    rcases (show i' = 0 ∨ i' = 1 ∨ i' = 2 ∨ i' = 3 ∨ i' = 4 ∨ i' = 5 ∨ i' = 6 ∨ i' = 7 ∨ i' = 8 ∨ i' = 9 ∨ i' = 10 ∨ i' = 11 ∨ i' = 12 ∨ i' = 13 ∨ i' = 14 ∨ i' = 15 ∨ i' = 16 ∨ i' = 17 by omega) with rfl | rfl | rfl | rfl | rfl | rfl | rfl | rfl | rfl | rfl | rfl | rfl | rfl | rfl | rfl | rfl | rfl | rfl <;> (cases ho;exact ⟨rfl,rfl,by decide⟩)
   case rinj1 =>
    intro i' j hi' hj
    revert j
    revert i'
    decide
   case rsz1 =>
    intro i' hi'
    exact Nat.lt_of_lt_of_le ((by decide : ∀ i,i < 18 → dst9 i < 60) i' hi') (Nat.le_of_ble_eq_true rfl)
   case rlate1 =>
    intro listed hc i' hk hi' hl
    have hi8 : i' = 18 ∨ i' = 19 ∨ i' = 20 ∨ i' = 21 ∨ i' = 22 ∨ i' = 23 := by
     obtain ⟨_,o,ho,_⟩ := mem_ready.1 hi'
     have := (Array.getElem?_eq_some_iff.1 ho).1
     simp at this
     omega
    have t17 : listed.getD 17 false = true := by
     rcases hi8 with rfl | rfl | rfl | rfl | rfl | rfl
     ·exact mem_ready' hi' rfl ⟨17,.data⟩ (by simp) rfl
     ·exact mem_ready' hi' rfl ⟨17,.data⟩ (by simp) rfl
     ·exact mem_ready' hi' rfl ⟨17,.data⟩ (by simp) rfl
     ·exact mem_ready' hi' rfl ⟨17,.phase⟩ (by simp) rfl
     ·exact mem_ready' hi' rfl ⟨17,.phase⟩ (by simp) rfl
     ·exact mem_ready' hi' rfl ⟨17,.phase⟩ (by simp) rfl
    have t16 := hc 17 _ (by omega) rfl t17 ⟨16,.data⟩ (by simp) rfl
    have t4 := hc 16 _ (by omega) rfl t16 ⟨4,.data⟩ (by simp) rfl
    have t9 := hc 16 _ (by omega) rfl t16 ⟨9,.data⟩ (by simp) rfl
    have t15 := hc 16 _ (by omega) rfl t16 ⟨15,.data⟩ (by simp) rfl
    have t14 := hc 15 _ (by omega) rfl t15 ⟨14,.data⟩ (by simp) rfl
    have t13 := hc 14 _ (by omega) rfl t14 ⟨13,.data⟩ (by simp) rfl
    have t12 := hc 13 _ (by omega) rfl t13 ⟨12,.data⟩ (by simp) rfl
    have t11 := hc 13 _ (by omega) rfl t13 ⟨11,.data⟩ (by simp) rfl
    have t10 := hc 11 _ (by omega) rfl t11 ⟨10,.data⟩ (by simp) rfl
    have t8 := hc 9 _ (by omega) rfl t9 ⟨8,.data⟩ (by simp) rfl
    have t7 := hc 8 _ (by omega) rfl t8 ⟨7,.data⟩ (by simp) rfl
    have t6 := hc 7 _ (by omega) rfl t7 ⟨6,.data⟩ (by simp) rfl
    have t5 := hc 7 _ (by omega) rfl t7 ⟨5,.data⟩ (by simp) rfl
    have t3 := hc 4 _ (by omega) rfl t4 ⟨3,.data⟩ (by simp) rfl
    have t2 := hc 3 _ (by omega) rfl t3 ⟨2,.data⟩ (by simp) rfl
    have t1 := hc 2 _ (by omega) rfl t2 ⟨1,.data⟩ (by simp) rfl
    have t0 := hc 2 _ (by omega) rfl t2 ⟨0,.data⟩ (by simp) rfl
    intro j hj
    rcases (show j = 0 ∨ j = 1 ∨ j = 2 ∨ j = 3 ∨ j = 4 ∨ j = 5 ∨ j = 6 ∨ j = 7 ∨ j = 8 ∨ j = 9 ∨ j = 10 ∨ j = 11 ∨ j = 12 ∨ j = 13 ∨ j = 14 ∨ j = 15 ∨ j = 16 ∨ j = 17 by omega) with rfl | rfl | rfl | rfl | rfl | rfl | rfl | rfl | rfl | rfl | rfl | rfl | rfl | rfl | rfl | rfl | rfl | rfl <;> assumption
   case rgrow1 =>
    intro i' o hi' ho a W hb hf hp K' hK
    have HK := aS hK
    have D2 := aS (D.out.step hb)
    clear hK hb D c0_ c1_ c2_ c3_ c4_ c5_ c6_ c7_ c8_ c9_ c10_ c11_ c12_ c13_ c14_
    rcases (show i' = 0 ∨ i' = 1 ∨ i' = 2 ∨ i' = 3 ∨ i' = 4 ∨ i' = 5 ∨ i' = 6 ∨ i' = 7 ∨ i' = 8 ∨ i' = 9 ∨ i' = 10 ∨ i' = 11 ∨ i' = 12 ∨ i' = 13 ∨ i' = 14 ∨ i' = 15 ∨ i' = 16 ∨ i' = 17 by omega) with rfl | rfl | rfl | rfl | rfl | rfl | rfl | rfl | rfl | rfl | rfl | rfl | rfl | rfl | rfl | rfl | rfl | rfl
    ·cases ho
     have e5 : a.tmps[5]? = some (.int .i64 1) := (hf.2.2 5 (by decide)).trans rfl
     clear hp hf
     unfold Oper.wp
     go_simp
     exact HK.out _ _ (Below.refl _ _) rfl (fun _ _ _ _ _ => trivial)
    ·cases ho
     have e1 : a.tmps[1]? = some (.pointer (some ⟨w.heap.size,0,none⟩)) := (hf.2.2 1 (by decide)).trans rfl
     clear hp hf
     unfold Oper.wp
     go_simp
     exact HK.out _ _ (Below.refl _ _) rfl (fun _ _ _ _ _ => trivial)
    ·cases ho
     have h1 : a.eval (.tmp 39) = .pointer (some ⟨w.heap.size,0,none⟩) := hp ⟨1,.data⟩ (by simp) rfl
     have h0 : a.eval (.tmp 38) = .int .i64 1 := hp ⟨0,.data⟩ (by simp) rfl
     clear hp hf
     simp only [Act.eval,Array.getD_eq_getD_getElem?] at h1 h0
     unfold Oper.wp
     go_simp
     exact HK.out _ _ (Below.refl _ _) rfl (fun _ _ _ _ _ => trivial)
    ·cases ho
     have h2 : a.eval (.tmp 40) = .pointer (some ⟨w.heap.size,7,none⟩) := hp ⟨2,.data⟩ (by simp) rfl
     clear hp hf
     simp only [Act.eval,Array.getD_eq_getD_getElem?] at h2
     unfold Oper.wp
     go_simp
     exact HK.out _ _ (Below.refl _ _) rfl (fun _ _ _ _ _ => trivial)
    ·cases ho
     have h3 : a.eval (.tmp 41) = .pointer (some ⟨w.heap.size,10,none⟩) := hp ⟨3,.data⟩ (by simp) rfl
     clear hp hf
     simp only [Act.eval,Array.getD_eq_getD_getElem?] at h3
     obtain ⟨c0_,c1_,c2_,c3_,c4_,c5_,c6_,c7_,c8_,c9_,c10_,c11_,c12_,c13_,c14_⟩ := cells_15 D2.out.h1
     unfold Oper.wp
     go_simp
     exact HK.out _ _ (Below.refl _ _) rfl (fun _ _ _ _ _ => trivial)
    ·cases ho
     have e5 : a.tmps[5]? = some (.int .i64 1) := (hf.2.2 5 (by decide)).trans rfl
     clear hp hf
     unfold Oper.wp
     go_simp
     exact HK.out _ _ (Below.refl _ _) rfl (fun _ _ _ _ _ => trivial)
    ·cases ho
     have e1 : a.tmps[1]? = some (.pointer (some ⟨w.heap.size,0,none⟩)) := (hf.2.2 1 (by decide)).trans rfl
     clear hp hf
     unfold Oper.wp
     go_simp
     exact HK.out _ _ (Below.refl _ _) rfl (fun _ _ _ _ _ => trivial)
    ·cases ho
     have h6 : a.eval (.tmp 44) = .pointer (some ⟨w.heap.size,0,none⟩) := hp ⟨6,.data⟩ (by simp) rfl
     have h5 : a.eval (.tmp 43) = .int .i64 1 := hp ⟨5,.data⟩ (by simp) rfl
     clear hp hf
     simp only [Act.eval,Array.getD_eq_getD_getElem?] at h6 h5
     unfold Oper.wp
     go_simp
     exact HK.out _ _ (Below.refl _ _) rfl (fun _ _ _ _ _ => trivial)
    ·cases ho
     have h7 : a.eval (.tmp 45) = .pointer (some ⟨w.heap.size,7,none⟩) := hp ⟨7,.data⟩ (by simp) rfl
     clear hp hf
     simp only [Act.eval,Array.getD_eq_getD_getElem?] at h7
     unfold Oper.wp
     go_simp
     exact HK.out _ _ (Below.refl _ _) rfl (fun _ _ _ _ _ => trivial)
    ·cases ho
     have h8 : a.eval (.tmp 46) = .pointer (some ⟨w.heap.size,7,none⟩) := hp ⟨8,.data⟩ (by simp) rfl
     clear hp hf
     simp only [Act.eval,Array.getD_eq_getD_getElem?] at h8
     obtain ⟨c0_,c1_,c2_,c3_,c4_,c5_,c6_,c7_,c8_,c9_,c10_,c11_,c12_,c13_,c14_⟩ := cells_15 D2.out.h1
     unfold Oper.wp
     go_simp
     exact HK.out _ _ (Below.refl _ _) rfl (fun _ _ _ _ _ => trivial)
    ·cases ho
     have e5 : a.tmps[5]? = some (.int .i64 1) := (hf.2.2 5 (by decide)).trans rfl
     clear hp hf
     unfold Oper.wp
     go_simp
     exact HK.out _ _ (Below.refl _ _) rfl (fun _ _ _ _ _ => trivial)
    ·cases ho
     have h10 : a.eval (.tmp 48) = .int .i64 1 := hp ⟨10,.data⟩ (by simp) rfl
     clear hp hf
     simp only [Act.eval,Array.getD_eq_getD_getElem?] at h10
     unfold Oper.wp
     go_simp
     exact HK.out _ _ (Below.refl _ _) rfl (fun _ _ _ _ _ => trivial)
    ·cases ho
     have e1 : a.tmps[1]? = some (.pointer (some ⟨w.heap.size,0,none⟩)) := (hf.2.2 1 (by decide)).trans rfl
     clear hp hf
     unfold Oper.wp
     go_simp
     exact HK.out _ _ (Below.refl _ _) rfl (fun _ _ _ _ _ => trivial)
    ·cases ho
     have h12 : a.eval (.tmp 50) = .pointer (some ⟨w.heap.size,0,none⟩) := hp ⟨12,.data⟩ (by simp) rfl
     have h11 : a.eval (.tmp 49) = .int .i64 0 := hp ⟨11,.data⟩ (by simp) rfl
     clear hp hf
     simp only [Act.eval,Array.getD_eq_getD_getElem?] at h12 h11
     unfold Oper.wp
     go_simp
     exact HK.out _ _ (Below.refl _ _) rfl (fun _ _ _ _ _ => trivial)
    ·cases ho
     have h13 : a.eval (.tmp 51) = .pointer (some ⟨w.heap.size,0,none⟩) := hp ⟨13,.data⟩ (by simp) rfl
     clear hp hf
     simp only [Act.eval,Array.getD_eq_getD_getElem?] at h13
     unfold Oper.wp
     go_simp
     exact HK.out _ _ (Below.refl _ _) rfl (fun _ _ _ _ _ => trivial)
    ·cases ho
     have h14 : a.eval (.tmp 52) = .pointer (some ⟨w.heap.size,0,none⟩) := hp ⟨14,.data⟩ (by simp) rfl
     clear hp hf
     simp only [Act.eval,Array.getD_eq_getD_getElem?] at h14
     obtain ⟨c0_,c1_,c2_,c3_,c4_,c5_,c6_,c7_,c8_,c9_,c10_,c11_,c12_,c13_,c14_⟩ := cells_15 D2.out.h1
     unfold Oper.wp
     go_simp
     exact HK.out _ _ (Below.refl _ _) rfl (fun _ _ _ _ _ => trivial)
    ·cases ho
     have h4 : a.eval (.tmp 42) = .agg #[.slice q.Am t.ms.length q.cm,.slice q.Ar t.rs.length q.cr] := hp ⟨4,.data⟩ (by simp) rfl
     have h9 : a.eval (.tmp 47) = .agg #[.int .i64 t.st,.int .i64 t.ver,.slice q.A1 t.l.length q.c1] := hp ⟨9,.data⟩ (by simp) rfl
     have h15 : a.eval (.tmp 53) = .agg #[.int .i64 s.st,.int .i64 s.ver,.slice p.A1 s.l.length p.c1] := hp ⟨15,.data⟩ (by simp) rfl
     clear hp hf
     simp only [Act.eval,Array.getD_eq_getD_getElem?] at h4 h9 h15
     unfold Oper.wp
     go_simp
     go_at_call 75
     refine (s75 (HT.out.step D2.out.below) (HS.out.step D2.out.below) HZ2.out).mono ?_
     rintro e w7 ⟨⟨r,q',t',rfl,hr⟩,hb7⟩
     exact HK.out _ _ hb7 ⟨r,q',t',rfl,hr⟩ (fun _ _ _ _ _ => trivial)
    ·cases ho
     obtain ⟨r,q',t',h16,hr⟩ : ∃ r q9 t9 : Int,a.eval (.tmp 54) = .tuple #[.int .i64 r,.int .i64 q9,.int .i64 t9] ∧ (r = 0 → mpR t s) := hp ⟨16,.data⟩ (by simp) rfl
     clear hp hf
     simp only [Act.eval,Array.getD_eq_getD_getElem?] at h16
     unfold Oper.wp
     go_simp
     exact HK.out _ _ (Below.refl _ _) ⟨r,q',t',rfl,hr⟩ (fun _ _ _ _ _ => trivial)
   case rtail1 =>
    intro a W fuel hfl hb he hp _
    obtain ⟨r,q',t',v37,hr⟩ : ∃ r q9 t9 : Int,a.eval (.tmp 37) = .tuple #[.int .i64 r,.int .i64 q9,.int .i64 t9] ∧ (r = 0 → mpR t s) := hp 17 (by omega)
    replace he : putL _ [(38,a.eval (.tmp 38)),(39,a.eval (.tmp 39)),(40,a.eval (.tmp 40)),(41,a.eval (.tmp 41)),(42,a.eval (.tmp 42)),(43,a.eval (.tmp 43)),(44,a.eval (.tmp 44)),(45,a.eval (.tmp 45)),(46,a.eval (.tmp 46)),(47,a.eval (.tmp 47)),(48,a.eval (.tmp 48)),(49,a.eval (.tmp 49)),(50,a.eval (.tmp 50)),(51,a.eval (.tmp 51)),(52,a.eval (.tmp 52)),(53,a.eval (.tmp 53)),(54,a.eval (.tmp 54)),(37,a.eval (.tmp 37))] = a := he
    rw [v37] at he
    clear hp v37
    generalize a.eval (.tmp 38) = z38 at he
    generalize a.eval (.tmp 39) = z39 at he
    generalize a.eval (.tmp 40) = z40 at he
    generalize a.eval (.tmp 41) = z41 at he
    generalize a.eval (.tmp 42) = z42 at he
    generalize a.eval (.tmp 43) = z43 at he
    generalize a.eval (.tmp 44) = z44 at he
    generalize a.eval (.tmp 45) = z45 at he
    generalize a.eval (.tmp 46) = z46 at he
    generalize a.eval (.tmp 47) = z47 at he
    generalize a.eval (.tmp 48) = z48 at he
    generalize a.eval (.tmp 49) = z49 at he
    generalize a.eval (.tmp 50) = z50 at he
    generalize a.eval (.tmp 51) = z51 at he
    generalize a.eval (.tmp 52) = z52 at he
    generalize a.eval (.tmp 53) = z53 at he
    generalize a.eval (.tmp 54) = z54 at he
    simp only [putL,Act.put,sA,sB,sC] at he
    subst he
    have D_ := aS (D.out.step hb)
    clear hb D c0_ c1_ c2_ c3_ c4_ c5_ c6_ c7_ c8_ c9_ c10_ c11_ c12_ c13_ c14_
    have D := D_
    clear D_
    have HRK := aS hr
    clear hr
    refine wpAny_tail 18 (by kernel_rfl) ?hlex1 ?hq1 fuel hfl
    case hlex1 => kernel_rfl
    simp only [List.drop_succ_cons,List.drop_zero]
    iterate 6 ((with_reducible refine quiet_yes ?hw ?_);(case hw => kernel_rfl);apply Exists.intro;refine ⟨fun w' hw' => ?_,?_⟩;(unfold Oper.quietAt;go_simp;first | done | rfl | exact ⟨rfl,rfl⟩ | exact ⟨hw',rfl⟩))
    refine wpQuiet_nil ?_
    simp only [Act.put,sA,sB,sC]
    obtain ⟨c0_,c1_,c2_,c3_,c4_,c5_,c6_,c7_,c8_,c9_,c10_,c11_,c12_,c13_,c14_⟩ := cells_15 D.out.h1
    rcases (Decidable.em (r = 0)).symm with r0 | r0
    ·have b0 : (r != 0) = true := bne_iff_ne.mpr r0
     have HZZ := aS r0
     clear r0
     go_wp2
     go_ret3
     exact ⟨⟨_,_,_,rfl,fun h => absurd h HZZ.out⟩,D.out.below⟩
    have HOK := aS (HRK.out r0)
    subst r0
    obtain ⟨g,rfl⟩ : ∃ g,gk = g + 1 := ⟨gk - 1,by omega⟩
    go_wp2
    go_roundg g
    case rel => exact ⟨2,rfl,by omega,⟨fun _ => HF.out.1 (by decide),fun _ => ⟨HSD.out,HOK.out⟩⟩,D⟩
    case measure => omega
  obtain rfl : i = 2 := by omega
  have HR : Aside0 (cfgR s t most) := ⟨⟨HM.out,HF.out.1 (by decide),HF.out.2 (by decide)⟩⟩
  clear i0 i1
  go_wp2
  go_ret3
  exact ⟨⟨_,_,_,rfl,fun _ => HR.out⟩,D.out.below⟩
def ChkB (P : Prop) (e : Ending) : Prop := ∃ b : Bool,e = .returned (.bool b) ∧ (b = true → P)
set_option maxHeartbeats 1000000 in
theorem groatref24_Right.at (s t : Sd) (p q : Ad) (most : Int) (w : World) (h1 : SdAt w s p) (h2 : SdAt w t q) (z1 : SdSz s) (z2 : SdSz t) :
  Calls prog 8 #[.agg #[.int .i64 s.st,.int .i64 s.ver,.slice p.A1 s.l.length p.c1,.slice p.Am s.ms.length p.cm,.slice p.Ar s.rs.length p.cr,.slice p.Ae s.echo.length p.ce,.slice p.Ac s.cs.length p.cc,.int .i64 t.st,.int .i64 t.ver,.slice q.A1 t.l.length q.c1,.slice q.Am t.ms.length q.cm,.slice q.Ar t.rs.length q.cr,.slice q.Ae t.echo.length q.ce,.slice q.Ac t.cs.length q.cc,.int .i64 most]] w fun e w' => ChkB (cfgR s t most) e ∧ Below w.heap.size w w' := by
 have hu35 := underlying35
 have HS := aS h1
 have HT := aS h2
 clear h1 h2
 go_enter func8,ntmps8
 go_wp2_with (first | (go_at_call 29;refine (groatref24_Check.at s t p q most _ (HS.out.step (Box1.start w _).below) (HT.out.step (Box1.start w _).below) z1 z2).mono ?_;rintro e w2 ⟨⟨r,qq,tt,rfl,hr⟩,hb1⟩;have HRR := aS hr;have D := aS (Box1.init hb1);clear hr hb1))
 go_ret
 exact ⟨⟨_,rfl,fun h => HRR.out (beq_iff_eq.1 h)⟩,D.out.below⟩
end
structure SdAt0 (w : World) (s : Sd) (p : Ad) : Prop where
 r1 : Kd.C k87 w p.A1 s.l.length s.l
 h1 : s.l.length ≤ p.c1
 n1 : s.l.length ≤ 9223372036854775807
 rm : Kd.C k66 w p.Am s.ms.length s.ms
 hm : s.ms.length ≤ p.cm
 nm : s.ms.length ≤ 9223372036854775807
 rr : Kd.C k94 w p.Ar s.rs.length s.rs
 hr : s.rs.length ≤ p.cr
 nr : s.rs.length ≤ 9223372036854775807
 re : Kd.C (Kd.int .i64) w p.Ae s.echo.length s.echo
 he : s.echo.length ≤ p.ce
 ne : s.echo.length ≤ 9223372036854775807
 rc : Kd.C k129 w p.Ac s.cs.length s.cs
 hc : s.cs.length ≤ p.cc
 nc : s.cs.length ≤ 9223372036854775807
 n4 : ∀ r ∈ s.rs,r.f4.length ≤ 9223372036854775807
theorem SdAt0.step {w W : World} {s : Sd} {p : Ad} (h : SdAt0 w s p) (hb : Below w.heap.size w W) : SdAt0 W s p :=
 ⟨c_B h.r1 hb,h.h1,h.n1,c_B h.rm hb,h.hm,h.nm,c_B h.rr hb,h.hr,h.nr,c_B h.re hb,h.he,h.ne,c_B h.rc hb,h.hc,h.nc,h.n4⟩
def ChkG (P : Prop) (e : Ending) : Prop := ∃ b : Bool,e = .returned (.bool b) ∧ (b = false → P)
def ruleSz (r : S94) : Prop := r.f3.size ≤ 1200 ∧ r.f4.length ≤ 300 ∧ ∀ p ∈ r.f4,p.f0.size ≤ 1200 ∧ p.f1.size ≤ 1200
theorem take_mem66 {l : List S66} {k : Nat} (h : k < l.length) {p : S66} (hp : p ∈ l.take (k + 1)) : p ∈ l.take k ∨ p = rd_T66 l (k : Int) := by
 rw [List.take_succ_eq_append_getElem h] at hp
 rcases List.mem_append.1 hp with hp | hp
 ·exact .inl hp
 ·refine .inr ?_
  rw [List.mem_singleton.1 hp]
  simp [rd_T66,List.getD_eq_getElem?_getD,List.getElem?_eq_getElem h]
theorem take_mem129 {l : List S129} {k : Nat} (h : k < l.length) {p : S129} (hp : p ∈ l.take (k + 1)) : p ∈ l.take k ∨ p = rd_T129 l (k : Int) := by
 rw [List.take_succ_eq_append_getElem h] at hp
 rcases List.mem_append.1 hp with hp | hp
 ·exact .inl hp
 ·refine .inr ?_
  rw [List.mem_singleton.1 hp]
  simp [rd_T129,List.getD_eq_getElem?_getD,List.getElem?_eq_getElem h]
set_option maxHeartbeats 2000000 in
theorem groatref20_Great.at (r : S94) (B : Option Addr) (d : Nat) (w : World) (hl : r.f4.length ≤ 9223372036854775807) (hr : Kd.C k66 w B r.f4.length r.f4) (hc : r.f4.length ≤ d) :
  Calls prog 73 #[.agg #[.int .i64 r.f0,.int .i64 r.f1,.int .i64 r.f2,.string r.f3,.slice B r.f4.length d]] w fun e w' => ChkG (ruleSz r) e ∧ Below w.heap.size w w' := by
 have hu94 := underlying94
 have hu66 := underlying66
 have HRP := aS hr
 have HCP := aS hc
 clear hr hc
 have D := aS (Box1.start w (.cells #[.int .i64 r.f0,.int .i64 r.f1,.int .i64 r.f2,.string r.f3,.slice B r.f4.length d] 94))
 rcases (Decidable.em (1200 < r.f3.size)) with u | u
 ·have b0 : decide (1200 < (r.f3.size : Int)) = true := d_T (by omega)
  have b1 : decide (1200 < r.f3.size) = true := d_T u
  clear u
  go_enter func73,ntmps73
  go_wp2
  go_ret
  exact ⟨⟨_,rfl,fun h => absurd h (by decide)⟩,D.out.below⟩
 have f3 : decide (1200 < (r.f3.size : Int)) = false := d_F (by omega)
 have f3' : decide (1200 < r.f3.size) = false := d_F u
 have F32 : Aside0 (r.f3.size ≤ 1200) := ⟨by omega⟩
 clear u
 rcases (Decidable.em (300 < r.f4.length)) with u | u
 ·have b0 : decide (300 < (r.f4.length : Int)) = true := d_T (by omega)
  have b1 : decide (300 < r.f4.length) = true := d_T u
  clear u
  go_enter func73,ntmps73
  go_wp2
  go_ret
  exact ⟨⟨_,rfl,fun h => absurd h (by decide)⟩,D.out.below⟩
 have f4 : decide (300 < (r.f4.length : Int)) = false := d_F (by omega)
 have f4' : decide (300 < r.f4.length) = false := d_F u
 have F42 : Aside0 (r.f4.length ≤ 300) := ⟨by omega⟩
 clear u
 go_enter func73,ntmps73
 go_wp2
 clear f3 f3' f4 f4'
 go_loopg [3] r.f4.length (fun g v3 w' => ∃ i : Nat,v3 = .int .i64 i ∧ i + g = r.f4.length ∧ Aside0 (∀ p ∈ r.f4.take i,p.f0.size ≤ 1200 ∧ p.f1.size ≤ 1200) ∧ Aside0 (Box1 w w' (.cells #[.int .i64 r.f0,.int .i64 r.f1,.int .i64 r.f2,.string r.f3,.slice B r.f4.length d] 94)))
 case atStart => exact ⟨0,rfl,Nat.zero_add _,⟨fun p hp => by cases hp⟩,D⟩
 case round =>
  clear D
  obtain ⟨i,rfl,hi,HF,D⟩ := hrel
  obtain ⟨b0_,b1_,b2_,b3_,b4_⟩ := cells_5 D.out.h1
  by_cases h : i < r.f4.length
  ·have e0 : decide ((i : Int) < r.f4.length) = true := d_T (by omega)
   obtain ⟨ad,rfl,hx0,hx1⟩ := at66 HRP.out D.out.below i h
   have q0 : (0 ≤ (i : Int)) = True := eq_true (by omega)
   have q1 : ((i : Int) < r.f4.length) = True := eq_true (by omega)
   have HT : Aside0 ((rd_T66 r.f4 (i : Int)).f0.size ≤ 1200 → (rd_T66 r.f4 (i : Int)).f1.size ≤ 1200 → ∀ p ∈ r.f4.take (i + 1),p.f0.size ≤ 1200 ∧ p.f1.size ≤ 1200) := ⟨fun a b p hp => by
    rcases take_mem66 h hp with hp | rfl
    ·exact HF.out p hp
    ·exact ⟨a,b⟩⟩
   generalize rd_T66 r.f4 (i : Int) = x at *
   rcases (Decidable.em (1200 < x.f0.size)) with u | u
   ·have b0 : decide (1200 < (x.f0.size : Int)) = true := d_T (by omega)
    have b1 : decide (1200 < x.f0.size) = true := d_T u
    clear u
    go_wp2
    go_ret
    exact ⟨⟨_,rfl,fun h => absurd h (by decide)⟩,D.out.below⟩
   have f0 : decide (1200 < (x.f0.size : Int)) = false := d_F (by omega)
   have f0' : decide (1200 < x.f0.size) = false := d_F u
   have F02 : Aside0 (x.f0.size ≤ 1200) := ⟨by omega⟩
   clear u
   rcases (Decidable.em (1200 < x.f1.size)) with u | u
   ·have b0 : decide (1200 < (x.f1.size : Int)) = true := d_T (by omega)
    have b1 : decide (1200 < x.f1.size) = true := d_T u
    clear u
    go_wp2
    go_ret
    exact ⟨⟨_,rfl,fun h => absurd h (by decide)⟩,D.out.below⟩
   have f1 : decide (1200 < (x.f1.size : Int)) = false := d_F (by omega)
   have f1' : decide (1200 < x.f1.size) = false := d_F u
   have F12 : Aside0 (x.f1.size ≤ 1200) := ⟨by omega⟩
   clear u
   have HN := aS (HT.out F02.out F12.out)
   go_wp2
   obtain ⟨g,rfl⟩ : ∃ g,gk = g + 1 := ⟨gk - 1,by omega⟩
   go_roundg g
   case rel => exact ⟨i + 1,rfl,by omega,HN,D⟩
   case measure => omega
  ·have e0 : decide ((i : Int) < r.f4.length) = false := d_F (by omega)
   have HALL : Aside0 (∀ p ∈ r.f4,p.f0.size ≤ 1200 ∧ p.f1.size ≤ 1200) := ⟨fun p hp => HF.out p (by rw [List.take_of_length_le (by omega)];exact hp)⟩
   have HR : Aside0 (ruleSz r) := ⟨⟨F32.out,F42.out,HALL.out⟩⟩
   go_wp2
   go_ret
   exact ⟨⟨_,rfl,fun _ => HR.out⟩,D.out.below⟩
def sideSz (s : Sd) : Prop := s.l.length ≤ 200 ∧ s.echo.length ≤ 300 ∧ s.cs.length ≤ 300 ∧ ∀ c ∈ s.cs,c.f1.size ≤ 1200
def mpSz (s : Sd) : Prop := s.ms.length ≤ 300 ∧ s.rs.length ≤ 300 ∧ (∀ p ∈ s.ms,p.f0.size ≤ 100 ∧ p.f1.size ≤ 100) ∧ ∀ r ∈ s.rs,ruleSz r
set_option maxHeartbeats 2000000 in
theorem groatref23_Great.at (s : Sd) (p : Ad) (w : World) (h1 : SdAt0 w s p) :
  Calls prog 27 #[.agg #[.int .i64 s.st,.int .i64 s.ver,.slice p.A1 s.l.length p.c1,.slice p.Am s.ms.length p.cm,.slice p.Ar s.rs.length p.cr,.slice p.Ae s.echo.length p.ce,.slice p.Ac s.cs.length p.cc]] w fun e w' => ChkG (sideSz s) e ∧ Below w.heap.size w w' := by
 have hu32 := underlying32
 have hu24 := underlying24
 have hu129 := underlying129
 have n1 := h1.n1
 have ne := h1.ne
 have nc := h1.nc
 have HS := aS h1
 clear h1
 have D := aS (Box1.start w (.cells #[.int .i64 s.st,.int .i64 s.ver,.slice p.A1 s.l.length p.c1,.slice p.Am s.ms.length p.cm,.slice p.Ar s.rs.length p.cr,.slice p.Ae s.echo.length p.ce,.slice p.Ac s.cs.length p.cc] 32))
 rcases (Decidable.em (200 < s.l.length)) with u | u
 ·have b0 : decide (200 < (s.l.length : Int)) = true := d_T (by omega)
  have b1 : decide (200 < s.l.length) = true := d_T u
  clear u
  go_enter func27,ntmps27
  go_wp2
  go_ret
  exact ⟨⟨_,rfl,fun h => absurd h (by decide)⟩,D.out.below⟩
 have f1 : decide (200 < (s.l.length : Int)) = false := d_F (by omega)
 have f1' : decide (200 < s.l.length) = false := d_F u
 have F12 : Aside0 (s.l.length ≤ 200) := ⟨by omega⟩
 clear u
 rcases (Decidable.em (300 < s.echo.length)) with u | u
 ·have b0 : decide (300 < (s.echo.length : Int)) = true := d_T (by omega)
  have b1 : decide (300 < s.echo.length) = true := d_T u
  clear u
  go_enter func27,ntmps27
  go_wp2
  go_ret
  exact ⟨⟨_,rfl,fun h => absurd h (by decide)⟩,D.out.below⟩
 have f2 : decide (300 < (s.echo.length : Int)) = false := d_F (by omega)
 have f2' : decide (300 < s.echo.length) = false := d_F u
 have F22 : Aside0 (s.echo.length ≤ 300) := ⟨by omega⟩
 clear u
 rcases (Decidable.em (300 < s.cs.length)) with u | u
 ·have b0 : decide (300 < (s.cs.length : Int)) = true := d_T (by omega)
  have b1 : decide (300 < s.cs.length) = true := d_T u
  clear u
  go_enter func27,ntmps27
  go_wp2
  go_ret
  exact ⟨⟨_,rfl,fun h => absurd h (by decide)⟩,D.out.below⟩
 have f3 : decide (300 < (s.cs.length : Int)) = false := d_F (by omega)
 have f3' : decide (300 < s.cs.length) = false := d_F u
 have F32 : Aside0 (s.cs.length ≤ 300) := ⟨by omega⟩
 clear u
 go_enter func27,ntmps27
 go_wp2
 clear f1 f1' f2 f2' f3 f3'
 go_loopg [3] s.cs.length (fun g v3 w' => ∃ i : Nat,v3 = .int .i64 i ∧ i + g = s.cs.length ∧ Aside0 (∀ p ∈ s.cs.take i,p.f1.size ≤ 1200) ∧ Aside0 (Box1 w w' (.cells #[.int .i64 s.st,.int .i64 s.ver,.slice p.A1 s.l.length p.c1,.slice p.Am s.ms.length p.cm,.slice p.Ar s.rs.length p.cr,.slice p.Ae s.echo.length p.ce,.slice p.Ac s.cs.length p.cc] 32)))
 case atStart => exact ⟨0,rfl,Nat.zero_add _,⟨fun p hp => by cases hp⟩,D⟩
 case round =>
  clear D
  obtain ⟨i,rfl,hi,HF,D⟩ := hrel
  obtain ⟨b0_,b1_,b2_,b3_,b4_,b5_,b6_⟩ := cells_7 D.out.h1
  by_cases h : i < s.cs.length
  ·have e0 : decide ((i : Int) < s.cs.length) = true := d_T (by omega)
   obtain ⟨ad,hA,hx0,hx1⟩ := at129 HS.out.rc D.out.below i h
   rw [hA] at b6_
   have q0 : (0 ≤ (i : Int)) = True := eq_true (by omega)
   have q1 : ((i : Int) < s.cs.length) = True := eq_true (by omega)
   have HT : Aside0 ((rd_T129 s.cs (i : Int)).f1.size ≤ 1200 → ∀ p ∈ s.cs.take (i + 1),p.f1.size ≤ 1200) := ⟨fun a p hp => by
    rcases take_mem129 h hp with hp | rfl
    ·exact HF.out p hp
    ·exact a⟩
   have HA := aS hA
   clear hA
   generalize rd_T129 s.cs (i : Int) = x at *
   rcases (Decidable.em (1200 < x.f1.size)) with u | u
   ·have b0 : decide (1200 < (x.f1.size : Int)) = true := d_T (by omega)
    have b1 : decide (1200 < x.f1.size) = true := d_T u
    clear u
    go_wp2
    go_ret
    exact ⟨⟨_,rfl,fun h => absurd h (by decide)⟩,D.out.below⟩
   have f1 : decide (1200 < (x.f1.size : Int)) = false := d_F (by omega)
   have f1' : decide (1200 < x.f1.size) = false := d_F u
   have F12 : Aside0 (x.f1.size ≤ 1200) := ⟨by omega⟩
   clear u
   have HN := aS (HT.out F12.out)
   go_wp2
   obtain ⟨g,rfl⟩ : ∃ g,gk = g + 1 := ⟨gk - 1,by omega⟩
   go_roundg g
   case rel => exact ⟨i + 1,rfl,by omega,HN,D⟩
   case measure => omega
  ·have e0 : decide ((i : Int) < s.cs.length) = false := d_F (by omega)
   have HR : Aside0 (sideSz s) := ⟨⟨F12.out,F22.out,F32.out,fun p hp => HF.out p (by rw [List.take_of_length_le (by omega)];exact hp)⟩⟩
   go_wp2
   go_ret
   exact ⟨⟨_,rfl,fun _ => HR.out⟩,D.out.below⟩
set_option maxHeartbeats 2000000 in
theorem groatref21_Great.at (s : Sd) (p : Ad) (w : World) (h1 : SdAt0 w s p) :
  Calls prog 28 #[.agg #[.slice p.Am s.ms.length p.cm,.slice p.Ar s.rs.length p.cr]] w fun e w' => ChkG (mpSz s) e ∧ Below w.heap.size w w' := by
 have hu28 := underlying28
 have hu66 := underlying66
 have hu94 := underlying94
 have nm := h1.nm
 have nr := h1.nr
 have HRP := aS h1.rm
 have HS := aS h1
 clear h1
 have D := aS (Box1.start w (.cells #[.slice p.Am s.ms.length p.cm,.slice p.Ar s.rs.length p.cr] 28))
 rcases (Decidable.em (300 < s.ms.length)) with u | u
 ·have b0 : decide (300 < (s.ms.length : Int)) = true := d_T (by omega)
  have b1 : decide (300 < s.ms.length) = true := d_T u
  clear u
  go_enter func28,ntmps28
  go_wp2
  go_ret
  exact ⟨⟨_,rfl,fun h => absurd h (by decide)⟩,D.out.below⟩
 have f1 : decide (300 < (s.ms.length : Int)) = false := d_F (by omega)
 have f1' : decide (300 < s.ms.length) = false := d_F u
 have F12 : Aside0 (s.ms.length ≤ 300) := ⟨by omega⟩
 clear u
 rcases (Decidable.em (300 < s.rs.length)) with u | u
 ·have b0 : decide (300 < (s.rs.length : Int)) = true := d_T (by omega)
  have b1 : decide (300 < s.rs.length) = true := d_T u
  clear u
  go_enter func28,ntmps28
  go_wp2
  go_ret
  exact ⟨⟨_,rfl,fun h => absurd h (by decide)⟩,D.out.below⟩
 have f2 : decide (300 < (s.rs.length : Int)) = false := d_F (by omega)
 have f2' : decide (300 < s.rs.length) = false := d_F u
 have F22 : Aside0 (s.rs.length ≤ 300) := ⟨by omega⟩
 clear u
 go_enter func28,ntmps28
 go_wp2
 clear f1 f1' f2 f2'
 go_loopg [3] s.ms.length (fun g v3 w' => ∃ i : Nat,v3 = .int .i64 i ∧ i + g = s.ms.length ∧ Aside0 (∀ p ∈ s.ms.take i,p.f0.size ≤ 100 ∧ p.f1.size ≤ 100) ∧ Aside0 (Box1 w w' (.cells #[.slice p.Am s.ms.length p.cm,.slice p.Ar s.rs.length p.cr] 28)))
 case atStart => exact ⟨0,rfl,Nat.zero_add _,⟨fun p hp => by cases hp⟩,D⟩
 case round =>
  clear D
  obtain ⟨i,rfl,hi,HF,D⟩ := hrel
  obtain ⟨b0_,b1_⟩ := cells_2 D.out.h1
  by_cases h : i < s.ms.length
  ·have e0 : decide ((i : Int) < s.ms.length) = true := d_T (by omega)
   obtain ⟨ad,hA,hx0,hx1⟩ := at66 HRP.out D.out.below i h
   rw [hA] at b0_
   have HA := aS hA
   clear hA
   have q0 : (0 ≤ (i : Int)) = True := eq_true (by omega)
   have q1 : ((i : Int) < s.ms.length) = True := eq_true (by omega)
   have HT : Aside0 ((rd_T66 s.ms (i : Int)).f0.size ≤ 100 → (rd_T66 s.ms (i : Int)).f1.size ≤ 100 → ∀ p ∈ s.ms.take (i + 1),p.f0.size ≤ 100 ∧ p.f1.size ≤ 100) := ⟨fun a b p hp => by
    rcases take_mem66 h hp with hp | rfl
    ·exact HF.out p hp
    ·exact ⟨a,b⟩⟩
   generalize rd_T66 s.ms (i : Int) = x at *
   rcases (Decidable.em (100 < x.f0.size)) with u | u
   ·have b0 : decide (100 < (x.f0.size : Int)) = true := d_T (by omega)
    have b1 : decide (100 < x.f0.size) = true := d_T u
    clear u
    go_wp2
    go_ret
    exact ⟨⟨_,rfl,fun h => absurd h (by decide)⟩,D.out.below⟩
   have f0 : decide (100 < (x.f0.size : Int)) = false := d_F (by omega)
   have f0' : decide (100 < x.f0.size) = false := d_F u
   have F02 : Aside0 (x.f0.size ≤ 100) := ⟨by omega⟩
   clear u
   rcases (Decidable.em (100 < x.f1.size)) with u | u
   ·have b0 : decide (100 < (x.f1.size : Int)) = true := d_T (by omega)
    have b1 : decide (100 < x.f1.size) = true := d_T u
    clear u
    go_wp2
    go_ret
    exact ⟨⟨_,rfl,fun h => absurd h (by decide)⟩,D.out.below⟩
   have f1 : decide (100 < (x.f1.size : Int)) = false := d_F (by omega)
   have f1' : decide (100 < x.f1.size) = false := d_F u
   have F12 : Aside0 (x.f1.size ≤ 100) := ⟨by omega⟩
   clear u
   have HN := aS (HT.out F02.out F12.out)
   go_wp2
   obtain ⟨g,rfl⟩ : ∃ g,gk = g + 1 := ⟨gk - 1,by omega⟩
   go_roundg g
   case rel => exact ⟨i + 1,rfl,by omega,HN,D⟩
   case measure => omega
  ·have e0 : decide ((i : Int) < s.ms.length) = false := d_F (by omega)
   have HALL : Aside0 (∀ p ∈ s.ms,p.f0.size ≤ 100 ∧ p.f1.size ≤ 100) := ⟨fun p hp => HF.out p (by rw [List.take_of_length_le (by omega)];exact hp)⟩
   go_wp2
   clear HF b0_ b1_
   go_loopg [4] s.rs.length (fun g v4 w' => ∃ i : Nat,v4 = .int .i64 i ∧ i + g = s.rs.length ∧ Aside0 (∀ r ∈ s.rs.take i,ruleSz r) ∧ Aside0 (Box1 w w' (.cells #[.slice p.Am s.ms.length p.cm,.slice p.Ar s.rs.length p.cr] 28)))
   case atStart => exact ⟨0,rfl,Nat.zero_add _,⟨fun p hp => by cases hp⟩,D⟩
   case round =>
    clear D hi h e0
    obtain ⟨i,rfl,hi,HF,D⟩ := hrel
    obtain ⟨b0_,b1_⟩ := cells_2 D.out.h1
    by_cases h : i < s.rs.length
    ·have e0 : decide ((i : Int) < s.rs.length) = true := d_T (by omega)
     obtain ⟨ad,A4,c4,hA,hx0,hx1,hx2,hx3,hx4,hx5,hx6⟩ := at94 HS.out.rr D.out.below i h
     rw [hA] at b1_
     have q0 : (0 ≤ (i : Int)) = True := eq_true (by omega)
     have q1 : ((i : Int) < s.rs.length) = True := eq_true (by omega)
     have HT : Aside0 (ruleSz (rd_T94 s.rs (i : Int)) → ∀ p ∈ s.rs.take (i + 1),ruleSz p) := ⟨fun a p hp => by
      rcases take_mem94 h hp with hp | rfl
      ·exact HF.out p hp
      ·exact a⟩
     have X5 := aS hx5
     have X6 := aS hx6
     have HN4 := aS (HS.out.n4 _ (rd_mem94 h))
     have HA := aS hA
     clear hA hx5 hx6
     generalize rd_T94 s.rs (i : Int) = x at *
     go_wp2_with (first | (go_at_call 73;refine (groatref20_Great.at x A4 c4 _ HN4.out (c_B X6.out D.out.below) X5.out).mono ?_;rintro e w3 ⟨⟨bb,rfl,hbb⟩,hb1⟩;have HBB := aS hbb;have D_ := aS (D.out.step hb1);clear D hb1 hbb b0_ b1_ hx0 hx1 hx2 hx3 hx4;have D := D_;clear D_;obtain ⟨b0_,b1_⟩ := cells_2 D.out.h1))
     ·go_ret
      exact ⟨⟨_,rfl,fun h => absurd h (by decide)⟩,D.out.below⟩
     ·have hb0 : bb = false := by assumption
      have HN := aS (HT.out (HBB.out hb0))
      obtain ⟨g,rfl⟩ : ∃ g,gk = g + 1 := ⟨gk - 1,by omega⟩
      go_roundg g
      case rel => exact ⟨i + 1,rfl,by omega,HN,D⟩
      case measure => omega
    ·have e0 : decide ((i : Int) < s.rs.length) = false := d_F (by omega)
     have HR : Aside0 (mpSz s) := ⟨⟨F12.out,F22.out,HALL.out,fun p hp => HF.out p (by rw [List.take_of_length_le (by omega)];exact hp)⟩⟩
     go_wp2
     go_ret
     exact ⟨⟨_,rfl,fun _ => HR.out⟩,D.out.below⟩
def cfgSz (s t : Sd) : Prop := (sideSz s ∧ sideSz t) ∧ (mpSz s ∧ mpSz t)
set_option maxHeartbeats 2000000 in
theorem groatref24_Great.at (s t : Sd) (p q : Ad) (most : Int) (w : World) (h1 : SdAt0 w s p) (h2 : SdAt0 w t q) :
  Calls prog 7 #[.agg #[.int .i64 s.st,.int .i64 s.ver,.slice p.A1 s.l.length p.c1,.slice p.Am s.ms.length p.cm,.slice p.Ar s.rs.length p.cr,.slice p.Ae s.echo.length p.ce,.slice p.Ac s.cs.length p.cc,.int .i64 t.st,.int .i64 t.ver,.slice q.A1 t.l.length q.c1,.slice q.Am t.ms.length q.cm,.slice q.Ar t.rs.length q.cr,.slice q.Ae t.echo.length q.ce,.slice q.Ac t.cs.length q.cc,.int .i64 most]] w fun e w' => ChkG (cfgSz s t) e ∧ Below w.heap.size w w' := by
 have hu35 := underlying35
 have hu33 := underlying33
 have hu32 := underlying32
 have hu28 := underlying28
 have HS := aS h1
 have HT := aS h2
 clear h1 h2
 have D := aS (Box1.start w (.cells #[.int .i64 s.st,.int .i64 s.ver,.slice p.A1 s.l.length p.c1,.slice p.Am s.ms.length p.cm,.slice p.Ar s.rs.length p.cr,.slice p.Ae s.echo.length p.ce,.slice p.Ac s.cs.length p.cc,.int .i64 t.st,.int .i64 t.ver,.slice q.A1 t.l.length q.c1,.slice q.Am t.ms.length q.cm,.slice q.Ar t.rs.length q.cr,.slice q.Ae t.echo.length q.ce,.slice q.Ac t.cs.length q.cc,.int .i64 most] 35))
 obtain ⟨c0_,c1_,c2_,c3_,c4_,c5_,c6_,c7_,c8_,c9_,c10_,c11_,c12_,c13_,c14_⟩ := cells_15 D.out.h1
 go_enter func7,ntmps7
 go_wp2_with (first | (go_at_call 27;(with_reducible refine (groatref23_Great.at s p _ (HS.out.step D.out.below)).mono ?_);rintro e w3 ⟨⟨vs27,rfl,hbb⟩,hb1⟩;have Gs27 := aS hbb;have D_ := aS (D.out.step hb1);clear c0_ c1_ c2_ c3_ c4_ c5_ c6_ c7_ c8_ c9_ c10_ c11_ c12_ c13_ c14_;clear D hb1 hbb;have D := D_;clear D_;obtain ⟨c0_,c1_,c2_,c3_,c4_,c5_,c6_,c7_,c8_,c9_,c10_,c11_,c12_,c13_,c14_⟩ := cells_15 D.out.h1) | (go_at_call 27;(with_reducible refine (groatref23_Great.at t q _ (HT.out.step D.out.below)).mono ?_);rintro e w3 ⟨⟨vt27,rfl,hbb⟩,hb1⟩;have Gt27 := aS hbb;have D_ := aS (D.out.step hb1);clear c0_ c1_ c2_ c3_ c4_ c5_ c6_ c7_ c8_ c9_ c10_ c11_ c12_ c13_ c14_;clear D hb1 hbb;have D := D_;clear D_;obtain ⟨c0_,c1_,c2_,c3_,c4_,c5_,c6_,c7_,c8_,c9_,c10_,c11_,c12_,c13_,c14_⟩ := cells_15 D.out.h1) | (go_at_call 28;(with_reducible refine (groatref21_Great.at s p _ (HS.out.step D.out.below)).mono ?_);rintro e w3 ⟨⟨vs28,rfl,hbb⟩,hb1⟩;have Gs28 := aS hbb;have D_ := aS (D.out.step hb1);clear c0_ c1_ c2_ c3_ c4_ c5_ c6_ c7_ c8_ c9_ c10_ c11_ c12_ c13_ c14_;clear D hb1 hbb;have D := D_;clear D_;obtain ⟨c0_,c1_,c2_,c3_,c4_,c5_,c6_,c7_,c8_,c9_,c10_,c11_,c12_,c13_,c14_⟩ := cells_15 D.out.h1) | (go_at_call 28;(with_reducible refine (groatref21_Great.at t q _ (HT.out.step D.out.below)).mono ?_);rintro e w3 ⟨⟨vt28,rfl,hbb⟩,hb1⟩;have Gt28 := aS hbb;have D_ := aS (D.out.step hb1);clear c0_ c1_ c2_ c3_ c4_ c5_ c6_ c7_ c8_ c9_ c10_ c11_ c12_ c13_ c14_;clear D hb1 hbb;have D := D_;clear D_;obtain ⟨c0_,c1_,c2_,c3_,c4_,c5_,c6_,c7_,c8_,c9_,c10_,c11_,c12_,c13_,c14_⟩ := cells_15 D.out.h1))
 all_goals go_ret
 all_goals first | exact ⟨⟨_,rfl,fun h => absurd h (by decide)⟩,D.out.below⟩ | exact ⟨⟨_,rfl,fun h => ⟨⟨Gs27.out (by cases vs27 with | false => rfl | true => exact absurd rfl (by assumption)),Gt27.out (by cases vt27 with | false => rfl | true => exact absurd rfl (by assumption))⟩,⟨Gs28.out (by cases vs28 with | false => rfl | true => exact absurd rfl (by assumption)),Gt28.out h⟩⟩⟩,D.out.below⟩
theorem SdAt_of {w : World} {s : Sd} {p : Ad} (h : SdAt0 w s p) (h1 : sideSz s) (h2 : mpSz s) : SdAt w s p :=
 ⟨h.r1,h.h1,by have := h1.1;omega,h.rm,h.hm,by have := h2.1;omega,h.rr,h.hr,by have := h2.2.1;omega,h.re,h.he,by have := h1.2.1;omega,h.rc,h.hc,by have := h1.2.2.1;omega,fun r hr => by have := (h2.2.2.2 r hr).2.1;omega⟩
theorem R_F {α : Type} {d : Kd α} {e : Nat} {w : World} {base : Nat} {v : Value} {xs : List α} {ok : Nat → Prop} (h : Kd.R d e w base (fun _ => True) v xs) (hok : ∀ k,base ≤ k → ok k) : ∃ A c,v = .slice A xs.length c ∧ xs.length ≤ c ∧ Kd.F d w ok A xs.length xs := by
 obtain ⟨A,c,rfl⟩ := Kd.R_slice h
 exact ⟨A,c,rfl,(Kd.R_reads' h).2.1,Kd.F_mono (Kd.N_F (Kd.R_N (Kd.R_bound h))) (fun k hk => hok k hk.2.1)⟩
theorem lit_F {α : Type} {d : Kd α} {W : World} {ok : Nat → Prop} {g e : Nat} {xs : List α} {inner : List Value} (hb : W.heap[g]? = some (.cells inner.toArray e (0,0))) (hg : ok g) (hn : xs.length ≤ 9223372036854775807) (hr : Reps (fun x c => Kd.FK d W ok x c) d.sz xs inner) : Kd.F d W ok (some ⟨g,0,none⟩) xs.length xs := by
 intro W' hW
 have hlt := blk_lt hb
 refine ⟨rfl,hn,fun _ => ⟨_,rfl,fun j p hj => ⟨(inner.drop (j * d.sz)).take d.sz,d.K_len (hr.2 j p hj W' hW),hr.2 j p hj W' hW,fun i u hu => ?_⟩⟩⟩
 rw [List.getElem?_take] at hu
 split at hu
 ·rw [List.getElem?_drop] at hu
  rw [add_plain,← hu]
  have := blk_cell ((hW g hg hlt).trans hb) (j * d.sz + i)
  simpa using this
 ·cases hu
theorem reps_map {α : Type} (R : α → List Value → Prop) (f : α → Value) (h : ∀ x,R x [f x]) (xs : List α) : Reps R 1 xs (xs.map f) := by
 refine ⟨by simp,fun j p hj => ?_⟩
 have h2 : ((xs.map f).drop (j * 1)).take 1 = [f p] := by
  obtain ⟨hl,e⟩ := List.getElem?_eq_some_iff.1 hj
  rw [Nat.mul_one,List.drop_eq_getElem_cons (by simpa using hl)]
  simp [e]
 rw [h2]
 exact h p
theorem str_F {W : World} {ok : Nat → Prop} {g e : Nat} {xs : List ByteArray} {cs : Array Value} (hb : W.heap[g]? = some (.cells cs e (0,0))) (hc : cs = (xs.map .string).toArray) (hg : ok g) (hn : xs.length ≤ 9223372036854775807) : Kd.F Kd.string W ok (some ⟨g,0,none⟩) xs.length xs := by
 subst hc
 exact lit_F hb hg hn (reps_map _ _ (fun x _ _ => rfl) xs)
theorem int_F {W : World} {ok : Nat → Prop} {g e : Nat} {xs : List Int} {cs : Array Value} (hb : W.heap[g]? = some (.cells cs e (0,0))) (hc : cs = (xs.map (.int .i64)).toArray) (hg : ok g) (hn : xs.length ≤ 9223372036854775807) : Kd.F (Kd.int .i64) W ok (some ⟨g,0,none⟩) xs.length xs := by
 subst hc
 exact lit_F hb hg hn (reps_map _ _ (fun x _ _ => rfl) xs)
theorem Foot.and {P Q : World → Prop} {W : World} {ok : Nat → Prop} (h : Foot P W ok) (h2 : Foot Q W ok) : Foot (fun W => P W ∧ Q W) W ok := fun W' hW => ⟨h W' hW,h2 W' hW⟩
theorem Foot.below {P : World → Prop} {W W1 : World} {ok : Nat → Prop} (h : Foot P W ok) (hb : Below W.heap.size W W1) : Foot P W1 ok := Foot.step h (fun k _ hk => hb.block k hk)
theorem pairs_at (k : Nat) (l : List ByteArray) (r : List S66) (n m : Nat) (hn : l.length = n) (hm : r.length = m) (h : groatref24_pairs.f k l = some r) (A : Option Addr) (c : Nat) (W : World) (hr : Kd.C Kd.string W A n l) (hc : n ≤ c) :
  Calls prog 70 #[.slice A n c] W fun e w' => ∃ A' c',e = .returned (.slice A' m c') ∧ m ≤ c' ∧ (∀ ok : Nat → Prop,(∀ k,W.heap.size ≤ k → ok k) → Kd.F k66 w' ok A' m r) ∧ Below W.heap.size W w' := by
 subst hn hm
 refine (groatref24_pairs.calls k A c l r W hr hc h).mono ?_
 rintro e w' ⟨v,rfl,ho,hb⟩
 obtain ⟨A',c',rfl,hc',_⟩ := R_F (ok := fun _ => True) ho (fun _ _ => trivial)
 refine ⟨A',c',rfl,hc',fun ok hok => ?_,hb⟩
 obtain ⟨A2,c2,e2,_,hF⟩ := R_F ho hok
 cases e2
 exact hF
theorem turn_at (k : Nat) (l r : List S66) (n m : Nat) (hn : l.length = n) (hm : r.length = m) (h : groatref19_Turn.f k l = some r) (A : Option Addr) (c : Nat) (W : World) (hr : Kd.C k66 W A n l) (hc : n ≤ c) :
  Calls prog 71 #[.slice A n c] W fun e w' => ∃ A' c',e = .returned (.slice A' m c') ∧ m ≤ c' ∧ (∀ ok : Nat → Prop,(∀ k,W.heap.size ≤ k → ok k) → Kd.F k66 w' ok A' m r) ∧ Below W.heap.size W w' := by
 subst hn hm
 refine (groatref19_Turn.calls k A c l r W hr hc h).mono ?_
 rintro e w' ⟨v,rfl,ho,hb⟩
 obtain ⟨A',c',rfl,hc',_⟩ := R_F (ok := fun _ => True) ho (fun _ _ => trivial)
 refine ⟨A',c',rfl,hc',fun ok hok => ?_,hb⟩
 obtain ⟨A2,c2,e2,_,hF⟩ := R_F ho hok
 cases e2
 exact hF
theorem codes_at (a b c : ByteArray) (W : World) :
  Calls prog 72 #[.string a,.string b,.string c] W fun e w' => ∃ A' c',e = .returned (.slice A' 6 c') ∧ 6 ≤ c' ∧ (∀ ok : Nat → Prop,(∀ k,W.heap.size ≤ k → ok k) → Kd.F k129 w' ok A' 6 [⟨0,a⟩,⟨2,b⟩,⟨3,b⟩,⟨12,b⟩,⟨9,b⟩,⟨15,c⟩]) ∧ Below W.heap.size W w' := by
 refine (groatref24_codes.calls a b c _ W rfl).mono ?_
 rintro e w' ⟨v,rfl,ho,hb⟩
 obtain ⟨A',c',rfl,hc',_⟩ := R_F (ok := fun _ => True) ho (fun _ _ => trivial)
 refine ⟨A',c',rfl,hc',fun ok hok => ?_,hb⟩
 obtain ⟨A2,c2,e2,_,hF⟩ := R_F ho hok
 cases e2
 exact hF
theorem schema_at (k : Nat) (a st ver : Int) (r : List S87) (m : Nat) (hm : r.length = m) (h : groatref14_Schema.f k a = some (st,ver,r)) (W : World) :
  Calls prog 25 #[.int .i64 a] W fun e w' => ∃ A' c',e = .returned (.agg #[.int .i64 st,.int .i64 ver,.slice A' m c']) ∧ m ≤ c' ∧ (∀ ok : Nat → Prop,(∀ k,W.heap.size ≤ k → ok k) → Kd.F k87 w' ok A' m r) ∧ Below W.heap.size W w' := by
 subst hm
 refine (groatref14_Schema.calls k a st ver r W h).mono ?_
 rintro e w' ⟨v,rfl,ho,hb⟩
 obtain ⟨A',c',rfl,hc',_⟩ := R_F (ok := fun _ => True) ho (fun _ _ => trivial)
 refine ⟨A',c',rfl,hc',fun ok hok => ?_,hb⟩
 obtain ⟨A2,c2,e2,_,hF⟩ := R_F ho hok
 cases e2
 exact hF
theorem kept_at (k : Nat) (r : List S94) (m : Nat) (hm : r.length = m) (h : groatref24_kept.f k = some r) (W : World) :
  Calls prog 62 #[] W fun e w' => ∃ A' c',e = .returned (.slice A' m c') ∧ Kd.N k94 94 w' W.heap.size (fun k => W.heap.size ≤ k) (.slice A' m c') r ∧ Below W.heap.size W w' := by
 subst hm
 refine (groatref24_kept.calls k r W h).mono ?_
 rintro e w' ⟨v,rfl,ho,hb⟩
 have hN := Kd.R_N (Kd.R_bound (Kd.S_R ho))
 obtain ⟨A',c',rfl⟩ := Kd.N_slice hN
 exact ⟨A',c',rfl,Kd.N_mono hN (fun k hk => hk.2.1),hb⟩
def typesL : List ByteArray := [⟨#[48,49,48,48]⟩,⟨#[49,49,48,48]⟩,⟨#[48,49,49,48]⟩,⟨#[49,49,49,48]⟩,⟨#[48,50,48,48]⟩,⟨#[49,50,48,48]⟩,⟨#[48,50,49,48]⟩,⟨#[49,50,49,48]⟩,⟨#[48,50,50,48]⟩,⟨#[49,50,50,48]⟩,⟨#[48,50,51,48]⟩,⟨#[49,50,51,48]⟩,⟨#[48,52,48,48]⟩,⟨#[49,52,48,48]⟩,⟨#[48,52,49,48]⟩,⟨#[49,52,49,48]⟩,⟨#[48,52,50,48]⟩,⟨#[49,52,50,48]⟩,⟨#[48,52,51,48]⟩,⟨#[49,52,51,48]⟩,⟨#[48,56,48,48]⟩,⟨#[49,56,48,52]⟩,⟨#[48,56,49,48]⟩,⟨#[49,56,49,52]⟩]
def entryL : List ByteArray := [⟨#[48,53,49]⟩,⟨#[53,49,48,49,48,49,53,49,49,51,52,52]⟩,⟨#[48,50,49]⟩,⟨#[50,49,48,49,48,49,50,49,49,51,52,52]⟩,⟨#[48,49,50]⟩,⟨#[49,48,48,49,52,48,49,48,48,49,49,48]⟩]
def actL : List ByteArray := [⟨#[48,48]⟩,⟨#[48,48,48]⟩,⟨#[48,53]⟩,⟨#[49,48,48]⟩,⟨#[49,52]⟩,⟨#[49,49,49]⟩,⟨#[53,49]⟩,⟨#[49,49,54]⟩,⟨#[53,52]⟩,⟨#[49,48,49]⟩,⟨#[57,49]⟩,⟨#[57,48,55]⟩,⟨#[57,54]⟩,⟨#[57,48,57]⟩]
def echoL : List Int := [2,3,4,7,11,12,32,37,41,42,70]
def typesP : List S66 := (groatref24_pairs.f 20 typesL).getD []
def entryP : List S66 := (groatref24_pairs.f 20 entryL).getD []
def actP : List S66 := (groatref24_pairs.f 20 actL).getD []
def typesQ : List S66 := (groatref19_Turn.f 20 typesP).getD []
def entryQ : List S66 := (groatref19_Turn.f 20 entryP).getD []
def actQ : List S66 := (groatref19_Turn.f 20 actP).getD []
def keptP : List S94 := (groatref24_kept.f 30).getD []
def schA : List S87 := ((groatref14_Schema.f 40 0).getD (0,0,[])).2.2
def schB : List S87 := ((groatref14_Schema.f 40 1).getD (0,0,[])).2.2
def there8 : List S94 := [⟨2,13,0,⟨#[]⟩,[]⟩,⟨2,18,0,⟨#[]⟩,[]⟩,⟨2,90,0,⟨#[]⟩,[]⟩,⟨5,22,22,⟨#[]⟩,entryP⟩,⟨5,39,39,⟨#[]⟩,actP⟩,⟨1,43,43,⟨#[]⟩,[]⟩,⟨1,48,48,⟨#[]⟩,[]⟩,⟨3,0,26,⟨#[53,57,57,57]⟩,[]⟩]
def back5 : List S94 := [⟨2,26,0,⟨#[]⟩,[]⟩,⟨2,43,0,⟨#[]⟩,[]⟩,⟨5,22,22,⟨#[]⟩,entryQ⟩,⟨5,39,39,⟨#[]⟩,actQ⟩,⟨1,48,48,⟨#[]⟩,[]⟩]
def codesP (a b c : ByteArray) : List S129 := [⟨0,a⟩,⟨2,b⟩,⟨3,b⟩,⟨12,b⟩,⟨9,b⟩,⟨15,c⟩]
def bs0 : Sd := ⟨1,0,schA,typesP,keptP ++ there8,echoL,codesP ⟨#[57,54]⟩ ⟨#[51,48]⟩ ⟨#[49,50]⟩⟩
def bs1 : Sd := ⟨2,1,schB,typesQ,keptP ++ back5,echoL,codesP ⟨#[57,48,57]⟩ ⟨#[57,48,52]⟩ ⟨#[57,48,50]⟩⟩
theorem types_eq : groatref24_pairs.f 20 typesL = some typesP := by kernel_rfl
theorem entry_eq : groatref24_pairs.f 20 entryL = some entryP := by kernel_rfl
theorem act_eq : groatref24_pairs.f 20 actL = some actP := by kernel_rfl
theorem typesQ_eq : groatref19_Turn.f 20 typesP = some typesQ := by kernel_rfl
theorem entryQ_eq : groatref19_Turn.f 20 entryP = some entryQ := by kernel_rfl
theorem actQ_eq : groatref19_Turn.f 20 actP = some actQ := by kernel_rfl
theorem kept_eq : groatref24_kept.f 30 = some keptP := by kernel_rfl
theorem schA_eq : groatref14_Schema.f 40 0 = some (1,0,schA) := by kernel_rfl
theorem schB_eq : groatref14_Schema.f 40 1 = some (2,1,schB) := by kernel_rfl
theorem lens : (typesP.length = 12 ∧ entryP.length = 3 ∧ actP.length = 7) ∧ (typesQ.length = 12 ∧ entryQ.length = 3 ∧ actQ.length = 7) ∧ keptP.length = 21 ∧ schA.length = 28 ∧ schB.length = 26 := by decide +kernel
set_option maxHeartbeats 1000000 in
theorem IndexI_no (A : Option Addr) (c : Nat) (xs : List Int) (t : Int) (w : World) (hl : xs.length ≤ 4611686018427387904) (hr : Kd.C (Kd.int .i64) w A xs.length xs) (hn : t ∉ xs) :
  Calls prog 185 #[.slice A xs.length c,.int .i64 t] w fun e w' => e = .returned (.int .i64 (-1)) ∧ w' = w := by
 have HR := aS hr
 have HN := aS hn
 clear hr hn
 go_enter func185,ntmps185
 go_wp2
 go_loopg [8] xs.length (fun g v8 w' => ∃ i : Nat,v8 = .int .i64 i ∧ i + g = xs.length ∧ w' = w)
 case atStart => exact ⟨0,rfl,Nat.zero_add _,rfl⟩
 case round =>
  obtain ⟨i,rfl,hi,rfl⟩ := hrel
  by_cases h : i < xs.length
  ·have e0 : decide ((i : Int) < xs.length) = true := d_T (by omega)
   obtain ⟨ad,rfl,hx0⟩ := at3 HR.out (Below.refl _ _) i h
   have q0 : (0 ≤ (i : Int)) = True := eq_true (by omega)
   have q1 : ((i : Int) < xs.length) = True := eq_true (by omega)
   have hm : rd xs (i : Int) ∈ xs := by simp [rd,List.getD_eq_getElem?_getD,List.getElem?_eq_getElem h]
   have e1 : (t == rd xs (i : Int)) = false := beq_eq_false_iff_ne.mpr (fun e => HN.out (by rw [e];exact hm))
   clear hm
   generalize rd xs (i : Int) = x at *
   go_wp2
   obtain ⟨g,rfl⟩ : ∃ g,gk = g + 1 := ⟨gk - 1,by omega⟩
   go_roundg g
   case rel => exact ⟨i + 1,rfl,by omega,rfl⟩
   case measure => omega
  ·have e0 : decide ((i : Int) < xs.length) = false := d_F (by omega)
   go_wp2
   go_ret
   exact ⟨rfl,rfl⟩
theorem ContainsI_no (A : Option Addr) (c : Nat) (xs : List Int) (t : Int) (w : World) (hl : xs.length ≤ 4611686018427387904) (hr : Kd.C (Kd.int .i64) w A xs.length xs) (hn : t ∉ xs) :
  Calls prog 163 #[.slice A xs.length c,.int .i64 t] w fun e w' => e = .returned (.bool false) ∧ w' = w := by
 have HR := aS hr
 have HN := aS hn
 clear hr hn
 go_enter func163,ntmps163
 go_wp2_with (first | (go_at_call 185;refine (IndexI_no A c xs t _ hl HR.out HN.out).mono ?_;rintro e w1 ⟨rfl,rfl⟩))
 go_ret
 exact ⟨rfl,rfl⟩
theorem reject_code1.at (x : S129) (B : Nat) (no : Int) (w : World) (h : w.cell? ⟨B,0,none⟩ = some (.int .i64 no)) (hne : x.f0 ≠ no) :
  Calls prog 165 #[.agg #[.int .i64 x.f0,.string x.f1],.pointer (some ⟨B,0,none⟩)] w fun e w' => e = .returned (.bool false) ∧ Below w.heap.size w w' := by
 have hu129 := underlying129
 have h2 : ∀ o,(w.alloc o).cell? ⟨B,0,none⟩ = some (.int .i64 no) := fun o => (below_cells (b_l (Below.refl _ _) o) _ (by rw [h];rfl)).trans h
 have e0 : (x.f0 == no) = false := beq_eq_false_iff_ne.mpr hne
 clear hne
 go_enter func165,ntmps165
 go_wp2
 go_ret
 exact ⟨rfl,b_l (Below.refl _ _) _⟩
set_option maxHeartbeats 1000000 in
theorem IndexFunc129_no (A : Option Addr) (c : Nat) (xs : List S129) (no : Int) (B : Nat) (w : World) (hl : xs.length ≤ 4611686018427387904) (hr : Kd.C k129 w A xs.length xs) (h : w.cell? ⟨B,0,none⟩ = some (.int .i64 no)) (hn : ∀ p ∈ xs,p.f0 ≠ no) :
  Calls prog 186 #[.slice A xs.length c,.func (.func 165) #[] #[.pointer (some ⟨B,0,none⟩)]] w fun e w' => e = .returned (.int .i64 (-1)) ∧ Below w.heap.size w w' := by
 have hu129 := underlying129
 have HR := aS hr
 have HB := aS h
 have HN := aS hn
 clear hr h hn
 go_enter func186,ntmps186
 go_wp2
 go_loopg [8] xs.length (fun g v8 w' => ∃ i : Nat,v8 = .int .i64 i ∧ i + g = xs.length ∧ Aside0 (Below w.heap.size w w'))
 case atStart => exact ⟨0,rfl,Nat.zero_add _,⟨Below.refl _ _⟩⟩
 case round =>
  obtain ⟨i,rfl,hi,H⟩ := hrel
  by_cases h : i < xs.length
  ·have e0 : decide ((i : Int) < xs.length) = true := d_T (by omega)
   obtain ⟨ad,rfl,hx0,hx1⟩ := at129 HR.out H.out i h
   have q0 : (0 ≤ (i : Int)) = True := eq_true (by omega)
   have q1 : ((i : Int) < xs.length) = True := eq_true (by omega)
   have HE := aS (HN.out _ (rd_mem129 h))
   generalize rd_T129 xs (i : Int) = x at *
   have hcl : Aside0 (wr.cell? ⟨B,0,none⟩ = some (.int .i64 no)) := ⟨(below_cells H.out _ (by rw [HB.out];rfl)).trans HB.out⟩
   go_wp2_with (first | (go_at_call 165;refine (reject_code1.at x B no _ hcl.out HE.out).mono ?_;rintro e w1 ⟨rfl,hb1⟩;have H_ := aS (b_s H.out hb1);clear H hb1;have H := H_;clear H_))
   obtain ⟨g,rfl⟩ : ∃ g,gk = g + 1 := ⟨gk - 1,by omega⟩
   go_roundg g
   case rel => exact ⟨i + 1,rfl,by omega,H⟩
   case measure => omega
  ·have e0 : decide ((i : Int) < xs.length) = false := d_F (by omega)
   go_wp2
   go_ret
   exact ⟨rfl,H.out⟩
theorem ContainsFunc129_no (A : Option Addr) (c : Nat) (xs : List S129) (no : Int) (B : Nat) (w : World) (hl : xs.length ≤ 4611686018427387904) (hr : Kd.C k129 w A xs.length xs) (h : w.cell? ⟨B,0,none⟩ = some (.int .i64 no)) (hn : ∀ p ∈ xs,p.f0 ≠ no) :
  Calls prog 164 #[.slice A xs.length c,.func (.func 165) #[] #[.pointer (some ⟨B,0,none⟩)]] w fun e w' => e = .returned (.bool false) ∧ Below w.heap.size w w' := by
 have HR := aS hr
 have HB := aS h
 have HN := aS hn
 clear hr h hn
 go_enter func164,ntmps164
 go_wp2_with (first | (go_at_call 186;refine (IndexFunc129_no A c xs no B _ hl HR.out HB.out HN.out).mono ?_;rintro e w1 ⟨rfl,hb1⟩))
 go_ret
 exact ⟨rfl,hb1⟩
set_option maxHeartbeats 2000000 in
theorem reject_echo.at (s : Sd) (p : Ad) (i : Nat) (w : World) (h1 : SdAt w s p) (h : i < s.echo.length) (hf : (findS (rd s.echo (i : Int)) s.l).2 = true) (h39 : rd s.echo (i : Int) ≠ 39) (hni : rd s.echo (i : Int) ∉ s.echo.take i) :
  Calls prog 131 #[.agg #[.int .i64 s.st,.int .i64 s.ver,.slice p.A1 s.l.length p.c1,.slice p.Am s.ms.length p.cm,.slice p.Ar s.rs.length p.cr,.slice p.Ae s.echo.length p.ce,.slice p.Ac s.cs.length p.cc],.int .i64 i] w fun e w' => e = .returned (.int .i64 0) ∧ Below w.heap.size w w' := by
 have hu32 := underlying32
 have hu24 := underlying24
 have hu87 := underlying87
 rcases p with ⟨A1,c1,Am,cm,Ar,cr,Ae,ce,Ac,cc⟩
 have ne := h1.ne
 have hre : Kd.C (Kd.int .i64) w Ae s.echo.length s.echo := h1.re
 have hhe : s.echo.length ≤ ce := h1.he
 obtain ⟨i3,hi3,_⟩ := info_parts info3
 have hcut := cut_to (P := prog) 29 3 .i64 underlying29 hi3 Ae s.echo.length ce (i : Int) (by omega) (by omega) hhe
 simp only [Int.toNat_natCast] at hcut
 obtain ⟨ade,rfl,hy⟩ := at3 hre (Below.refl _ _) i h
 have HS := aS h1
 have HRE := aS hre
 have q0 : (0 ≤ (i : Int)) = True := eq_true (by omega)
 have q1 : ((i : Int) < s.echo.length) = True := eq_true (by omega)
 have HI := aS h
 have HY : Aside0 (∀ W,Below w.heap.size w W → W.cell? (ade.add i) = some (.int .i64 (rd s.echo (i : Int)))) := ⟨fun W hb => (hb.cell (World.block_lt_of_cell? w _ hy)).trans hy⟩
 have HNI := aS hni
 have HF := aS hf
 have e39 : (rd s.echo (i : Int) == 39) = false := beq_eq_false_iff_ne.mpr h39
 clear h1 hy hni hf h39 hi3 hre hhe
 simp only at *
 generalize rd s.echo (i : Int) = y at *
 have D := aS (Box1.start w (.cells #[.int .i64 s.st,.int .i64 s.ver,.slice A1 s.l.length c1,.slice Am s.ms.length cm,.slice Ar s.rs.length cr,.slice (some ade) s.echo.length ce,.slice Ac s.cs.length cc] 32))
 obtain ⟨b0_,b1_,b2_,b3_,b4_,b5_,b6_⟩ := cells_7 D.out.h1
 have y0 := HY.out _ D.out.below
 have HC163 : Aside0 (∀ W,Below w.heap.size w W → Calls prog 163 #[.slice (some ade) i ce,.int .i64 y] W fun e w' => e = .returned (.bool false) ∧ w' = W) := ⟨fun W hb => by
  have hl : (s.echo.take i).length = i := by rw [List.length_take];have := HI.out;omega
  have h5 := ContainsI_no (some ade) ce (s.echo.take i) y W (by omega) (c_B (Kd.C_take HRE.out (Nat.le_of_lt HI.out)) hb) HNI.out
  rw [hl] at h5
  exact h5⟩
 clear D b0_ b1_ b2_ b3_ b4_ b5_ b6_ y0
 go_enter func131,ntmps131
 have D := aS (Box1.start w (.cells #[.int .i64 s.st,.int .i64 s.ver,.slice A1 s.l.length c1,.slice Am s.ms.length cm,.slice Ar s.rs.length cr,.slice (some ade) s.echo.length ce,.slice Ac s.cs.length cc] 32))
 have y0 := HY.out _ D.out.below
 go_wp2_with (first | (go_at_call 36;refine (schema_Find.at s.st s.ver A1 c1 s.l y _ HS.out.n1 (c_B HS.out.r1 D.out.below) HS.out.h1).mono ?_;rintro e w2 ⟨rfl,hb1⟩;rw [HF.out];simp only [v87];have D_ := aS (D.out.step hb1);clear D hb1 y0;have D := D_;clear D_;obtain ⟨b0_,b1_,b2_,b3_,b4_,b5_,b6_⟩ := cells_7 D.out.h1;have y0 := HY.out _ D.out.below;have BA := fun o => cells_7a D.out.h1 o;have YA := fun o => HY.out _ (b_s D.out.below (b_l (Below.refl _ _) o))) | (go_at_call 163;refine (HC163.out _ (b_s D.out.below (bO _))).mono ?_;rintro e w3 ⟨rfl,rfl⟩))
 go_ret
 exact ⟨rfl,b_s D.out.below (bO _)⟩
set_option maxHeartbeats 2000000 in
theorem reject_code.at (s : Sd) (p : Ad) (x : S87) (i : Nat) (w : World) (h1 : SdAt w s p) (h : i < s.cs.length) (h0 : 0 ≤ (rd_T129 s.cs (i : Int)).f0 ∧ (rd_T129 s.cs (i : Int)).f0 ≤ 16) (hni : ∀ p ∈ s.cs.take i,p.f0 ≠ (rd_T129 s.cs (i : Int)).f0) (hv : specValue x (rd_T129 s.cs (i : Int)).f1 = 0) :
  Calls prog 132 #[.agg #[.int .i64 s.st,.int .i64 s.ver,.slice p.A1 s.l.length p.c1,.slice p.Am s.ms.length p.cm,.slice p.Ar s.rs.length p.cr,.slice p.Ae s.echo.length p.ce,.slice p.Ac s.cs.length p.cc],.int .i64 i,.agg #[.int .i64 x.f0,.int .i64 x.f1,.int .i64 x.f2,.int .i64 x.f3,.int .i64 x.f4]] w fun e w' => e = .returned (.int .i64 0) ∧ Below w.heap.size w w' := by
 have hu32 := underlying32
 have hu87 := underlying87
 have hu129 := underlying129
 rcases p with ⟨A1,c1,Am,cm,Ar,cr,Ae,ce,Ac,cc⟩
 have nc := h1.nc
 have hrc : Kd.C k129 w Ac s.cs.length s.cs := h1.rc
 have hhc : s.cs.length ≤ cc := h1.hc
 obtain ⟨i3,hi3,_⟩ := info_parts info129
 have hcut := cut_to (P := prog) 30 129 .i64 underlying30 hi3 Ac s.cs.length cc (i : Int) (by omega) (by omega) hhc
 simp only [Int.toNat_natCast] at hcut
 obtain ⟨adc,rfl,hy0,hy1⟩ := at129 hrc (Below.refl _ _) i h
 have HRC := aS hrc
 have q0 : (0 ≤ (i : Int)) = True := eq_true (by omega)
 have q1 : ((i : Int) < s.cs.length) = True := eq_true (by omega)
 have HI := aS h
 have HY : Aside0 (∀ W,Below w.heap.size w W → W.cell? (adc.add (i * 2)) = some (.int .i64 (rd_T129 s.cs (i : Int)).f0) ∧ W.cell? ⟨(adc.add (i * 2)).block,(adc.add (i * 2)).off + 1,none⟩ = some (.string (rd_T129 s.cs (i : Int)).f1)) := ⟨fun W hb => ⟨(hb.cell (World.block_lt_of_cell? w _ hy0)).trans hy0,(hb.cell (World.block_lt_of_cell? w _ hy1)).trans hy1⟩⟩
 have HNI := aS hni
 have HV := aS hv
 have d0 : decide ((rd_T129 s.cs (i : Int)).f0 < 0) = false := d_F (by omega)
 have d1 : decide (16 < (rd_T129 s.cs (i : Int)).f0) = false := d_F (by omega)
 have HSZ : Aside0 ((rd_T129 s.cs (i : Int)).f1.size ≤ 1000000) := ⟨by have := (specValue_facts hv).2.2.2;omega⟩
 clear h1 hy0 hy1 hni hv h0 hi3 hrc hhc
 simp only at *
 generalize rd_T129 s.cs (i : Int) = y at *
 have HC164 : Aside0 (∀ (B : Nat) (W : World),Below w.heap.size w W → W.cell? ⟨B,0,none⟩ = some (.int .i64 y.f0) → Calls prog 164 #[.slice (some adc) i cc,.func (.func 165) #[] #[.pointer (some ⟨B,0,none⟩)]] W fun e w' => e = .returned (.bool false) ∧ Below W.heap.size W w') := ⟨fun B W hb hB => by
  have hl : (s.cs.take i).length = i := by rw [List.length_take];have := HI.out;omega
  have h5 := ContainsFunc129_no (some adc) cc (s.cs.take i) y.f0 B W (by omega) (c_B (Kd.C_take HRC.out (Nat.le_of_lt HI.out)) hb) hB HNI.out
  rw [hl] at h5
  exact h5⟩
 have D := aS (Box3.start w (.cells #[.int .i64 s.st,.int .i64 s.ver,.slice A1 s.l.length c1,.slice Am s.ms.length cm,.slice Ar s.rs.length cr,.slice Ae s.echo.length ce,.slice (some adc) s.cs.length cc] 32) (.cells #[.int .i64 x.f0,.int .i64 x.f1,.int .i64 x.f2,.int .i64 x.f3,.int .i64 x.f4] 87) (.cells #[.int .i64 y.f0,.string y.f1] 129))
 have Y2 := fun o o' => HY.out _ (b_l (b_l (Below.refl w.heap.size w) o) o')
 go_enter func132,ntmps132
 go_wp2_with (first | (go_at_call 164;refine (HC164.out _ _ D.out.below (blk_cell D.out.h3 0)).mono ?_;rintro e w2 ⟨rfl,hb1⟩;have D_ := aS (D.out.step hb1);clear D hb1 Y2;have D := D_;clear D_;obtain ⟨b0_,b1_,b2_,b3_,b4_,b5_,b6_⟩ := cells_7 D.out.h1;obtain ⟨x0,x1,x2,x3,x4⟩ := cells_5 D.out.h2;obtain ⟨z0,z1⟩ := cells_2 D.out.h3) | (go_at_call 90;refine (spec_Value.at x y.f1 _ HSZ.out).mono ?_;rintro e w3 ⟨rfl,hb1⟩;rw [HV.out];have D_ := aS (D.out.step hb1);clear D hb1;have D := D_;clear D_))
 go_ret
 exact ⟨rfl,D.out.below⟩
theorem codeS_snoc (e : Int) : ∀ (l : List S129) (p : S129),(codeS e (l ++ [p])).2 = ((codeS e l).2 || decide (p.f0 = e))
 | [],p => by
  rw [List.nil_append]
  by_cases h : p.f0 = e <;> simp [codeS,h]
 | x :: xs,p => by
  rw [List.cons_append,codeS,codeS]
  split
  ·rfl
  ·exact codeS_snoc e xs p
theorem codeS_take (e : Int) {l : List S129} {i : Nat} (h : i < l.length) : (codeS e (l.take (i + 1))).2 = ((codeS e (l.take i)).2 || decide ((rd_T129 l (i : Int)).f0 = e)) := by
 have hx : rd_T129 l (i : Int) = l[i] := by simp [rd_T129,List.getD_eq_getElem?_getD,List.getElem?_eq_getElem h]
 rw [List.take_succ_eq_append_getElem h,codeS_snoc,hx]
set_option maxHeartbeats 2000000 in
theorem reject_Check.at (s : Sd) (p : Ad) (w : World) (h1 : SdAt w s p) (hok : sdR s) :
  Calls prog 76 #[.agg #[.int .i64 s.st,.int .i64 s.ver,.slice p.A1 s.l.length p.c1,.slice p.Am s.ms.length p.cm,.slice p.Ar s.rs.length p.cr,.slice p.Ae s.echo.length p.ce,.slice p.Ac s.cs.length p.cc]] w fun e w' => e = .returned (.tuple #[.int .i64 0,.int .i64 0,.int .i64 0]) ∧ Below w.heap.size w w' := by
 have hu32 := underlying32
 have hu24 := underlying24
 have hu87 := underlying87
 have hu129 := underlying129
 rcases p with ⟨A1,c1,Am,cm,Ar,cr,Ae,ce,Ac,cc⟩
 have ne := h1.ne
 have nc := h1.nc
 have hrc : Kd.C k129 w Ac s.cs.length s.cs := h1.rc
 have HRC := aS hrc
 have HS := aS h1
 simp only at *
 obtain ⟨o1,o2,o3,o4,o5⟩ := hok
 obtain ⟨z1,hs1⟩ : ∃ z,schemaCheck s.st s.ver s.l = (0,z) := ⟨_,by rw [← o1]⟩
 have HS1 := aS hs1
 obtain ⟨x,hx⟩ : ∃ x,findS 39 s.l = (x,true) := ⟨(findS 39 s.l).1,by rw [← o2]⟩
 have HX := aS hx
 rw [hx] at o4
 have O3 := aS o3
 have O4 := aS o4
 have O5 := aS o5
 clear h1 o1 o2 o3 o4 o5 hs1 hx hrc
 have D := aS (Box1.start w (.cells #[.int .i64 s.st,.int .i64 s.ver,.slice A1 s.l.length c1,.slice Am s.ms.length cm,.slice Ar s.rs.length cr,.slice Ae s.echo.length ce,.slice Ac s.cs.length cc] 32))
 go_enter func76,ntmps76
 go_wp2_with (first | (go_at_call 32;refine (schema_Check.at s.st s.ver A1 c1 s.l _ HS.out.n1 (c_B HS.out.r1 D.out.below) HS.out.h1).mono ?_;rintro e w1 ⟨rfl,hb1⟩;rw [HS1.out];have D_ := aS (D.out.step hb1);clear D hb1;have D := D_;clear D_;obtain ⟨b0_,b1_,b2_,b3_,b4_,b5_,b6_⟩ := cells_7 D.out.h1) | (go_at_call 36;refine (schema_Find.at s.st s.ver A1 c1 s.l 39 _ HS.out.n1 (c_B HS.out.r1 D.out.below) HS.out.h1).mono ?_;rintro e w2 ⟨rfl,hb1⟩;rw [HX.out];simp only [v87];have D_ := aS (D.out.step hb1);clear D hb1 b0_ b1_ b2_ b3_ b4_ b5_ b6_;have D := D_;clear D_;have BA := fun o => cells_7a D.out.h1 o))
 have PX := aS (blk_new w2 (.cells #[.int .i64 x.f0,.int .i64 x.f1,.int .i64 x.f2,.int .i64 x.f3,.int .i64 x.f4] 87))
 have D_ := aS (D.out.step (b_l (Below.refl _ _) (.cells #[.int .i64 x.f0,.int .i64 x.f1,.int .i64 x.f2,.int .i64 x.f3,.int .i64 x.f4] 87)))
 clear D BA
 have D := D_
 clear D_
 generalize w2.alloc _ = w5 at *
 generalize w2.heap.size = g7 at *
 go_loopg [34] s.echo.length (fun g v34 w' => ∃ i : Nat,v34 = .int .i64 i ∧ i + g = s.echo.length ∧ Aside0 (Box1 w w' (.cells #[.int .i64 s.st,.int .i64 s.ver,.slice A1 s.l.length c1,.slice Am s.ms.length cm,.slice Ar s.rs.length cr,.slice Ae s.echo.length ce,.slice Ac s.cs.length cc] 32)) ∧ Aside0 (w'.heap[g7]? = some (.cells #[.int .i64 x.f0,.int .i64 x.f1,.int .i64 x.f2,.int .i64 x.f3,.int .i64 x.f4] 87 (0,0))))
 case atStart => exact ⟨0,rfl,Nat.zero_add _,D,PX⟩
 case round =>
  clear D PX
  obtain ⟨i,rfl,hi,D,PX⟩ := hrel
  obtain ⟨b0_,b1_,b2_,b3_,b4_,b5_,b6_⟩ := cells_7 D.out.h1
  obtain ⟨x0,x1,x2,x3,x4⟩ := cells_5 PX.out
  by_cases h : i < s.echo.length
  ·have e0 : decide ((i : Int) < s.echo.length) = true := d_T (by omega)
   have HO := aS (O3.out i h)
   go_wp2_with (first | (go_at_call 131;refine (reject_echo.at s ⟨A1,c1,Am,cm,Ar,cr,Ae,ce,Ac,cc⟩ i _ (HS.out.step D.out.below) h HO.out.1 HO.out.2.1 HO.out.2.2).mono ?_;rintro e w6 ⟨rfl,hb1⟩;have D_ := aS (D.out.step hb1);have PX_ := aS (k_B PX.out hb1);clear D PX hb1 b0_ b1_ b2_ b3_ b4_ b5_ b6_ x0 x1 x2 x3 x4;have D := D_;have PX := PX_;clear D_ PX_;obtain ⟨b0_,b1_,b2_,b3_,b4_,b5_,b6_⟩ := cells_7 D.out.h1;obtain ⟨x0,x1,x2,x3,x4⟩ := cells_5 PX.out))
   obtain ⟨g,rfl⟩ : ∃ g,gk = g + 1 := ⟨gk - 1,by omega⟩
   go_roundg g
   case rel => exact ⟨i + 1,rfl,by omega,D,PX⟩
   case measure => omega
  ·have e0 : decide ((i : Int) < s.echo.length) = false := d_F (by omega)
   go_wp2
   clear b0_ b1_ b2_ b3_ b4_ b5_ b6_ x0 x1 x2 x3 x4
   go_loopg [11,48] s.cs.length (fun g v11 v48 w' => ∃ (i : Nat) (b : Bool),v11 = .bool b ∧ v48 = .int .i64 i ∧ i + g = s.cs.length ∧ Aside0 (b = (codeS 0 (s.cs.take i)).2) ∧ Aside0 (Box1 w w' (.cells #[.int .i64 s.st,.int .i64 s.ver,.slice A1 s.l.length c1,.slice Am s.ms.length cm,.slice Ar s.rs.length cr,.slice Ae s.echo.length ce,.slice Ac s.cs.length cc] 32)) ∧ Aside0 (w'.heap[g7]? = some (.cells #[.int .i64 x.f0,.int .i64 x.f1,.int .i64 x.f2,.int .i64 x.f3,.int .i64 x.f4] 87 (0,0))))
   case atStart => exact ⟨0,false,rfl,rfl,Nat.zero_add _,⟨rfl⟩,D,PX⟩
   case round =>
    clear D PX h hi e0
    obtain ⟨i,b,rfl,rfl,hi,HB,D,PX⟩ := hrel
    obtain ⟨b0_,b1_,b2_,b3_,b4_,b5_,b6_⟩ := cells_7 D.out.h1
    obtain ⟨x0,x1,x2,x3,x4⟩ := cells_5 PX.out
    by_cases h : i < s.cs.length
    ·have e0 : decide ((i : Int) < s.cs.length) = true := d_T (by omega)
     obtain ⟨adc,rfl,hy0,hy1⟩ := at129 HRC.out D.out.below i h
     have q0 : (0 ≤ (i : Int)) = True := eq_true (by omega)
     have q1 : ((i : Int) < s.cs.length) = True := eq_true (by omega)
     have HO := aS (O4.out i h)
     have HT := aS (codeS_take 0 h)
     have HC132 : Aside0 (∀ W,Below w.heap.size w W → Calls prog 132 #[.agg #[.int .i64 s.st,.int .i64 s.ver,.slice A1 s.l.length c1,.slice Am s.ms.length cm,.slice Ar s.rs.length cr,.slice Ae s.echo.length ce,.slice (some adc) s.cs.length cc],.int .i64 i,.agg #[.int .i64 x.f0,.int .i64 x.f1,.int .i64 x.f2,.int .i64 x.f3,.int .i64 x.f4]] W fun e w' => e = .returned (.int .i64 0) ∧ Below W.heap.size W w') := ⟨fun W hb => reject_code.at s ⟨A1,c1,Am,cm,Ar,cr,Ae,ce,some adc,cc⟩ x i W (HS.out.step hb) h HO.out.1 HO.out.2.1 HO.out.2.2⟩
     generalize rd_T129 s.cs (i : Int) = y at *
     have B2 := fun o => cells_7a D.out.h1 o
     have X2 := fun o => cells_5a PX.out o
     cases b with
     | true =>
      go_wp2_with (first | (go_at_call 132;refine (HC132.out _ (b_s D.out.below (bO _))).mono ?_;rintro e w6 ⟨rfl,hb0⟩;have hb1 := below_a1 hb0;clear hb0 B2 X2 hy0 hy1;have D_ := aS (D.out.step hb1);have PX_ := aS (k_B PX.out hb1);clear D PX hb1 b0_ b1_ b2_ b3_ b4_ b5_ b6_ x0 x1 x2 x3 x4;have D := D_;have PX := PX_;clear D_ PX_;obtain ⟨b0_,b1_,b2_,b3_,b4_,b5_,b6_⟩ := cells_7 D.out.h1;obtain ⟨x0,x1,x2,x3,x4⟩ := cells_5 PX.out))
      obtain ⟨g,rfl⟩ : ∃ g,gk = g + 1 := ⟨gk - 1,by omega⟩
      go_roundg g
      case rel => exact ⟨i + 1,true,rfl,rfl,by omega,⟨by rw [HT.out,← HB.out];rfl⟩,D,PX⟩
      case measure => omega
     | false =>
      have ey : (y.f0 == 0) = decide (y.f0 = 0) := by rw [Bool.eq_iff_iff,beq_iff_eq,decide_eq_true_eq]
      go_wp2_with (first | (go_at_call 132;refine (HC132.out _ (b_s D.out.below (bO _))).mono ?_;rintro e w6 ⟨rfl,hb0⟩;have PY := aS (blk_nb hb0);have hb1 := below_a1 hb0;clear hb0 B2 X2 hy0 hy1;have D_ := aS (D.out.step hb1);have PX_ := aS (k_B PX.out hb1);clear D PX hb1 b0_ b1_ b2_ b3_ b4_ b5_ b6_ x0 x1 x2 x3 x4;have D := D_;have PX := PX_;clear D_ PX_;obtain ⟨b0_,b1_,b2_,b3_,b4_,b5_,b6_⟩ := cells_7 D.out.h1;obtain ⟨x0,x1,x2,x3,x4⟩ := cells_5 PX.out;obtain ⟨y0,y1⟩ := cells_2 PY.out))
      obtain ⟨g,rfl⟩ : ∃ g,gk = g + 1 := ⟨gk - 1,by omega⟩
      go_roundg g
      case rel => exact ⟨i + 1,decide (y.f0 = 0),rfl,rfl,by omega,⟨by rw [HT.out,← HB.out];rfl⟩,D,PX⟩
      case measure => omega
    ·have e0 : decide ((i : Int) < s.cs.length) = false := d_F (by omega)
     obtain rfl : b = true := by rw [HB.out,List.take_of_length_le (by omega)];exact O5.out
     go_wp2
     go_ret3
     exact ⟨rfl,D.out.below⟩
end Go.Proofs.YtgbmnpgaddhfpaaGreatDoor.T
