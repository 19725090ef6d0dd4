/- Walks and plain laws beneath the law TopBuilt. No conditions but what each statement names. -/
import Derived.OpenShut
import Derived.WideShapes
import Derived.Test.YtgbmnpgaddhfpaaGreatDoorB14
set_option linter.unusedVariables false
set_option linter.unusedSimpArgs false
namespace Go.Proofs.YtgbmnpgaddhfpaaGreatDoor.T
open Go.RowKit Go.Proofs.YtgbmnpgaddhfpaaGreatDoorW.PrintWords Go.Proofs.YtgbmnpgaddhfpaaGreatDoorW.PrintLast Go.Proofs.YtgbmnpgaddhfpaaGreatDoorW.PrintMore
attribute [local go_sem] max2_int min2_int max_two min_two
open Go.Proofs.YtgbmnpgaddhfpaaGreatDoor.G
open Tryz
set_option maxRecDepth 100000
section
theorem idx33_0 (a b c d e f g h i j k l m n : Value) (w : World) : Sem.run prog (Instr.index 33 (.agg #[a,b,c,d,e,f,g,h,i,j,k,l,m,n]) (.int .i64 0)) w = .ok (.agg #[a,b,c,d,e,f,g]) w := by kernel_rfl
theorem idx33_1 (a b c d e f g h i j k l m n : Value) (w : World) : Sem.run prog (Instr.index 33 (.agg #[a,b,c,d,e,f,g,h,i,j,k,l,m,n]) (.int .i64 1)) w = .ok (.agg #[h,i,j,k,l,m,n]) w := by kernel_rfl
theorem wr1_7 : (IntKind.wrap .i64 1).toNat * 7 = 7 := by decide
theorem wr0_7 : (IntKind.wrap .i64 0).toNat * 7 = 0 := by decide
attribute [local go_sem] idx33_0 idx33_1 wr1_7 wr0_7
theorem r38 {W : World} {s t : Sd} {p q : Ad} (h : SdAt W s p) (h' : SdAt W t q) (hm : mapOk s.ms s.rs s.st s.ver s.l t.st t.ver t.l) : Calls prog 38 #[.agg #[.slice p.Am s.ms.length p.cm,.slice p.Ar s.rs.length p.cr],.agg #[.int .i64 s.st,.int .i64 s.ver,.slice p.A1 s.l.length p.c1],.agg #[.int .i64 t.st,.int .i64 t.ver,.slice q.A1 t.l.length q.c1]] W fun e w' => e = .returned (.tuple #[.int .i64 0,.int .i64 0,.int .i64 0]) ∧ Below W.heap.size W w' :=
 xlate_Check.at p.Am p.cm s.ms p.Ar p.cr s.rs s.st s.ver p.A1 p.c1 s.l t.st t.ver q.A1 q.c1 t.l W h.n1 h'.n1 h.rm h.hm h.rr h.hr h.r1 h.h1 h'.r1 h'.h1 hm
def cfgK (s t : Sd) (most : Int) : Prop := (1 ≤ most ∧ most ≤ 65535) ∧ (sdR s ∧ mapOk s.ms s.rs s.st s.ver s.l t.st t.ver t.l) ∧ (sdR t ∧ mapOk t.ms t.rs t.st t.ver t.l s.st s.ver s.l)
set_option maxHeartbeats 4000000 in
theorem route_Check.at (s t : Sd) (p q : Ad) (most : Int) (w : World) (h1 : SdAt w s p) (h2 : SdAt w t q) (hk : cfgK s t most) :
  Calls prog 30 #[.agg #[.int .i64 s.st,.int .i64 s.ver,.slice p.A1 s.l.length p.c1,.slice p.Am s.ms.length p.cm,.slice p.Ar s.rs.length p.cr,.slice p.Ae s.echo.length p.ce,.slice p.Ac s.cs.length p.cc,.int .i64 t.st,.int .i64 t.ver,.slice q.A1 t.l.length q.c1,.slice q.Am t.ms.length q.cm,.slice q.Ar t.rs.length q.cr,.slice q.Ae t.echo.length q.ce,.slice q.Ac t.cs.length q.cc,.int .i64 most]] w fun e w' => e = .returned (.tuple #[.int .i64 0,.int .i64 0,.int .i64 0]) ∧ Below w.heap.size w w' := by
 have hu35 := underlying35
 have hu33 := underlying33
 have hu32 := underlying32
 have hu28 := underlying28
 have hu24 := underlying24
 obtain ⟨⟨k1,k2⟩,⟨k3,k4⟩,k5,k6⟩ := hk
 have HS := aS h1
 have HT := aS h2
 have K3 := aS k3
 have K4 := aS k4
 have K5 := aS k5
 have K6 := aS k6
 have b0 : decide (most < 1) = false := d_F (by omega)
 have b1 : decide (65535 < most) = false := d_F (by omega)
 clear h1 h2 k1 k2 k3 k4 k5 k6
 have D := aS (Box1.start w (.cells #[.int .i64 s.st,.int .i64 s.ver,.slice p.A1 s.l.length p.c1,.slice p.Am s.ms.length p.cm,.slice p.Ar s.rs.length p.cr,.slice p.Ae s.echo.length p.ce,.slice p.Ac s.cs.length p.cc,.int .i64 t.st,.int .i64 t.ver,.slice q.A1 t.l.length q.c1,.slice q.Am t.ms.length q.cm,.slice q.Ar t.rs.length q.cr,.slice q.Ae t.echo.length q.ce,.slice q.Ac t.cs.length q.cc,.int .i64 most] 35))
 go_enter func30,ntmps30
 go_wp2
 clear b0 b1
 go_loopg [23] 2 (fun g v23 w' => ∃ i : Nat,v23 = .int .i64 i ∧ i + g = 2 ∧ Aside0 (Box1 w w' (.cells #[.int .i64 s.st,.int .i64 s.ver,.slice p.A1 s.l.length p.c1,.slice p.Am s.ms.length p.cm,.slice p.Ar s.rs.length p.cr,.slice p.Ae s.echo.length p.ce,.slice p.Ac s.cs.length p.cc,.int .i64 t.st,.int .i64 t.ver,.slice q.A1 t.l.length q.c1,.slice q.Am t.ms.length q.cm,.slice q.Ar t.rs.length q.cr,.slice q.Ae t.echo.length q.ce,.slice q.Ac t.cs.length q.cc,.int .i64 most] 35)))
 case atStart => exact ⟨0,rfl,rfl,D⟩
 case round =>
  clear D
  obtain ⟨i,rfl,hi,D⟩ := hrel
  obtain ⟨c0_,c1_,c2_,c3_,c4_,c5_,c6_,c7_,c8_,c9_,c10_,c11_,c12_,c13_,c14_⟩ := cells_15 D.out.h1
  rcases (show i = 0 ∨ i = 1 ∨ i = 2 by omega) with i0 | i1 | i2
  ·skip
   subst i0
   obtain ⟨g,rfl⟩ : ∃ g,gk = g + 1 := ⟨gk - 1,by omega⟩
   go_wp2_with (first | (go_at_call 76;(have D_ := aS (D.out.step (b_l (Below.refl _ _) (.cells #[.int .i64 s.st,.int .i64 s.ver,.slice p.A1 s.l.length p.c1,.slice p.Am s.ms.length p.cm,.slice p.Ar s.rs.length p.cr,.slice p.Ae s.echo.length p.ce,.slice p.Ac s.cs.length p.cc] 32))));(have PX := aS (blk_new wr (.cells #[.int .i64 s.st,.int .i64 s.ver,.slice p.A1 s.l.length p.c1,.slice p.Am s.ms.length p.cm,.slice p.Ar s.rs.length p.cr,.slice p.Ae s.echo.length p.ce,.slice p.Ac s.cs.length p.cc] 32)));clear D c0_ c1_ c2_ c3_ c4_ c5_ c6_ c7_ c8_ c9_ c10_ c11_ c12_ c13_ c14_;(have D := D_);clear D_;generalize wr.alloc _ = w5 at *;generalize wr.heap.size = g5 at *;refine (reject_Check.at s p _ (HS.out.step D.out.below) K3.out).mono ?_;rintro e w3 ⟨rfl,hb1⟩;(have D_ := aS (D.out.step hb1));(have P_ := aS (k_B PX.out hb1));clear D PX hb1;(have D := D_);(have PX := P_);clear D_ P_))
   have HXC : Aside0 (∀ W,Below w3.heap.size w3 W → Calls prog 38 #[.agg #[.slice p.Am s.ms.length p.cm,.slice p.Ar s.rs.length p.cr],.agg #[.int .i64 s.st,.int .i64 s.ver,.slice p.A1 s.l.length p.c1],.agg #[.int .i64 t.st,.int .i64 t.ver,.slice q.A1 t.l.length q.c1]] W fun e w' => e = .returned (.tuple #[.int .i64 0,.int .i64 0,.int .i64 0]) ∧ Below W.heap.size W w') := ⟨fun W hb => r38 (HS.out.step (b_s D.out.below hb)) (HT.out.step (b_s D.out.below hb)) K4.out⟩
   obtain ⟨c0_,c1_,c2_,c3_,c4_,c5_,c6_,c7_,c8_,c9_,c10_,c11_,c12_,c13_,c14_⟩ := cells_15 D.out.h1
   obtain ⟨x0,x1,x2,x3,x4,x5,x6⟩ := cells_7 PX.out
   refine wp_region_below (by kernel_rfl) (by kernel_rfl) ?_
   iterate 4 ((with_reducible refine quiet_yes ?hw ?_);(case hw => kernel_rfl);apply Exists.intro;refine ⟨fun w' hw' => ?_,?_⟩;(have hc := below_cells hw';unfold Oper.quietAt;go_simp;first | done | (with_reducible rfl) | (with_reducible exact ⟨rfl,rfl⟩) | (go_at_call 38;(with_reducible refine (HXC.out _ hw').mono ?_);exact fun e w2 ⟨he,hb⟩ => ⟨he,b_s hw' hb⟩) | rfl | exact ⟨rfl,rfl⟩))
   simp only [Act.put,sA,sB,sC]
   iterate 4 ((with_reducible refine quiet_yes ?hw ?_);(case hw => kernel_rfl);apply Exists.intro;refine ⟨fun w' hw' => ?_,?_⟩;(have hc := below_cells hw';unfold Oper.quietAt;go_simp;first | done | (with_reducible rfl) | (with_reducible exact ⟨rfl,rfl⟩) | (go_at_call 38;(with_reducible refine (HXC.out _ hw').mono ?_);exact fun e w2 ⟨he,hb⟩ => ⟨he,b_s hw' hb⟩) | rfl | exact ⟨rfl,rfl⟩))
   simp only [Act.put,sA,sB,sC]
   iterate 3 ((with_reducible refine quiet_yes ?hw ?_);(case hw => kernel_rfl);apply Exists.intro;refine ⟨fun w' hw' => ?_,?_⟩;(have hc := below_cells hw';unfold Oper.quietAt;go_simp;first | done | (with_reducible rfl) | (with_reducible exact ⟨rfl,rfl⟩) | (go_at_call 38;(with_reducible refine (HXC.out _ hw').mono ?_);exact fun e w2 ⟨he,hb⟩ => ⟨he,b_s hw' hb⟩) | rfl | exact ⟨rfl,rfl⟩))
   simp only [Act.put,sA,sB,sC]
   iterate 4 ((with_reducible refine quiet_yes ?hw ?_);(case hw => kernel_rfl);apply Exists.intro;refine ⟨fun w' hw' => ?_,?_⟩;(have hc := below_cells hw';unfold Oper.quietAt;go_simp;first | done | (with_reducible rfl) | (with_reducible exact ⟨rfl,rfl⟩) | (go_at_call 38;(with_reducible refine (HXC.out _ hw').mono ?_);exact fun e w2 ⟨he,hb⟩ => ⟨he,b_s hw' hb⟩) | rfl | exact ⟨rfl,rfl⟩))
   simp only [Act.put,sA,sB,sC]
   iterate 3 ((with_reducible refine quiet_yes ?hw ?_);(case hw => kernel_rfl);apply Exists.intro;refine ⟨fun w' hw' => ?_,?_⟩;(have hc := below_cells hw';unfold Oper.quietAt;go_simp;first | done | (with_reducible rfl) | (with_reducible exact ⟨rfl,rfl⟩) | (go_at_call 38;(with_reducible refine (HXC.out _ hw').mono ?_);exact fun e w2 ⟨he,hb⟩ => ⟨he,b_s hw' hb⟩) | rfl | exact ⟨rfl,rfl⟩))
   refine wpQuiet_nil ?_
   intro wq hw'
   have D_ := aS (D.out.step hw')
   clear hw' D HXC PX x0 x1 x2 x3 x4 x5 x6 c0_ c1_ c2_ c3_ c4_ c5_ c6_ c7_ c8_ c9_ c10_ c11_ c12_ c13_ c14_
   have D := D_
   clear D_
   simp only [Act.put,sA,sB,sC]
   go_wp2
   go_roundg g
   case rel => exact ⟨1,rfl,by omega,D⟩
   case measure => omega
  ·skip
   subst i1
   obtain ⟨g,rfl⟩ : ∃ g,gk = g + 1 := ⟨gk - 1,by omega⟩
   go_wp2_with (first | (go_at_call 76;(have D_ := aS (D.out.step (b_l (Below.refl _ _) (.cells #[.int .i64 t.st,.int .i64 t.ver,.slice q.A1 t.l.length q.c1,.slice q.Am t.ms.length q.cm,.slice q.Ar t.rs.length q.cr,.slice q.Ae t.echo.length q.ce,.slice q.Ac t.cs.length q.cc] 32))));(have PX := aS (blk_new wr (.cells #[.int .i64 t.st,.int .i64 t.ver,.slice q.A1 t.l.length q.c1,.slice q.Am t.ms.length q.cm,.slice q.Ar t.rs.length q.cr,.slice q.Ae t.echo.length q.ce,.slice q.Ac t.cs.length q.cc] 32)));clear D c0_ c1_ c2_ c3_ c4_ c5_ c6_ c7_ c8_ c9_ c10_ c11_ c12_ c13_ c14_;(have D := D_);clear D_;generalize wr.alloc _ = w5 at *;generalize wr.heap.size = g5 at *;refine (reject_Check.at t q _ (HT.out.step D.out.below) K5.out).mono ?_;rintro e w3 ⟨rfl,hb1⟩;(have D_ := aS (D.out.step hb1));(have P_ := aS (k_B PX.out hb1));clear D PX hb1;(have D := D_);(have PX := P_);clear D_ P_))
   have HXC : Aside0 (∀ W,Below w3.heap.size w3 W → Calls prog 38 #[.agg #[.slice q.Am t.ms.length q.cm,.slice q.Ar t.rs.length q.cr],.agg #[.int .i64 t.st,.int .i64 t.ver,.slice q.A1 t.l.length q.c1],.agg #[.int .i64 s.st,.int .i64 s.ver,.slice p.A1 s.l.length p.c1]] W fun e w' => e = .returned (.tuple #[.int .i64 0,.int .i64 0,.int .i64 0]) ∧ Below W.heap.size W w') := ⟨fun W hb => r38 (HT.out.step (b_s D.out.below hb)) (HS.out.step (b_s D.out.below hb)) K6.out⟩
   obtain ⟨c0_,c1_,c2_,c3_,c4_,c5_,c6_,c7_,c8_,c9_,c10_,c11_,c12_,c13_,c14_⟩ := cells_15 D.out.h1
   obtain ⟨x0,x1,x2,x3,x4,x5,x6⟩ := cells_7 PX.out
   refine wp_region_below (by kernel_rfl) (by kernel_rfl) ?_
   iterate 4 ((with_reducible refine quiet_yes ?hw ?_);(case hw => kernel_rfl);apply Exists.intro;refine ⟨fun w' hw' => ?_,?_⟩;(have hc := below_cells hw';unfold Oper.quietAt;go_simp;first | done | (with_reducible rfl) | (with_reducible exact ⟨rfl,rfl⟩) | (go_at_call 38;(with_reducible refine (HXC.out _ hw').mono ?_);exact fun e w2 ⟨he,hb⟩ => ⟨he,b_s hw' hb⟩) | rfl | exact ⟨rfl,rfl⟩))
   simp only [Act.put,sA,sB,sC]
   iterate 4 ((with_reducible refine quiet_yes ?hw ?_);(case hw => kernel_rfl);apply Exists.intro;refine ⟨fun w' hw' => ?_,?_⟩;(have hc := below_cells hw';unfold Oper.quietAt;go_simp;first | done | (with_reducible rfl) | (with_reducible exact ⟨rfl,rfl⟩) | (go_at_call 38;(with_reducible refine (HXC.out _ hw').mono ?_);exact fun e w2 ⟨he,hb⟩ => ⟨he,b_s hw' hb⟩) | rfl | exact ⟨rfl,rfl⟩))
   simp only [Act.put,sA,sB,sC]
   iterate 3 ((with_reducible refine quiet_yes ?hw ?_);(case hw => kernel_rfl);apply Exists.intro;refine ⟨fun w' hw' => ?_,?_⟩;(have hc := below_cells hw';unfold Oper.quietAt;go_simp;first | done | (with_reducible rfl) | (with_reducible exact ⟨rfl,rfl⟩) | (go_at_call 38;(with_reducible refine (HXC.out _ hw').mono ?_);exact fun e w2 ⟨he,hb⟩ => ⟨he,b_s hw' hb⟩) | rfl | exact ⟨rfl,rfl⟩))
   simp only [Act.put,sA,sB,sC]
   iterate 4 ((with_reducible refine quiet_yes ?hw ?_);(case hw => kernel_rfl);apply Exists.intro;refine ⟨fun w' hw' => ?_,?_⟩;(have hc := below_cells hw';unfold Oper.quietAt;go_simp;first | done | (with_reducible rfl) | (with_reducible exact ⟨rfl,rfl⟩) | (go_at_call 38;(with_reducible refine (HXC.out _ hw').mono ?_);exact fun e w2 ⟨he,hb⟩ => ⟨he,b_s hw' hb⟩) | rfl | exact ⟨rfl,rfl⟩))
   simp only [Act.put,sA,sB,sC]
   iterate 3 ((with_reducible refine quiet_yes ?hw ?_);(case hw => kernel_rfl);apply Exists.intro;refine ⟨fun w' hw' => ?_,?_⟩;(have hc := below_cells hw';unfold Oper.quietAt;go_simp;first | done | (with_reducible rfl) | (with_reducible exact ⟨rfl,rfl⟩) | (go_at_call 38;(with_reducible refine (HXC.out _ hw').mono ?_);exact fun e w2 ⟨he,hb⟩ => ⟨he,b_s hw' hb⟩) | rfl | exact ⟨rfl,rfl⟩))
   refine wpQuiet_nil ?_
   intro wq hw'
   have D_ := aS (D.out.step hw')
   clear hw' D HXC PX x0 x1 x2 x3 x4 x5 x6 c0_ c1_ c2_ c3_ c4_ c5_ c6_ c7_ c8_ c9_ c10_ c11_ c12_ c13_ c14_
   have D := D_
   clear D_
   simp only [Act.put,sA,sB,sC]
   go_wp2
   go_roundg g
   case rel => exact ⟨2,rfl,by omega,D⟩
   case measure => omega
  ·subst i2
   go_wp2
   go_ret3
   exact ⟨rfl,D.out.below⟩
end
theorem opens_true {α : Type} {P : Program} {t : TypeId} {k : Kd α} {good : α → Prop} (h : G.Opens P t k good) : G.Opens P t k (fun _ => True) := h.imp (fun _ _ => trivial)
theorem opens_plain {α : Type} {P : Program} {t : TypeId} {fs : Array Field} {k : Kd α} {good : α → Prop} {n : Nat} (ht : P.underlying t = some (.struct fs)) (hn : P.cellsOf t = n) (h : G.Piece P 0 n fs.toList k good) : G.Opens P t k (fun _ => True) := by
 intro H enc w base spare held fuel cs x hx
 obtain ⟨y,hy,_⟩ := G.opens_struct (k := k) (good := good) (n := n) (fun x : α => x) (fun x => x) (fun _ => rfl) ht hn h H enc w base spare held fuel cs x hx
 exact ⟨y,hy,trivial⟩
theorem o_int : G.Opens prog 3 (Kd.int .i64) (fun _ => True) := opens_true (G.opens_int underlying3)
theorem o_str : G.Opens prog 9 Kd.string (fun _ => True) := opens_true (G.opens_string underlying9)
def msgSz (m : ByteArray) (xs : List S63) : Prop := m.size ≤ 100 ∧ xs.length ≤ 200 ∧ ∀ x ∈ xs,x.f1.size ≤ 1200
set_option maxHeartbeats 2000000 in
theorem groatref16_Great.at (m : ByteArray) (A : Option Addr) (c : Nat) (xs : List S63) (w : World) (hr : Kd.C k63 w A xs.length xs) (hc : xs.length ≤ c) :
  Calls prog 20 #[.agg #[.string m,.slice A xs.length c]] w fun e w' => ChkG (msgSz m xs) e ∧ Below w.heap.size w w' := by
 have hu42 := underlying42
 have hu63 := underlying63
 have HR := aS hr
 clear hr
 have BAD : ∀ W : World,∀ e,e = Ending.returned (.bool true) → ChkG (msgSz m xs) e := fun W e h => ⟨true,h,fun h => by cases h⟩
 have BAD := aS BAD
 by_cases h1 : m.size ≤ 100
 case neg =>
  have c1 : decide ((100 : Int) < m.size) = true := d_T (by omega)
  go_enter func20,ntmps20
  go_wp2
  go_ret
  exact ⟨BAD.out w _ rfl,b_l (Below.refl _ _) _⟩
 have c1 : decide ((100 : Int) < m.size) = false := d_F (by omega)
 by_cases h2 : xs.length ≤ 200
 case neg =>
  have c2 : decide ((200 : Int) < xs.length) = true := d_T (by omega)
  go_enter func20,ntmps20
  go_wp2
  go_ret
  exact ⟨BAD.out w _ rfl,b_l (Below.refl _ _) _⟩
 have c2 : decide ((200 : Int) < xs.length) = false := d_F (by omega)
 have H12 : Aside0 (m.size ≤ 100 ∧ xs.length ≤ 200) := ⟨h1,h2⟩
 clear h1 h2
 have B := aS (blk_new w (.cells #[.string m,.slice A xs.length c] 42))
 have H := aS (b_l (Below.refl _ w) (.cells #[.string m,.slice A xs.length c] 42))
 go_enter func20,ntmps20
 go_wp2
 go_loopg [3] xs.length (fun g v3 w' => ∃ i : Nat,v3 = .int .i64 i ∧ i + g = xs.length ∧ Aside0 (∀ x ∈ xs.take i,x.f1.size ≤ 1200) ∧ w' = w.alloc (.cells #[.string m,.slice A xs.length c] 42))
 case atStart => exact ⟨0,rfl,by omega,⟨by simp⟩,rfl⟩
 case round =>
  obtain ⟨i,rfl,hi,HF,rfl⟩ := hrel
  obtain ⟨k0,k1⟩ := cells_2 B.out
  by_cases h : i < xs.length
  ·obtain ⟨g,rfl⟩ : ∃ g,gk = g + 1 := ⟨gk - 1,by omega⟩
   have e0 : decide ((i : Int) < xs.length) = true := d_T (by omega)
   obtain ⟨ad2,rfl,hx0,hx1⟩ := at63 HR.out H.out i h
   have q0 : (0 ≤ (i : Int)) = True := eq_true (by omega)
   have q1 : ((i : Int) < xs.length) = True := eq_true (by omega)
   have e : rd_T63 xs (i : Int) = xs[i] := by simp [rd_T63,List.getD_eq_getElem?_getD,h]
   have HT : Aside0 ((rd_T63 xs (i : Int)).f1.size ≤ 1200 → ∀ x ∈ xs.take (i + 1),x.f1.size ≤ 1200) := ⟨fun a x hx => by
    rw [List.take_succ_eq_append_getElem h] at hx
    rcases List.mem_append.1 hx with hx | hx
    ·exact HF.out x hx
    ·rw [List.mem_singleton.1 hx,← e];exact a⟩
   clear e
   generalize rd_T63 xs (i : Int) = x at *
   by_cases k : x.f1.size ≤ 1200
   ·have e1 : decide ((1200 : Int) < x.f1.size) = false := d_F (by omega)
    have HT2 := aS (HT.out k)
    clear k
    go_wp2
    go_roundg g
    case rel => exact ⟨i + 1,by have := H12.out;congr 1;unfold wrap64;omega,by omega,HT2,rfl⟩
    case measure => omega
   ·have e1 : decide ((1200 : Int) < x.f1.size) = true := d_T (by omega)
    clear k
    go_wp2
    go_ret
    exact ⟨BAD.out w _ rfl,H.out⟩
  ·have e0 : decide ((i : Int) < xs.length) = false := d_F (by omega)
   have HE : Aside0 (∀ x ∈ xs,x.f1.size ≤ 1200) := ⟨by have := HF.out;rwa [List.take_of_length_le (by omega)] at this⟩
   go_wp2
   go_ret
   exact ⟨⟨false,rfl,fun _ => ⟨H12.out.1,H12.out.2,HE.out⟩⟩,H.out⟩
theorem below45 {w W : World} (h : Below w.heap.size w W) {u v : Value} : Below w.heap.size w ((W.setCell ⟨w.heap.size + 1 + 1,0,none⟩ u).setCell ⟨w.heap.size + 1 + 1,1,none⟩ v) :=
 (h.setCell (p := ⟨w.heap.size + 1 + 1,0,none⟩) (by show w.heap.size ≤ w.heap.size + 1 + 1;omega) _).setCell (p := ⟨w.heap.size + 1 + 1,1,none⟩) (by show w.heap.size ≤ w.heap.size + 1 + 1;omega) _
set_option maxHeartbeats 8000000 in
theorem groatref16_Check.at (st ver : Int) (A : Option Addr) (c : Nat) (l : List S87) (m : ByteArray) (A2 : Option Addr) (c2 : Nat) (xs : List S63) (w : World) (hl : l.length ≤ 4611686018427387904) (hr : Kd.C k87 w A l.length l) (hc : l.length ≤ c) (hl2 : xs.length ≤ 1000) (hr2 : Kd.C k63 w A2 xs.length xs) (hc2 : xs.length ≤ c2) (hmz : m.size ≤ 1000000) (hxz : ∀ x ∈ xs,x.f1.size ≤ 1000000) :
  Calls prog 22 #[.agg #[.int .i64 st,.int .i64 ver,.slice A l.length c],.agg #[.string m,.slice A2 xs.length c2]] w fun e w' => (∃ f1 f2,e = .returned (.agg #[.int .i64 f1,.int .i64 f2]) ∧ (f1 = 0 ∧ f2 = 0 ∧ msgOk st ver l m xs = true ∨ f1 ≠ 0 ∧ msgOk st ver l m xs = false)) ∧ Below w.heap.size w w' := by
 have hu24 := underlying24
 have hu42 := underlying42
 have hu45 := underlying45
 have hu63 := underlying63
 have hu87 := underlying87
 have HR := aS hr
 have HC := aS hc
 have HR2 := aS hr2
 have HC2 := aS hc2
 have HX := aS hl2
 have HLL := aS hl
 have HMZ := aS hmz
 have HXS := aS hxz
 have HMO : Aside0 (msgOk st ver l m xs = (decide ((schemaCheck st ver l).1 = 0) && (decide (verV m = (ver,true)) && fieldsOk l 0 xs))) := ⟨rfl⟩
 clear hr hc hr2 hc2 hl2 hmz hxz
 by_cases hs : (schemaCheck st ver l).1 = 0
 case neg =>
  have HS : Aside0 (decide ((schemaCheck st ver l).1 = 0) = false) := ⟨d_F hs⟩
  clear hs
  go_enter func22,ntmps22
  go_wp2_with (first | (go_at_call 52;refine (groatref13_Right.at st ver A c l _ hl (c_B HR.out (Box3.start w _ _ _).below) HC.out).mono ?_;rintro e w1 ⟨rfl,hb1⟩;rw [HS.out];have D := aS (Box3.init hb1);clear hb1;obtain ⟨a0,a1,a2⟩ := cells_3 D.out.h1;obtain ⟨b0,b1⟩ := cells_2 D.out.h2;obtain ⟨c0,c1⟩ := cells_2 D.out.h3;obtain ⟨f0,f1⟩ := froz_2 D.out.h3))
  refine bodyPost_ret (results_cell_row rfl _ _ (w.heap.size + 1 + 1) 45 _ (0,0) _ rfl (blk_put (blk_put D.out.h3 0 _ rfl) 1 _ rfl) hu45 rfl (by kernel_rfl)) rfl ?_
  exact ⟨⟨_,_,rfl,.inr ⟨by decide,by rw [HMO.out,HS.out];rfl⟩⟩,below45 D.out.below⟩
 have HS : Aside0 (decide ((schemaCheck st ver l).1 = 0) = true) := ⟨d_T hs⟩
 have HSC := aS hs
 clear hs
 rcases (show isMti m = false ∨ isMti m = true ∧ bt m 0 - 48 ≠ ver ∨ isMti m = true ∧ bt m 0 - 48 = ver by cases isMti m <;> simp;omega) with hm | ⟨hm,hv⟩ | ⟨hm,hv⟩
 ·have HMT := aS hm
  have HVV : Aside0 (decide (verV m = (ver,true)) = false) := ⟨by unfold verV;rw [hm];simp⟩
  clear hm
  go_enter func22,ntmps22
  go_wp2_with (first | (go_at_call 52;refine (groatref13_Right.at st ver A c l _ hl (c_B HR.out (Box3.start w _ _ _).below) HC.out).mono ?_;rintro e w1 ⟨rfl,hb1⟩;rw [HS.out];have D := aS (Box3.init hb1);clear hb1;obtain ⟨a0,a1,a2⟩ := cells_3 D.out.h1;obtain ⟨b0,b1⟩ := cells_2 D.out.h2;obtain ⟨c0,c1⟩ := cells_2 D.out.h3;obtain ⟨f0,f1⟩ := froz_2 D.out.h3))
  refine wp_region_below (by kernel_rfl) (by kernel_rfl) ?_
  iterate 4 ((with_reducible refine quiet_yes ?hw ?_);(case hw => kernel_rfl);apply Exists.intro;refine ⟨fun w' hw' => ?_,?_⟩;(have hc := below_cells hw';unfold Oper.quietAt;go_simp;first | done | (with_reducible rfl) | (with_reducible exact ⟨rfl,rfl⟩) | (go_at_call 54;exact (groatref15_Right.at m _ (by have := HMZ.out;omega)).mono fun e w2 ⟨he,hb⟩ => ⟨by rw [he,HMT.out],by rw [hb];exact hw'⟩) | rfl | exact ⟨rfl,rfl⟩))
  simp only [Act.put,sA,sB,sC]
  iterate 1 ((with_reducible refine quiet_yes ?hw ?_);(case hw => kernel_rfl);apply Exists.intro;refine ⟨fun w' hw' => ?_,?_⟩;(have hc := below_cells hw';unfold Oper.quietAt;go_simp;first | done | (with_reducible rfl) | (with_reducible exact ⟨rfl,rfl⟩) | (go_at_call 54;exact (groatref15_Right.at m _ (by have := HMZ.out;omega)).mono fun e w2 ⟨he,hb⟩ => ⟨by rw [he,HMT.out],by rw [hb];exact hw'⟩) | rfl | exact ⟨rfl,rfl⟩))
  simp only [Act.put,sA,sB,sC]
  iterate 8 ((with_reducible refine quiet_no ?hw ?_);(case hw => kernel_rfl))
  simp only [Act.put,sA,sB,sC]
  iterate 1 ((with_reducible refine quiet_yes ?hw ?_);(case hw => kernel_rfl);apply Exists.intro;refine ⟨fun w' hw' => ?_,?_⟩;(have hc := below_cells hw';unfold Oper.quietAt;go_simp;first | done | (with_reducible rfl) | (with_reducible exact ⟨rfl,rfl⟩) | (go_at_call 54;exact (groatref15_Right.at m _ (by have := HMZ.out;omega)).mono fun e w2 ⟨he,hb⟩ => ⟨by rw [he,HMT.out],by rw [hb];exact hw'⟩) | rfl | exact ⟨rfl,rfl⟩))
  simp only [Act.put,sA,sB,sC]
  refine wpQuiet_nil ?_
  intro wq hw'
  have D_ := aS (D.out.step hw');clear hw' D a0 a1 a2 b0 b1 c0 c1 f0 f1;have D := D_;clear D_;obtain ⟨a0,a1,a2⟩ := cells_3 D.out.h1;obtain ⟨b0,b1⟩ := cells_2 D.out.h2;obtain ⟨c0,c1⟩ := cells_2 D.out.h3;obtain ⟨f0,f1⟩ := froz_2 D.out.h3
  go_wp2
  refine bodyPost_ret (results_cell_row rfl _ _ (w.heap.size + 1 + 1) 45 _ (0,0) _ rfl (blk_put (blk_put D.out.h3 0 _ rfl) 1 _ rfl) hu45 rfl (by kernel_rfl)) rfl ?_
  exact ⟨⟨_,_,rfl,.inr ⟨by decide,by rw [HMO.out,HVV.out,Bool.false_and,Bool.and_false]⟩⟩,below45 D.out.below⟩
 ·have HMT := aS hm
  have HVV : Aside0 (decide (verV m = (ver,true)) = false) := ⟨by unfold verV;rw [hm];simp [hv]⟩
  have hz : 0 < m.size := by have := (isMti_iff.1 hm).1;omega
  have hb0 := bt_get (s := m) (i := 0) hz
  have hlt := UInt8.toNat_lt (m[0]'hz)
  have v1 : IntKind.i64.wrap ((m[0]'hz).toNat : Int) = ((m[0]'hz).toNat : Int) := by rw [IntKind.wrap_i64];omega
  have v2 : IntKind.i64.wrap (((m[0]'hz).toNat : Int) - 48) = ((m[0]'hz).toNat : Int) - 48 := by rw [IntKind.wrap_i64];omega
  have p0 : ((0 : Int) < m.size) = True := eq_true (by omega)
  have e3 : (((m[0]'hz).toNat : Int) - 48 != ver) = true := bne_iff_ne.mpr (by rw [← hb0];exact hv)
  clear hm hv hb0 hlt
  go_enter func22,ntmps22
  go_wp2_with (first | (go_at_call 52;refine (groatref13_Right.at st ver A c l _ hl (c_B HR.out (Box3.start w _ _ _).below) HC.out).mono ?_;rintro e w1 ⟨rfl,hb1⟩;rw [HS.out];have D := aS (Box3.init hb1);clear hb1;obtain ⟨a0,a1,a2⟩ := cells_3 D.out.h1;obtain ⟨b0,b1⟩ := cells_2 D.out.h2;obtain ⟨c0,c1⟩ := cells_2 D.out.h3;obtain ⟨f0,f1⟩ := froz_2 D.out.h3))
  refine wp_region_below (by kernel_rfl) (by kernel_rfl) ?_
  iterate 4 ((with_reducible refine quiet_yes ?hw ?_);(case hw => kernel_rfl);apply Exists.intro;refine ⟨fun w' hw' => ?_,?_⟩;(have hc := below_cells hw';unfold Oper.quietAt;go_simp;first | done | (with_reducible rfl) | (with_reducible exact ⟨rfl,rfl⟩) | (go_at_call 54;exact (groatref15_Right.at m _ (by have := HMZ.out;omega)).mono fun e w2 ⟨he,hb⟩ => ⟨by rw [he,HMT.out],by rw [hb];exact hw'⟩) | rfl | exact ⟨rfl,rfl⟩))
  simp only [Act.put,sA,sB,sC]
  iterate 4 ((with_reducible refine quiet_yes ?hw ?_);(case hw => kernel_rfl);apply Exists.intro;refine ⟨fun w' hw' => ?_,?_⟩;(have hc := below_cells hw';unfold Oper.quietAt;go_simp;first | done | (with_reducible rfl) | (with_reducible exact ⟨rfl,rfl⟩) | (go_at_call 54;exact (groatref15_Right.at m _ (by have := HMZ.out;omega)).mono fun e w2 ⟨he,hb⟩ => ⟨by rw [he,HMT.out],by rw [hb];exact hw'⟩) | rfl | exact ⟨rfl,rfl⟩))
  simp only [Act.put,sA,sB,sC]
  iterate 4 ((with_reducible refine quiet_yes ?hw ?_);(case hw => kernel_rfl);apply Exists.intro;refine ⟨fun w' hw' => ?_,?_⟩;(have hc := below_cells hw';unfold Oper.quietAt;go_simp;first | done | (with_reducible rfl) | (with_reducible exact ⟨rfl,rfl⟩) | (go_at_call 54;exact (groatref15_Right.at m _ (by have := HMZ.out;omega)).mono fun e w2 ⟨he,hb⟩ => ⟨by rw [he,HMT.out],by rw [hb];exact hw'⟩) | rfl | exact ⟨rfl,rfl⟩))
  simp only [Act.put,sA,sB,sC]
  iterate 2 ((with_reducible refine quiet_yes ?hw ?_);(case hw => kernel_rfl);apply Exists.intro;refine ⟨fun w' hw' => ?_,?_⟩;(have hc := below_cells hw';unfold Oper.quietAt;go_simp;first | done | (with_reducible rfl) | (with_reducible exact ⟨rfl,rfl⟩) | (go_at_call 54;exact (groatref15_Right.at m _ (by have := HMZ.out;omega)).mono fun e w2 ⟨he,hb⟩ => ⟨by rw [he,HMT.out],by rw [hb];exact hw'⟩) | rfl | exact ⟨rfl,rfl⟩))
  simp only [Act.put,sA,sB,sC]
  refine wpQuiet_nil ?_
  intro wq hw'
  have D_ := aS (D.out.step hw');clear hw' D a0 a1 a2 b0 b1 c0 c1 f0 f1;have D := D_;clear D_;obtain ⟨a0,a1,a2⟩ := cells_3 D.out.h1;obtain ⟨b0,b1⟩ := cells_2 D.out.h2;obtain ⟨c0,c1⟩ := cells_2 D.out.h3;obtain ⟨f0,f1⟩ := froz_2 D.out.h3
  go_wp2
  refine bodyPost_ret (results_cell_row rfl _ _ (w.heap.size + 1 + 1) 45 _ (0,0) _ rfl (blk_put (blk_put D.out.h3 0 _ rfl) 1 _ rfl) hu45 rfl (by kernel_rfl)) rfl ?_
  exact ⟨⟨_,_,rfl,.inr ⟨by decide,by rw [HMO.out,HVV.out,Bool.false_and,Bool.and_false]⟩⟩,below45 D.out.below⟩
 have HMT := aS hm
 have HVV : Aside0 (decide (verV m = (ver,true)) = true) := ⟨by unfold verV;rw [hm];simp [hv]⟩
 have HMO2 : Aside0 (msgOk st ver l m xs = fieldsOk l 0 xs) := ⟨by rw [HMO.out,HVV.out,HS.out];rfl⟩
 have hz : 0 < m.size := by have := (isMti_iff.1 hm).1;omega
 have hb0 := bt_get (s := m) (i := 0) hz
 have hlt := UInt8.toNat_lt (m[0]'hz)
 have v1 : IntKind.i64.wrap ((m[0]'hz).toNat : Int) = ((m[0]'hz).toNat : Int) := by rw [IntKind.wrap_i64];omega
 have v2 : IntKind.i64.wrap (((m[0]'hz).toNat : Int) - 48) = ((m[0]'hz).toNat : Int) - 48 := by rw [IntKind.wrap_i64];omega
 have p0 : ((0 : Int) < m.size) = True := eq_true (by omega)
 have e3 : (((m[0]'hz).toNat : Int) - 48 != ver) = false := bne_eq_false_iff_eq.mpr (by rw [← hb0];exact hv)
 clear hm hv hb0 hlt
 go_enter func22,ntmps22
 go_wp2_with (first | (go_at_call 52;refine (groatref13_Right.at st ver A c l _ hl (c_B HR.out (Box3.start w _ _ _).below) HC.out).mono ?_;rintro e w1 ⟨rfl,hb1⟩;rw [HS.out];have D := aS (Box3.init hb1);clear hb1;obtain ⟨a0,a1,a2⟩ := cells_3 D.out.h1;obtain ⟨b0,b1⟩ := cells_2 D.out.h2;obtain ⟨c0,c1⟩ := cells_2 D.out.h3;obtain ⟨f0,f1⟩ := froz_2 D.out.h3))
 refine wp_region_below (by kernel_rfl) (by kernel_rfl) ?_
 iterate 4 ((with_reducible refine quiet_yes ?hw ?_);(case hw => kernel_rfl);apply Exists.intro;refine ⟨fun w' hw' => ?_,?_⟩;(have hc := below_cells hw';unfold Oper.quietAt;go_simp;first | done | (with_reducible rfl) | (with_reducible exact ⟨rfl,rfl⟩) | (go_at_call 54;exact (groatref15_Right.at m _ (by have := HMZ.out;omega)).mono fun e w2 ⟨he,hb⟩ => ⟨by rw [he,HMT.out],by rw [hb];exact hw'⟩) | rfl | exact ⟨rfl,rfl⟩))
 simp only [Act.put,sA,sB,sC]
 iterate 4 ((with_reducible refine quiet_yes ?hw ?_);(case hw => kernel_rfl);apply Exists.intro;refine ⟨fun w' hw' => ?_,?_⟩;(have hc := below_cells hw';unfold Oper.quietAt;go_simp;first | done | (with_reducible rfl) | (with_reducible exact ⟨rfl,rfl⟩) | (go_at_call 54;exact (groatref15_Right.at m _ (by have := HMZ.out;omega)).mono fun e w2 ⟨he,hb⟩ => ⟨by rw [he,HMT.out],by rw [hb];exact hw'⟩) | rfl | exact ⟨rfl,rfl⟩))
 simp only [Act.put,sA,sB,sC]
 iterate 4 ((with_reducible refine quiet_yes ?hw ?_);(case hw => kernel_rfl);apply Exists.intro;refine ⟨fun w' hw' => ?_,?_⟩;(have hc := below_cells hw';unfold Oper.quietAt;go_simp;first | done | (with_reducible rfl) | (with_reducible exact ⟨rfl,rfl⟩) | (go_at_call 54;exact (groatref15_Right.at m _ (by have := HMZ.out;omega)).mono fun e w2 ⟨he,hb⟩ => ⟨by rw [he,HMT.out],by rw [hb];exact hw'⟩) | rfl | exact ⟨rfl,rfl⟩))
 simp only [Act.put,sA,sB,sC]
 iterate 2 ((with_reducible refine quiet_yes ?hw ?_);(case hw => kernel_rfl);apply Exists.intro;refine ⟨fun w' hw' => ?_,?_⟩;(have hc := below_cells hw';unfold Oper.quietAt;go_simp;first | done | (with_reducible rfl) | (with_reducible exact ⟨rfl,rfl⟩) | (go_at_call 54;exact (groatref15_Right.at m _ (by have := HMZ.out;omega)).mono fun e w2 ⟨he,hb⟩ => ⟨by rw [he,HMT.out],by rw [hb];exact hw'⟩) | rfl | exact ⟨rfl,rfl⟩))
 simp only [Act.put,sA,sB,sC]
 refine wpQuiet_nil ?_
 intro wq hw'
 have D_ := aS (D.out.step hw');clear hw' D a0 a1 a2 b0 b1 c0 c1 f0 f1;have D := D_;clear D_;obtain ⟨a0,a1,a2⟩ := cells_3 D.out.h1;obtain ⟨b0,b1⟩ := cells_2 D.out.h2;obtain ⟨c0,c1⟩ := cells_2 D.out.h3;obtain ⟨f0,f1⟩ := froz_2 D.out.h3
 go_wp2
 clear a0 a1 a2 b0 b1 c0 c1 f0 f1 e3
 go_loopg [5,6] xs.length (fun g v5 v6 w' => ∃ (i : Nat) (last : Int),v5 = .int .i64 last ∧ v6 = .int .i64 i ∧ i + g = xs.length ∧ Aside0 (fieldsOk l 0 xs = fieldsOk l last (xs.drop i)) ∧ Aside0 (Box3 w w' (.cells #[.int .i64 st,.int .i64 ver,.slice A l.length c] 24) (.cells #[.string m,.slice A2 xs.length c2] 42) (.cells #[.int .i64 0,.int .i64 0] 45)))
 case atStart => exact ⟨0,0,rfl,rfl,Nat.zero_add _,⟨rfl⟩,D⟩
 case round =>
  clear D
  obtain ⟨i,last,rfl,rfl,hi,HF,D⟩ := hrel
  obtain ⟨a0,a1,a2⟩ := cells_3 D.out.h1;obtain ⟨b0,b1⟩ := cells_2 D.out.h2;obtain ⟨c0,c1⟩ := cells_2 D.out.h3;obtain ⟨f0,f1⟩ := froz_2 D.out.h3
  by_cases h : i < xs.length
  ·obtain ⟨g,rfl⟩ : ∃ g,gk = g + 1 := ⟨gk - 1,by omega⟩
   have e0 : decide ((i : Int) < xs.length) = true := d_T (by omega)
   obtain ⟨ad2,rfl,hx0,hx1⟩ := at63 HR2.out D.out.below i h
   have HX0 : Aside0 (∀ W,Below w.heap.size w W → W.cell? (ad2.add (i * 2)) = some (.int .i64 (rd_T63 xs (i : Int)).f0) ∧ W.cell? ⟨(ad2.add (i * 2)).block,(ad2.add (i * 2)).off + 1,none⟩ = some (.string (rd_T63 xs (i : Int)).f1)) := ⟨fun W hb => by obtain ⟨ad3,e,h0,h1⟩ := at63 HR2.out hb i h;cases e;exact ⟨h0,h1⟩⟩
   have q0 : (0 ≤ (i : Int)) = True := eq_true (by omega)
   have q1 : ((i : Int) < xs.length) = True := eq_true (by omega)
   have hmx : rd_T63 xs (i : Int) ∈ xs := by
    have : rd_T63 xs (i : Int) = xs[i] := by simp [rd_T63,List.getD_eq_getElem?_getD,h]
    rw [this];exact List.getElem_mem h
   have HXZ := aS (HXS.out _ hmx)
   have hf := HF.out
   rw [drop63 h,fieldsOk] at hf
   clear HF hmx
   generalize rd_T63 xs (i : Int) = x at *
   have HI := aS hi
   have HH := aS h
   clear hi h
   by_cases k1 : x.f0 ≤ last
   ·have e1 : decide (x.f0 ≤ last) = true := d_T k1
    have HB : Aside0 (fieldsOk l 0 xs = false) := ⟨by rw [hf,d_F (by omega)];rfl⟩
    clear hf k1
    go_wp2
    refine bodyPost_ret (results_cell_row rfl _ _ (w.heap.size + 1 + 1) 45 _ (0,0) _ rfl (blk_put (blk_put D.out.h3 0 _ rfl) 1 _ rfl) hu45 rfl (by kernel_rfl)) rfl ?_
    exact ⟨⟨_,_,rfl,.inr ⟨by decide,by rw [HMO2.out,HB.out]⟩⟩,below45 D.out.below⟩
   have e1 : decide (x.f0 ≤ last) = false := d_F k1
   rw [d_T (show last < x.f0 by omega),Bool.true_and] at hf
   clear k1
   rcases placeS_cases x.f0 l with ⟨f4,f5⟩ | ⟨k,f4,f5,f6⟩
   ·have HB : Aside0 (fieldsOk l 0 xs = false) := ⟨by rw [hf,f5];rfl⟩
    have HPL := aS f4
    clear hf f4 f5
    go_wp2_with (first | (go_at_call 56;refine (groatref13_Find.at st ver A c l _ _ HLL.out (c_B HR.out D.out.below) HC.out).mono ?_;rintro e w2 ⟨rfl,hw'⟩;rw [HPL.out];have D_ := aS (D.out.step hw');clear hw' D a0 a1 a2 b0 b1 c0 c1 f0 f1;have D := D_;clear D_;obtain ⟨a0,a1,a2⟩ := cells_3 D.out.h1;obtain ⟨b0,b1⟩ := cells_2 D.out.h2;obtain ⟨c0,c1⟩ := cells_2 D.out.h3;obtain ⟨f0,f1⟩ := froz_2 D.out.h3))
    refine bodyPost_ret (results_cell_row rfl _ _ (w.heap.size + 1 + 1) 45 _ (0,0) _ rfl (blk_put (blk_put D.out.h3 0 _ rfl) 1 _ rfl) hu45 rfl (by kernel_rfl)) rfl ?_
    exact ⟨⟨_,_,rfl,.inr ⟨by decide,by rw [HMO2.out,HB.out]⟩⟩,below45 D.out.below⟩
   obtain ⟨ad,rfl,_⟩ := at87 HR.out D.out.below k f5
   have HY0 : Aside0 (∀ W,Below w.heap.size w W → W.cell? (ad.add (k * 5)) = some (.int .i64 (rd_T87 l (k : Int)).f0) ∧ W.cell? ⟨(ad.add (k * 5)).block,(ad.add (k * 5)).off + 1,none⟩ = some (.int .i64 (rd_T87 l (k : Int)).f1) ∧ W.cell? ⟨(ad.add (k * 5)).block,(ad.add (k * 5)).off + 2,none⟩ = some (.int .i64 (rd_T87 l (k : Int)).f2) ∧ W.cell? ⟨(ad.add (k * 5)).block,(ad.add (k * 5)).off + 3,none⟩ = some (.int .i64 (rd_T87 l (k : Int)).f3) ∧ W.cell? ⟨(ad.add (k * 5)).block,(ad.add (k * 5)).off + 4,none⟩ = some (.int .i64 (rd_T87 l (k : Int)).f4)) := ⟨fun W hb => by obtain ⟨ad3,e,h0⟩ := at87 HR.out hb k f5;cases e;exact h0⟩
   rw [f6] at hf
   have q2 : (0 ≤ (k : Int)) = True := eq_true (by omega)
   have q3 : ((k : Int) < l.length) = True := eq_true (by omega)
   have e2 : decide ((k : Int) < 0) = false := d_F (by omega)
   have HPL := aS f4
   generalize rd_T87 l (k : Int) = y at *
   have HF3 := aS hf
   clear f4 f5 f6 hf
   go_wp2_with (first | (go_at_call 56;refine (groatref13_Find.at st ver (some ad) c l _ _ HLL.out (c_B HR.out D.out.below) HC.out).mono ?_;rintro e w2 ⟨rfl,hw'⟩;rw [HPL.out];have D_ := aS (D.out.step hw');clear hw' D a0 a1 a2 b0 b1 c0 c1 f0 f1;have D := D_;clear D_;obtain ⟨a0,a1,a2⟩ := cells_3 D.out.h1;obtain ⟨b0,b1⟩ := cells_2 D.out.h2;obtain ⟨c0,c1⟩ := cells_2 D.out.h3;obtain ⟨f0,f1⟩ := froz_2 D.out.h3))
   clear hx0 hx1
   obtain ⟨hx0,hx1⟩ := HX0.out _ D.out.below
   obtain ⟨hy0,hy1,hy2,hy3,hy4⟩ := HY0.out _ D.out.below
   refine wp_region_below (by kernel_rfl) (by kernel_rfl) ?_
   iterate 4 ((with_reducible refine quiet_yes ?hw ?_);(case hw => kernel_rfl);apply Exists.intro;refine ⟨fun w' hw' => ?_,?_⟩;(have hc := below_cells hw';unfold Oper.quietAt;go_simp;first | done | (with_reducible rfl) | (with_reducible exact ⟨rfl,rfl⟩) | (go_at_call 64;exact (groatref11_Value.at y x.f1 _ HXZ.out).mono fun e w2 ⟨he,hb⟩ => ⟨he,b_s hw' hb⟩) | rfl | exact ⟨rfl,rfl⟩))
   simp only [Act.put,sA,sB,sC]
   iterate 4 ((with_reducible refine quiet_yes ?hw ?_);(case hw => kernel_rfl);apply Exists.intro;refine ⟨fun w' hw' => ?_,?_⟩;(have hc := below_cells hw';unfold Oper.quietAt;go_simp;first | done | (with_reducible rfl) | (with_reducible exact ⟨rfl,rfl⟩) | (go_at_call 64;exact (groatref11_Value.at y x.f1 _ HXZ.out).mono fun e w2 ⟨he,hb⟩ => ⟨he,b_s hw' hb⟩) | rfl | exact ⟨rfl,rfl⟩))
   simp only [Act.put,sA,sB,sC]
   iterate 4 ((with_reducible refine quiet_yes ?hw ?_);(case hw => kernel_rfl);apply Exists.intro;refine ⟨fun w' hw' => ?_,?_⟩;(have hc := below_cells hw';unfold Oper.quietAt;go_simp;first | done | (with_reducible rfl) | (with_reducible exact ⟨rfl,rfl⟩) | (go_at_call 64;exact (groatref11_Value.at y x.f1 _ HXZ.out).mono fun e w2 ⟨he,hb⟩ => ⟨he,b_s hw' hb⟩) | rfl | exact ⟨rfl,rfl⟩))
   simp only [Act.put,sA,sB,sC]
   iterate 1 ((with_reducible refine quiet_yes ?hw ?_);(case hw => kernel_rfl);apply Exists.intro;refine ⟨fun w' hw' => ?_,?_⟩;(have hc := below_cells hw';unfold Oper.quietAt;go_simp;first | done | (with_reducible rfl) | (with_reducible exact ⟨rfl,rfl⟩) | (go_at_call 64;exact (groatref11_Value.at y x.f1 _ HXZ.out).mono fun e w2 ⟨he,hb⟩ => ⟨he,b_s hw' hb⟩) | rfl | exact ⟨rfl,rfl⟩))
   simp only [Act.put,sA,sB,sC]
   refine wpQuiet_nil ?_
   intro wq hw'
   have D_ := aS (D.out.step hw');clear hw' D a0 a1 a2 b0 b1 c0 c1 f0 f1;have D := D_;clear D_;obtain ⟨a0,a1,a2⟩ := cells_3 D.out.h1;obtain ⟨b0,b1⟩ := cells_2 D.out.h2;obtain ⟨c0,c1⟩ := cells_2 D.out.h3;obtain ⟨f0,f1⟩ := froz_2 D.out.h3
   clear hx0 hx1 hy0 hy1 hy2 hy3 hy4
   obtain ⟨v,hv⟩ : ∃ v,specValue y x.f1 = v := ⟨_,rfl⟩
   rw [hv] at HF3 ⊢
   clear hv
   by_cases k4 : v = 0
   ·have b1 : (v != 0) = false := bne_eq_false_iff_eq.mpr k4
    have HF4 : Aside0 (fieldsOk l 0 xs = fieldsOk l x.f0 (xs.drop (i + 1))) := ⟨by rw [HF3.out,d_T k4];rfl⟩
    clear k4
    go_wp2
    go_roundg g
    case rel => exact ⟨i + 1,x.f0,rfl,by have := HX.out;have := HH.out;congr 1;unfold wrap64;omega,by have := HI.out;omega,HF4,D⟩
    case measure => have := HI.out;omega
   ·have b1 : (v != 0) = true := bne_iff_ne.mpr k4
    have HK4 := aS k4
    have HB : Aside0 (fieldsOk l 0 xs = false) := ⟨by rw [HF3.out,d_F k4];rfl⟩
    clear k4
    go_wp2
    refine bodyPost_ret (results_cell_row rfl _ _ (w.heap.size + 1 + 1) 45 _ (0,0) _ rfl (blk_put (blk_put D.out.h3 0 _ rfl) 1 _ rfl) hu45 rfl (by kernel_rfl)) rfl ?_
    exact ⟨⟨_,_,rfl,.inr ⟨HK4.out,by rw [HMO2.out,HB.out]⟩⟩,below45 D.out.below⟩
  ·have e0 : decide ((i : Int) < xs.length) = false := d_F (by omega)
   have hf := HF.out
   rw [List.drop_of_length_le (by omega),fieldsOk] at hf
   have HF2 := aS hf
   clear hf
   go_wp2
   refine bodyPost_ret (results_cell_row rfl _ _ (w.heap.size + 1 + 1) 45 _ (0,0) _ rfl (blk_put (blk_put D.out.h3 0 _ rfl) 1 _ rfl) hu45 rfl (by kernel_rfl)) rfl ?_
   exact ⟨⟨_,_,rfl,.inl ⟨rfl,rfl,by rw [HMO2.out,HF2.out]⟩⟩,below45 D.out.below⟩
def answerS (s : Sd) (most : Int) (m : ByteArray) (fs : List S63) (err : Int) : Int × ByteArray :=
 if reqM m = true then (if encS s.st s.l (respM m) (buildS fs s.echo s.cs err) = ⟨#[]⟩ then (3,⟨#[]⟩) else if most < ((encS s.st s.l (respM m) (buildS fs s.echo s.cs err)).size : Int) then (3,⟨#[]⟩) else (2,encS s.st s.l (respM m) (buildS fs s.echo s.cs err))) else (3,⟨#[]⟩)
def sdV (s : Sd) (p : Ad) : Array Value := #[.int .i64 s.st,.int .i64 s.ver,.slice p.A1 s.l.length p.c1,.slice p.Am s.ms.length p.cm,.slice p.Ar s.rs.length p.cr,.slice p.Ae s.echo.length p.ce,.slice p.Ac s.cs.length p.cc]
set_option maxHeartbeats 4000000 in
theorem route_answer_no.at (s : Sd) (p : Ad) (most : Int) (m : ByteArray) (Am : Option Addr) (cm : Nat) (fs : List S63) (err fld : Int) (g1 g0 : Nat) (w : World) (hq : reqM m = false)
  (h1 : w.heap[g1]? = some (.cells (sdV s p) 32 (0,0))) :
  Calls prog 31 #[.agg #[.string m,.slice Am fs.length cm],.agg #[.int .i64 err,.int .i64 fld],.pointer (some ⟨g1,0,none⟩),.pointer (some ⟨g0,0,none⟩)] w fun e w' => e = .returned (.tuple #[.int .i64 3,.string ⟨#[]⟩]) ∧ Below w.heap.size w w' := by
 have hu35 := underlying35
 have hu32 := underlying32
 have hu24 := underlying24
 have hu42 := underlying42
 have hu45 := underlying45
 unfold sdV at h1
 obtain ⟨x0,x1,x2,x3,x4,x5,x6⟩ := cells_7 (k_B h1 (Box2.start w (.cells #[.string m,.slice Am fs.length cm] 42) (.cells #[.int .i64 err,.int .i64 fld] 45)).below)
 have H1 := aS h1
 clear h1
 go_enter func31,ntmps31
 go_wp2_with (first | (go_at_call 14;refine (reject_Build_no.at _ _ _ _ _ _ _ m _ err fld _ ⟨⟨_,_,_,rfl⟩,⟨_,_,_,rfl⟩,⟨_,_,_,rfl⟩,⟨_,_,_,rfl⟩,⟨_,_,_,rfl⟩,⟨_,_,_,rfl⟩⟩ hq).mono ?_;rintro e w1 ⟨rfl,hb1⟩;have D := aS (Box2.init hb1);clear hb1))
 all_goals go_ret2
 all_goals exact ⟨rfl,b_s D.out.below (bO _)⟩
set_option maxHeartbeats 4000000 in
theorem route_answer_yes.at (s : Sd) (p : Ad) (most : Int) (m : ByteArray) (Am : Option Addr) (cm : Nat) (fs : List S63) (err fld : Int) (g1 g0 : Nat) (w : World) (hq : reqM m = true)
  (h1 : w.heap[g1]? = some (.cells (sdV s p) 32 (0,0))) (h0 : w.cell? ⟨g0,14,none⟩ = some (.int .i64 most)) (hA : SdAt w s p)
  (hle : s.echo.length ≤ 1000) (hlc : s.cs.length ≤ 1000) (hlm : fs.length ≤ 1000000) (hlb : (buildS fs s.echo s.cs err).length ≤ 1000000) (hrm : Kd.C k63 w Am fs.length fs) (hcm : fs.length ≤ cm)
  (hmo : msgOk s.st s.ver s.l (respM m) (buildS fs s.echo s.cs err) = true) :
  Calls prog 31 #[.agg #[.string m,.slice Am fs.length cm],.agg #[.int .i64 err,.int .i64 fld],.pointer (some ⟨g1,0,none⟩),.pointer (some ⟨g0,0,none⟩)] w fun e w' => e = .returned (.tuple #[.int .i64 (answerS s most m fs err).1,.string (answerS s most m fs err).2]) ∧ Below w.heap.size w w' := by
 have hu35 := underlying35
 have hu32 := underlying32
 have hu24 := underlying24
 have hu42 := underlying42
 have hu45 := underlying45
 unfold answerS
 rw [if_pos hq]
 unfold sdV at h1
 obtain ⟨x0,x1,x2,x3,x4,x5,x6⟩ := cells_7 (k_B h1 (Box2.start w (.cells #[.string m,.slice Am fs.length cm] 42) (.cells #[.int .i64 err,.int .i64 fld] 45)).below)
 have H1 := aS h1
 have H0 := aS (fun (W : World) (hb : Below w.heap.size w W) => (hb.cell (World.block_lt_of_cell? w _ h0)).trans h0)
 have HA := aS hA
 have HRM := aS hrm
 have HMO := aS hmo
 have HLB := aS hlb
 clear h1 h0 hA hrm hmo hlb
 generalize hbs : buildS fs s.echo s.cs err = bs at *
 have HBS := aS hbs
 clear hbs
 generalize henc : encS s.st s.l (respM m) bs = b at *
 have HENC := aS henc
 clear henc
 have e0 : (⟨#[]⟩ : ByteArray).toList = [] := by first | rfl | decide | simp
 have key : ∃ r t,(if b = ⟨#[]⟩ then ((3 : Int),(⟨#[]⟩ : ByteArray)) else if most < (b.size : Int) then (3,⟨#[]⟩) else (2,b)) = (r,t) ∧ ((b.toList = [] ∨ most < (b.size : Int)) → r = 3 ∧ t = ⟨#[]⟩) ∧ (¬ b.toList = [] → (b.size : Int) ≤ most → r = 2 ∧ t = b) := by
  split
  ·rename_i h
   exact ⟨_,_,rfl,fun _ => ⟨rfl,rfl⟩,fun h' => absurd (by rw [h];exact e0) h'⟩
  ·rename_i h
   have h' : ¬ b.toList = [] := fun hb => h (toL_inj (hb.trans e0.symm))
   split
   ·exact ⟨_,_,rfl,fun _ => ⟨rfl,rfl⟩,fun _ _ => by omega⟩
   ·rename_i h2
    exact ⟨_,_,rfl,fun h3 => (h3.elim (fun a => absurd a h') (fun a => absurd a h2)),fun _ _ => ⟨rfl,rfl⟩⟩
 clear e0
 obtain ⟨r,t,e,hk0⟩ := key
 rw [e]
 clear e
 have HK := aS hk0
 clear hk0
 go_enter func31,ntmps31
 go_wp2_with (first | (go_at_call 14;refine (reject_Build.at s.st s.ver _ _ _ p.Ae p.ce s.echo p.Ac p.cc s.cs m Am cm fs err fld _ ⟨⟨_,_,_,rfl⟩,⟨_,_,_,rfl⟩,⟨_,_,_,rfl⟩⟩ hle (c_B HA.out.re (Box2.start w _ _).below) HA.out.he hlc (c_B HA.out.rc (Box2.start w _ _).below) HA.out.hc hlm (c_B HRM.out (Box2.start w _ _).below) hcm hq).mono ?_;rintro e w1 ⟨⟨A',c',rfl,hc',hr'⟩,hb1⟩;have D := aS (Box2.init hb1);clear hb1 x0 x1 x2 x3 x4 x5 x6;rw [HBS.out] at hr' hc' ⊢;have HR' := aS hr';have HC' := aS hc';clear hr' hc';obtain ⟨x0,x1,x2,x3,x4,x5,x6⟩ := cells_7 (k_B H1.out (b_s D.out.below (b_l (Below.refl _ _) (.cells #[.string (respM m),.slice A' bs.length c'] 42))))) | (go_at_call 12;refine (wire_Encode.at s.st s.ver p.A1 p.c1 s.l (respM m) A' c' bs _ HA.out.n1 (c_B HA.out.r1 (b_s D.out.below (bO _))) HA.out.h1 HLB.out (c_B HR'.out (bO _)) HC'.out HMO.out).mono ?_;rintro e w2 ⟨rfl,hb2⟩;rw [HENC.out];have E := aS (b_s (b_s D.out.below (bO _)) hb2);clear hb2 D x0 x1 x2 x3 x4 x5 x6;have hmost := H0.out _ (b_s E.out (b_l (Below.refl _ _) (.cells #[.int .i64 0,.int .i64 0] 45)))))
 ·rename_i hh
  go_ret2
  obtain ⟨rfl,rfl⟩ := HK.out.1 (.inl hh)
  exact ⟨rfl,b_s E.out (bO _)⟩
 ·rename_i hn hh
  go_ret2
  obtain ⟨rfl,rfl⟩ := HK.out.1 (hh.elim (fun a => .inl (List.isEmpty_iff.1 a)) .inr)
  exact ⟨rfl,b_s E.out (bO _)⟩
 ·rename_i hn hh
  go_ret2
  obtain ⟨rfl,rfl⟩ := HK.out.2 hn hh.2
  exact ⟨rfl,b_s E.out (bO _)⟩
theorem fieldsOk_len {l : List S87} (hl : ∀ x ∈ l,specCheck x = 0) : ∀ {xs : List S63} {last : Int},last ≤ 128 → fieldsOk l last xs = true → last + xs.length ≤ 128
 | [],last,h,_ => by simpa using h
 | x :: xs,last,h,hf => by
  obtain ⟨h1,h2,h3,h4⟩ := fieldsOk_cons hf
  have h5 := (fieldsOk_memE hl _ _ hf x (by simp)).1.2
  have := fieldsOk_len hl h5 h4
  simp only [List.length_cons]
  omega
theorem decG_len {st ver : Int} {l : List S87} {b : ByteArray} (hs : (schemaCheck st ver l).1 = 0) : (decG st ver l b).1.2.length ≤ 128 := by
 have := fieldsOk_len (schemaCheck_ok hs).2.2 (by omega) (decG_fields (b := b) hs)
 omega
theorem msgOk_len {st ver : Int} {l : List S87} {m : ByteArray} {xs : List S63} (h : msgOk st ver l m xs = true) : xs.length ≤ 128 := by
 unfold msgOk at h
 simp only [Bool.and_eq_true,decide_eq_true_eq] at h
 have := fieldsOk_len (schemaCheck_ok h.1).2.2 (by omega) h.2.2
 omega
theorem rd_nat {l : List Int} {x : Int} (h : x ∈ l) : ∃ j : Nat,j < l.length ∧ rd l (j : Int) = x := by
 obtain ⟨j,hj,e⟩ := List.getElem_of_mem h
 exact ⟨j,hj,by simp [rd,List.getD_eq_getElem?_getD,List.getElem?_eq_getElem hj,e]⟩
theorem rd_nat129 {l : List S129} {x : S129} (h : x ∈ l) : ∃ j : Nat,j < l.length ∧ rd_T129 l (j : Int) = x := by
 obtain ⟨j,hj,e⟩ := List.getElem_of_mem h
 exact ⟨j,hj,by simp [rd_T129,List.getD_eq_getElem?_getD,List.getElem?_eq_getElem hj,e]⟩
theorem sideOk_of {st ver : Int} {l : List S87} {echo : List Int} {cs : List S129} (h : sideR st ver l echo cs) : sideOk st ver l echo cs := by
 obtain ⟨h1,h2,h3,h4,h5⟩ := h
 refine ⟨h1,h2,fun no hn => ?_,fun c hc => ?_,h5⟩
 ·obtain ⟨j,hj,rfl⟩ := rd_nat hn
  exact (h3 j hj).1
 ·obtain ⟨j,hj,rfl⟩ := rd_nat129 hc
  exact (h4 j hj).2.2
theorem route_answer.at (s : Sd) (p : Ad) (most : Int) (m : ByteArray) (Am : Option Addr) (cm : Nat) (fs : List S63) (err fld : Int) (g1 g0 : Nat) (w : World)
  (h1 : w.heap[g1]? = some (.cells (sdV s p) 32 (0,0))) (h0 : w.cell? ⟨g0,14,none⟩ = some (.int .i64 most)) (hA : SdAt w s p)
  (hle : s.echo.length ≤ 1000) (hlc : s.cs.length ≤ 1000) (hlm : fs.length ≤ 1000000) (hrm : Kd.C k63 w Am fs.length fs) (hcm : fs.length ≤ cm)
  (hmo : reqM m = true → msgOk s.st s.ver s.l (respM m) (buildS fs s.echo s.cs err) = true) :
  Calls prog 31 #[.agg #[.string m,.slice Am fs.length cm],.agg #[.int .i64 err,.int .i64 fld],.pointer (some ⟨g1,0,none⟩),.pointer (some ⟨g0,0,none⟩)] w fun e w' => e = .returned (.tuple #[.int .i64 (answerS s most m fs err).1,.string (answerS s most m fs err).2]) ∧ Below w.heap.size w w' := by
 rcases hq : reqM m with _ | _
 ·refine (route_answer_no.at s p most m Am cm fs err fld g1 g0 w hq h1).mono ?_
  rintro e w' ⟨rfl,hb⟩
  refine ⟨?_,hb⟩
  unfold answerS
  rw [if_neg (by rw [hq];exact Bool.false_ne_true)]
 ·refine route_answer_yes.at s p most m Am cm fs err fld g1 g0 w hq h1 h0 hA hle hlc hlm ?_ hrm hcm (hmo hq)
  have h2 : ∀ (l : List Int) (acc : List S63),(echoS fs l acc).length ≤ acc.length + l.length := by
   intro l
   induction l with
   | nil => intro acc;exact Nat.le_refl _
   | cons x l ih =>
    intro acc
    rw [echoS]
    refine Nat.le_trans (ih _) ?_
    split
    ·have := withM_len x (getS x fs).1 acc
     simp only [List.length_cons]
     omega
    ·simp only [List.length_cons]
     omega
  have h3 := withM_len 39 (rejCode s.cs err) (echoS fs s.echo [])
  have h4 := h2 s.echo []
  unfold buildS
  simp only [List.length_nil] at h4
  omega
section
attribute [local go_sem] wr1_7 wr0_7
theorem froz_7 {w : World} {g : Nat} {t : TypeId} {cs : Array Value} (h : w.heap[g]? = some (.cells cs t (0,0))) : w.frozen? ⟨g,0,none⟩ = false ∧ w.frozen? ⟨g,1,none⟩ = false ∧ w.frozen? ⟨g,2,none⟩ = false ∧ w.frozen? ⟨g,3,none⟩ = false ∧ w.frozen? ⟨g,4,none⟩ = false ∧ w.frozen? ⟨g,5,none⟩ = false ∧ w.frozen? ⟨g,6,none⟩ = false := ⟨blk_frozen h 0,blk_frozen h 1,blk_frozen h 2,blk_frozen h 3,blk_frozen h 4,blk_frozen h 5,blk_frozen h 6⟩
set_option maxHeartbeats 4000000 in
theorem put7 {W : World} {B B0 : Nat} {t : TypeId} {v0 v1 v2 v3 v4 v5 v6 : Value} (h : W.heap[B]? = some (.cells #[v0,v1,v2,v3,v4,v5,v6] t (0,0))) (hB : B0 ≤ B) (u0 u1 u2 u3 u4 u5 u6 : Value) :
  (((((((W.setCell ⟨B,0,none⟩ u0).setCell ⟨B,1,none⟩ u1).setCell ⟨B,2,none⟩ u2).setCell ⟨B,3,none⟩ u3).setCell ⟨B,4,none⟩ u4).setCell ⟨B,5,none⟩ u5).setCell ⟨B,6,none⟩ u6).heap[B]? = some (.cells #[u0,u1,u2,u3,u4,u5,u6] t (0,0)) ∧ Below B0 W (((((((W.setCell ⟨B,0,none⟩ u0).setCell ⟨B,1,none⟩ u1).setCell ⟨B,2,none⟩ u2).setCell ⟨B,3,none⟩ u3).setCell ⟨B,4,none⟩ u4).setCell ⟨B,5,none⟩ u5).setCell ⟨B,6,none⟩ u6) ∧ (∀ (C : Nat) (o : Obj),W.heap[C]? = some o → C ≠ B → (((((((W.setCell ⟨B,0,none⟩ u0).setCell ⟨B,1,none⟩ u1).setCell ⟨B,2,none⟩ u2).setCell ⟨B,3,none⟩ u3).setCell ⟨B,4,none⟩ u4).setCell ⟨B,5,none⟩ u5).setCell ⟨B,6,none⟩ u6).heap[C]? = some o) :=
 ⟨(blk_put (blk_put (blk_put (blk_put (blk_put (blk_put (blk_put h 0 _ rfl) 1 _ rfl) 2 _ rfl) 3 _ rfl) 4 _ rfl) 5 _ rfl) 6 _ rfl),(Below.setCell (Below.setCell (Below.setCell (Below.setCell (Below.setCell (Below.setCell (Below.setCell (Below.refl _ _) (p := ⟨B,0,none⟩) hB _) (p := ⟨B,1,none⟩) hB _) (p := ⟨B,2,none⟩) hB _) (p := ⟨B,3,none⟩) hB _) (p := ⟨B,4,none⟩) hB _) (p := ⟨B,5,none⟩) hB _) (p := ⟨B,6,none⟩) hB _),fun C o h2 hne => (T.far _ _ (T.far _ _ (T.far _ _ (T.far _ _ (T.far _ _ (T.far _ _ (T.far _ _ h2 hne) hne) hne) hne) hne) hne) hne)⟩
def post4 (hv tv : Value) (g0 oh ot : Nat) (lk : Int) (B0 : Nat) (ca : Array Value) : Nat → Value → World → Prop
 | 0,v,_ => v = .int .i64 lk
 | 1,v,_ => v = .pointer (some ⟨g0,0,none⟩)
 | 2,v,_ => v = .pointer (some ⟨g0,oh,none⟩)
 | 3,v,_ => v = hv
 | 4,v,_ => v = .int .i64 lk
 | 5,v,_ => v = .int .i64 (1 - lk)
 | 6,v,_ => v = .pointer (some ⟨g0,0,none⟩)
 | 7,v,_ => v = .pointer (some ⟨g0,ot,none⟩)
 | 8,v,_ => v = tv
 | 9,v,w => ∃ B,v = .pointer (some ⟨B,0,none⟩) ∧ B0 ≤ B ∧ w.heap[B]? = some (.cells ca 32 (0,0))
 | _,v,w => ∃ B,v = .pointer (some ⟨B,0,none⟩) ∧ B0 ≤ B ∧ w.heap[B]? = some (.cells #[.int .i64 0,.int .i64 0,.slice none 0 0,.slice none 0 0,.slice none 0 0,.slice none 0 0,.slice none 0 0] 32 (0,0))
def rel4 (i j : Nat) (u v : Value) : Prop := (i = 9 ∧ j = 10 ∨ i = 10 ∧ j = 9) → u ≠ v
def dst4 (i : Nat) : Tmp := [35,36,37,38,39,40,41,42,43,11,12].getD i 0
def done4 (i : Nat) : Bool := [true,true,true,true,false,false,false,false,false,true,true].getD i false
theorem post4_st {hv tv : Value} {g0 oh ot : Nat} {lk : Int} {B0 : Nat} {ca : Array Value} (i : Nat) (u : Value) (W W' : World) (hp : post4 hv tv g0 oh ot lk B0 ca i u W) (hb : Below W.heap.size W W') : post4 hv tv g0 oh ot lk B0 ca i u W' := by
 match i,hp with
 | 0,hp => exact hp
 | 1,hp => exact hp
 | 2,hp => exact hp
 | 3,hp => exact hp
 | 4,hp => exact hp
 | 5,hp => exact hp
 | 6,hp => exact hp
 | 7,hp => exact hp
 | 8,hp => exact hp
 | 9,hp => obtain ⟨B,e1,e2,e3⟩ := hp;exact ⟨B,e1,e2,k_B e3 hb⟩
 | n + 10,hp => obtain ⟨B,e1,e2,e3⟩ := hp;exact ⟨B,e1,e2,k_B e3 hb⟩
def outS (s t : Sd) (most : Int) (b : ByteArray) : Int × ByteArray :=
 if (decG s.st s.ver s.l b).2.1 ≠ 0 then answerS s most (decG s.st s.ver s.l b).1.1 (decG s.st s.ver s.l b).1.2 (decG s.st s.ver s.l b).2.1 else
 if (transS s.ms s.rs t.l (decG s.st s.ver s.l b).1.1 (decG s.st s.ver s.l b).1.2).2.1 ≠ 0 then answerS s most (decG s.st s.ver s.l b).1.1 (decG s.st s.ver s.l b).1.2 (transS s.ms s.rs t.l (decG s.st s.ver s.l b).1.1 (decG s.st s.ver s.l b).1.2).2.1 else
 if most < ((encS t.st t.l (transS s.ms s.rs t.l (decG s.st s.ver s.l b).1.1 (decG s.st s.ver s.l b).1.2).1.1 (transS s.ms s.rs t.l (decG s.st s.ver s.l b).1.1 (decG s.st s.ver s.l b).1.2).1.2).size : Int) then answerS s most (decG s.st s.ver s.l b).1.1 (decG s.st s.ver s.l b).1.2 5 else
 (1,encS t.st t.l (transS s.ms s.rs t.l (decG s.st s.ver s.l b).1.1 (decG s.st s.ver s.l b).1.2).1.1 (transS s.ms s.rs t.l (decG s.st s.ver s.l b).1.1 (decG s.st s.ver s.l b).1.2).1.2)
set_option maxHeartbeats 4000000 in
theorem route_Outcome_0.at (s t : Sd) (p q : Ad) (most : Int) (b : ByteArray) (w : World) (h1 : SdAt w s p) (h2 : SdAt w t q) (hk : cfgK s t most) (hsz : b.size ≤ 100000) (hside : sideOk s.st s.ver s.l s.echo s.cs) (hle : s.echo.length ≤ 1000) (hlc : s.cs.length ≤ 1000) (hxl : (decG s.st s.ver s.l b).1.2.length ≤ 1000) :
  Calls prog 9 #[.agg #[.int .i64 s.st,.int .i64 s.ver,.slice p.A1 s.l.length p.c1,.slice p.Am s.ms.length p.cm,.slice p.Ar s.rs.length p.cr,.slice p.Ae s.echo.length p.ce,.slice p.Ac s.cs.length p.cc,.int .i64 t.st,.int .i64 t.ver,.slice q.A1 t.l.length q.c1,.slice q.Am t.ms.length q.cm,.slice q.Ar t.rs.length q.cr,.slice q.Ae t.echo.length q.ce,.slice q.Ac t.cs.length q.cc,.int .i64 most],.int .i64 0,.string b] w fun e w' => e = .returned (.tuple #[.int .i64 (outS s t most b).1,.string (outS s t most b).2]) ∧ Below w.heap.size w w' := by
 have hu35 := underlying35
 have hu33 := underlying33
 have hu32 := underlying32
 have hu28 := underlying28
 have hu24 := underlying24
 have hu42 := underlying42
 have hu45 := underlying45
 have HS := aS h1
 have HT := aS h2
 have HK := aS hk
 have HSI := aS hside
 have HXL := aS hxl
 clear h1 h2 hk hside hxl
 have HMO : Aside0 (∀ e,reqM (decG s.st s.ver s.l b).1.1 = true → msgOk s.st s.ver s.l (respM (decG s.st s.ver s.l b).1.1) (buildS (decG s.st s.ver s.l b).1.2 s.echo s.cs e) = true) := ⟨fun e hq => build_msgOk HSI.out hq e⟩
 obtain ⟨o,ho⟩ : ∃ o,outS s t most b = o := ⟨_,rfl⟩
 rw [ho]
 unfold outS at ho
 have HO := aS ho
 clear ho
 have HDE : Aside0 (∀ W,Below w.heap.size w W → Calls prog 10 #[.agg #[.int .i64 s.st,.int .i64 s.ver,.slice p.A1 s.l.length p.c1],.string b] W fun e w' => (∃ A' c',e = .returned (.tuple #[.agg #[.string (decG s.st s.ver s.l b).1.1,.slice A' (decG s.st s.ver s.l b).1.2.length c'],.agg #[.int .i64 (decG s.st s.ver s.l b).2.1,.int .i64 (decG s.st s.ver s.l b).2.2]]) ∧ (decG s.st s.ver s.l b).1.2.length ≤ c' ∧ Kd.C k63 w' A' (decG s.st s.ver s.l b).1.2.length (decG s.st s.ver s.l b).1.2) ∧ Below W.heap.size W w') := ⟨fun W hb => strict_Decode.at s.st s.ver p.A1 p.c1 s.l b W HS.out.n1 (c_B HS.out.r1 hb) HS.out.h1 HSI.out.1 hsz⟩
 have HDM : Aside0 ((decG s.st s.ver s.l b).2.1 = 0 → msgOk s.st s.ver s.l (decG s.st s.ver s.l b).1.1 (decG s.st s.ver s.l b).1.2 = true) := ⟨fun h => decG_msgOk HSI.out.1 h⟩
 generalize decG s.st s.ver s.l b = d at *
 obtain ⟨⟨m,xs⟩,ec,ef⟩ := d
 simp only at *
 obtain ⟨c0_,c1_,c2_,c3_,c4_,c5_,c6_,c7_,c8_,c9_,c10_,c11_,c12_,c13_,c14_⟩ := cells_15 (Box1.start w (.cells #[.int .i64 s.st,.int .i64 s.ver,.slice p.A1 s.l.length p.c1,.slice p.Am s.ms.length p.cm,.slice p.Ar s.rs.length p.cr,.slice p.Ae s.echo.length p.ce,.slice p.Ac s.cs.length p.cc,.int .i64 t.st,.int .i64 t.ver,.slice q.A1 t.l.length q.c1,.slice q.Am t.ms.length q.cm,.slice q.Ar t.rs.length q.cr,.slice q.Ae t.echo.length q.ce,.slice q.Ac t.cs.length q.cc,.int .i64 most] 35)).h1
 go_enter func9,ntmps9
 go_wp2_with (first | (go_at_call 30;refine (route_Check.at s t p q most _ (HS.out.step (Box1.start w _).below) (HT.out.step (Box1.start w _).below) HK.out).mono ?_;rintro e w1 ⟨rfl,hb1⟩;have D := aS ((Box1.start w (.cells #[.int .i64 s.st,.int .i64 s.ver,.slice p.A1 s.l.length p.c1,.slice p.Am s.ms.length p.cm,.slice p.Ar s.rs.length p.cr,.slice p.Ae s.echo.length p.ce,.slice p.Ac s.cs.length p.cc,.int .i64 t.st,.int .i64 t.ver,.slice q.A1 t.l.length q.c1,.slice q.Am t.ms.length q.cm,.slice q.Ar t.rs.length q.cr,.slice q.Ae t.echo.length q.ce,.slice q.Ac t.cs.length q.cc,.int .i64 most] 35)).step hb1);clear hb1 c0_ c1_ c2_ c3_ c4_ c5_ c6_ c7_ c8_ c9_ c10_ c11_ c12_ c13_ c14_;obtain ⟨c0_,c1_,c2_,c3_,c4_,c5_,c6_,c7_,c8_,c9_,c10_,c11_,c12_,c13_,c14_⟩ := cells_15 D.out.h1))
 refine region_split (by kernel_rfl) (fun wr hbr hsr => ?_)
 have D_ := aS (D.out.step hbr)
 clear D hbr c0_ c1_ c2_ c3_ c4_ c5_ c6_ c7_ c8_ c9_ c10_ c11_ c12_ c13_ c14_
 have D := D_
 clear D_
 refine wpAny_split 11 dst4 (post4 (.agg #[.int .i64 s.st,.int .i64 s.ver,.slice p.A1 s.l.length p.c1,.slice p.Am s.ms.length p.cm,.slice p.Ar s.rs.length p.cr,.slice p.Ae s.echo.length p.ce,.slice p.Ac s.cs.length p.cc]) (.agg #[.int .i64 t.st,.int .i64 t.ver,.slice q.A1 t.l.length q.c1,.slice q.Am t.ms.length q.cm,.slice q.Ar t.rs.length q.cr,.slice q.Ae t.echo.length q.ce,.slice q.Ac t.cs.length q.cc]) w.heap.size 0 7 0 wr.heap.size #[.int .i64 0,.int .i64 0,.slice none 0 0,.slice none 0 0,.slice none 0 0,.slice none 0 0,.slice none 0 0]) (post4 (.agg #[.int .i64 s.st,.int .i64 s.ver,.slice p.A1 s.l.length p.c1,.slice p.Am s.ms.length p.cm,.slice p.Ar s.rs.length p.cr,.slice p.Ae s.echo.length p.ce,.slice p.Ac s.cs.length p.cc]) (.agg #[.int .i64 t.st,.int .i64 t.ver,.slice q.A1 t.l.length q.c1,.slice q.Am t.ms.length q.cm,.slice q.Ar t.rs.length q.cr,.slice q.Ae t.echo.length q.ce,.slice q.Ac t.cs.length q.cc]) w.heap.size 0 7 0 wr.heap.size #[.int .i64 s.st,.int .i64 s.ver,.slice p.A1 s.l.length p.c1,.slice p.Am s.ms.length p.cm,.slice p.Ar s.rs.length p.cr,.slice p.Ae s.echo.length p.ce,.slice p.Ac s.cs.length p.cc]) rel4 _ wr rfl _ _ rfl rfl (fun i j u v h hij => (h (by omega)).symm) post4_st post4_st ?rlow ?rgrow done4 ?rdone ?rgrow2 ?rinj ?rsz rfl rfl (by decide) (by decide) ⟨⟨11,.chain⟩,by simp,rfl,rfl⟩ ?rall ?rs1 ?rs2 _ _ _ (Nat.le_refl _) ⟨rfl,rfl,fun _ _ => rfl⟩ (Below.refl _ _)
 case rlow =>
  intro i o hi ho
  rcases (show i = 0 ∨ i = 1 ∨ i = 2 ∨ i = 3 ∨ i = 4 ∨ i = 5 ∨ i = 6 ∨ i = 7 ∨ i = 8 ∨ i = 9 ∨ i = 10 by omega) with rfl | rfl | rfl | rfl | rfl | rfl | rfl | rfl | rfl | rfl | rfl <;> (cases ho;exact ⟨rfl,rfl,by decide⟩)
 case rinj =>
  intro i j hi hj
  revert j
  revert i
  decide
 case rsz =>
  intro i hi
  exact Nat.lt_of_lt_of_le ((by decide : ∀ i,i < 11 → dst4 i < 100) i hi) (Nat.le_of_ble_eq_true rfl)
 case rdone =>
  intro i hi hd
  rcases (show i = 0 ∨ i = 1 ∨ i = 2 ∨ i = 3 ∨ i = 4 ∨ i = 5 ∨ i = 6 ∨ i = 7 ∨ i = 8 ∨ i = 9 ∨ i = 10 by omega) with rfl | rfl | rfl | rfl | rfl | rfl | rfl | rfl | rfl | rfl | rfl
  ·exact ⟨⟨0,.phase⟩,by simp,rfl,rfl⟩
  ·exact ⟨⟨1,.phase⟩,by simp,rfl,rfl⟩
  ·exact ⟨⟨2,.phase⟩,by simp,rfl,rfl⟩
  ·exact ⟨⟨3,.phase⟩,by simp,rfl,rfl⟩
  ·cases hd
  ·cases hd
  ·cases hd
  ·cases hd
  ·cases hd
  ·exact ⟨⟨9,.phase⟩,by simp,rfl,rfl⟩
  ·exact ⟨⟨10,.phase⟩,by simp,rfl,rfl⟩
 case rall =>
  intro j hj
  refine ⟨⟨j,.phase⟩,?_,rfl,rfl⟩
  rcases (show j = 0 ∨ j = 1 ∨ j = 2 ∨ j = 3 ∨ j = 4 ∨ j = 5 ∨ j = 6 ∨ j = 7 ∨ j = 8 ∨ j = 9 ∨ j = 10 by omega) with rfl | rfl | rfl | rfl | rfl | rfl | rfl | rfl | rfl | rfl | rfl <;> simp
 case rgrow =>
  intro i o hi ho a W hb hf hp K' hK
  have HK := aS hK
  have HB := aS hb
  have D2 := aS (D.out.step hb)
  clear hK hb D
  rcases (show i = 0 ∨ i = 1 ∨ i = 2 ∨ i = 3 ∨ i = 4 ∨ i = 5 ∨ i = 6 ∨ i = 7 ∨ i = 8 ∨ i = 9 ∨ i = 10 by omega) with rfl | rfl | rfl | rfl | rfl | rfl | rfl | rfl | rfl | rfl | rfl
  ·cases ho
   have e1 : a.tmps[1]? = some (.int .i64 0) := (hf.2.2 1 (by decide)).trans rfl
   clear hp hf
   unfold Oper.wp
   go_simp
   exact HK.out _ _ (Below.refl _ _) rfl (fun _ _ _ _ _ h => by omega)
  ·cases ho
   have e3 : a.tmps[3]? = some (.pointer (some ⟨w.heap.size,0,none⟩)) := (hf.2.2 3 (by decide)).trans rfl
   clear hp hf
   unfold Oper.wp
   go_simp
   exact HK.out _ _ (Below.refl _ _) rfl (fun _ _ _ _ _ h => by omega)
  ·cases ho
   have h0 : a.eval (.tmp 35) = .int .i64 0 := hp ⟨0,.data⟩ (by simp) rfl
   have h1 : a.eval (.tmp 36) = .pointer (some ⟨w.heap.size,0,none⟩) := hp ⟨1,.data⟩ (by simp) rfl
   clear hp hf
   simp only [Act.eval,Array.getD_eq_getD_getElem?] at h0 h1
   unfold Oper.wp
   go_simp
   exact HK.out _ _ (Below.refl _ _) rfl (fun _ _ _ _ _ h => by omega)
  ·cases ho
   have h2 : a.eval (.tmp 37) = .pointer (some ⟨w.heap.size,0,none⟩) := hp ⟨2,.data⟩ (by simp) rfl
   clear hp hf
   simp only [Act.eval,Array.getD_eq_getD_getElem?] at h2
   obtain ⟨c0_,c1_,c2_,c3_,c4_,c5_,c6_,c7_,c8_,c9_,c10_,c11_,c12_,c13_,c14_⟩ := cells_15 D2.out.h1
   unfold Oper.wp
   go_simp
   exact HK.out _ _ (Below.refl _ _) rfl (fun _ _ _ _ _ h => by omega)
  ·cases ho
   have e1 : a.tmps[1]? = some (.int .i64 0) := (hf.2.2 1 (by decide)).trans rfl
   clear hp hf
   unfold Oper.wp
   go_simp
   exact HK.out _ _ (Below.refl _ _) rfl (fun _ _ _ _ _ h => by omega)
  ·cases ho
   have h4 : a.eval (.tmp 39) = .int .i64 0 := hp ⟨4,.data⟩ (by simp) rfl
   clear hp hf
   simp only [Act.eval,Array.getD_eq_getD_getElem?] at h4
   unfold Oper.wp
   go_simp
   exact HK.out _ _ (Below.refl _ _) rfl (fun _ _ _ _ _ h => by omega)
  ·cases ho
   have e3 : a.tmps[3]? = some (.pointer (some ⟨w.heap.size,0,none⟩)) := (hf.2.2 3 (by decide)).trans rfl
   clear hp hf
   unfold Oper.wp
   go_simp
   exact HK.out _ _ (Below.refl _ _) rfl (fun _ _ _ _ _ h => by omega)
  ·cases ho
   have h5 : a.eval (.tmp 40) = .int .i64 (1 - 0) := hp ⟨5,.data⟩ (by simp) rfl
   have h6 : a.eval (.tmp 41) = .pointer (some ⟨w.heap.size,0,none⟩) := hp ⟨6,.data⟩ (by simp) rfl
   clear hp hf
   simp only [Act.eval,Array.getD_eq_getD_getElem?] at h5 h6
   unfold Oper.wp
   go_simp
   exact HK.out _ _ (Below.refl _ _) rfl (fun _ _ _ _ _ h => by omega)
  ·cases ho
   have h7 : a.eval (.tmp 42) = .pointer (some ⟨w.heap.size,7,none⟩) := hp ⟨7,.data⟩ (by simp) rfl
   clear hp hf
   simp only [Act.eval,Array.getD_eq_getD_getElem?] at h7
   obtain ⟨c0_,c1_,c2_,c3_,c4_,c5_,c6_,c7_,c8_,c9_,c10_,c11_,c12_,c13_,c14_⟩ := cells_15 D2.out.h1
   unfold Oper.wp
   go_simp
   exact HK.out _ _ (Below.refl _ _) rfl (fun _ _ _ _ _ h => by omega)
  ·cases ho
   clear hp hf
   unfold Oper.wp
   go_simp
   refine HK.out _ _ (bO _) ⟨_,rfl,HB.out.size,blk_new W _⟩ (fun j v hj hji hpj hj9 => ?_)
   obtain rfl : j = 10 := by omega
   obtain ⟨B,rfl,_,hB⟩ := hpj
   have := blk_lt hB
   intro hE
   have hE2 := congrArg (fun v => match v with | .pointer (some q) => q.block | _ => 0) hE
   have hE3 : W.heap.size = B := hE2
   omega
  ·cases ho
   clear hp hf
   unfold Oper.wp
   go_simp
   refine HK.out _ _ (bO _) ⟨_,rfl,HB.out.size,blk_new W _⟩ (fun j v hj hji hpj hj9 => ?_)
   obtain rfl : j = 9 := by omega
   obtain ⟨B,rfl,_,hB⟩ := hpj
   have := blk_lt hB
   intro hE
   have hE2 := congrArg (fun v => match v with | .pointer (some q) => q.block | _ => 0) hE
   have hE3 : W.heap.size = B := hE2
   omega
 case rgrow2 =>
  intro i o hi ho hd a W hb hf hp K' hK
  have HK := aS hK
  have HB := aS hb
  have D2 := aS (D.out.step hb)
  clear hK hb D
  rcases (show i = 0 ∨ i = 1 ∨ i = 2 ∨ i = 3 ∨ i = 4 ∨ i = 5 ∨ i = 6 ∨ i = 7 ∨ i = 8 ∨ i = 9 ∨ i = 10 by omega) with rfl | rfl | rfl | rfl | rfl | rfl | rfl | rfl | rfl | rfl | rfl
  ·cases hd
  ·cases hd
  ·cases hd
  ·cases hd
  ·cases ho
   have e1 : a.tmps[1]? = some (.int .i64 0) := (hf.2.2 1 (by decide)).trans rfl
   clear hp hf
   unfold Oper.wp
   go_simp
   exact HK.out _ _ (Below.refl _ _) rfl (fun _ _ _ _ _ h => by omega)
  ·cases ho
   have h4 : a.eval (.tmp 39) = .int .i64 0 := hp ⟨4,.data⟩ (by simp) rfl
   clear hp hf
   simp only [Act.eval,Array.getD_eq_getD_getElem?] at h4
   unfold Oper.wp
   go_simp
   exact HK.out _ _ (Below.refl _ _) rfl (fun _ _ _ _ _ h => by omega)
  ·cases ho
   have e3 : a.tmps[3]? = some (.pointer (some ⟨w.heap.size,0,none⟩)) := (hf.2.2 3 (by decide)).trans rfl
   clear hp hf
   unfold Oper.wp
   go_simp
   exact HK.out _ _ (Below.refl _ _) rfl (fun _ _ _ _ _ h => by omega)
  ·cases ho
   have h5 : a.eval (.tmp 40) = .int .i64 (1 - 0) := hp ⟨5,.data⟩ (by simp) rfl
   have h6 : a.eval (.tmp 41) = .pointer (some ⟨w.heap.size,0,none⟩) := hp ⟨6,.data⟩ (by simp) rfl
   clear hp hf
   simp only [Act.eval,Array.getD_eq_getD_getElem?] at h5 h6
   unfold Oper.wp
   go_simp
   exact HK.out _ _ (Below.refl _ _) rfl (fun _ _ _ _ _ h => by omega)
  ·cases ho
   have h7 : a.eval (.tmp 42) = .pointer (some ⟨w.heap.size,7,none⟩) := hp ⟨7,.data⟩ (by simp) rfl
   clear hp hf
   simp only [Act.eval,Array.getD_eq_getD_getElem?] at h7
   obtain ⟨c0_,c1_,c2_,c3_,c4_,c5_,c6_,c7_,c8_,c9_,c10_,c11_,c12_,c13_,c14_⟩ := cells_15 D2.out.h1
   unfold Oper.wp
   go_simp
   exact HK.out _ _ (Below.refl _ _) rfl (fun _ _ _ _ _ h => by omega)
  ·cases hd
  ·cases hd
 case rs1 =>
  intro listed a W hb hf hl hp hr K' hK
  have HB := aS hb
  have l9 := hl ⟨9,.data⟩ (by simp) rfl
  have l3 := hl ⟨3,.data⟩ (by simp) rfl
  have l10 := hl ⟨10,.phase⟩ (by simp) rfl
  have HP := aS hp
  obtain ⟨B,h9,hB,hc9⟩ := hp 9 (by omega) l9
  obtain ⟨C,h10,hC,hc10⟩ := hp 10 (by omega) l10
  have h3 : a.eval (.tmp 38) = .agg #[.int .i64 s.st,.int .i64 s.ver,.slice p.A1 s.l.length p.c1,.slice p.Am s.ms.length p.cm,.slice p.Ar s.rs.length p.cr,.slice p.Ae s.echo.length p.ce,.slice p.Ac s.cs.length p.cc] := hp 3 (by omega) l3
  have hne : C ≠ B := fun h => by
   have := hr 9 10 (by omega) (by omega) (by omega) l9 l10 (.inl ⟨rfl,rfl⟩)
   exact this (by rw [h9,h10,h])
  have HC := aS hc9
  have HC2 := aS hc10
  have HKK := aS hK
  have H9 := aS h9
  have H10 := aS h10
  obtain ⟨x0,x1,x2,x3,x4,x5,x6⟩ := cells_7 hc9
  obtain ⟨f0,f1,f2,f3,f4,f5,f6⟩ := froz_7 hc9
  replace h9 : a.eval (.tmp 11) = .pointer (some ⟨B,0,none⟩) := h9
  clear hp hr hl hf hb hK hc9 hc10 h10 l9 l3 l10 D HS HT HK
  simp only [Act.eval,Array.getD_eq_getD_getElem?] at h9 h3
  unfold Oper.wp
  go_simp
  obtain ⟨n9,nb,nf⟩ := put7 HC.out hB (.int .i64 s.st) (.int .i64 s.ver) (.slice p.A1 s.l.length p.c1) (.slice p.Am s.ms.length p.cm) (.slice p.Ar s.rs.length p.cr) (.slice p.Ae s.echo.length p.ce) (.slice p.Ac s.cs.length p.cc)
  refine HKK.out _ nb (fun i hi hli => ?_)
  rcases (show i = 0 ∨ i = 1 ∨ i = 2 ∨ i = 3 ∨ i = 4 ∨ i = 5 ∨ i = 6 ∨ i = 7 ∨ i = 8 ∨ i = 9 ∨ i = 10 by omega) with rfl | rfl | rfl | rfl | rfl | rfl | rfl | rfl | rfl | rfl | rfl
  ·exact HP.out 0 (by omega) hli
  ·exact HP.out 1 (by omega) hli
  ·exact HP.out 2 (by omega) hli
  ·exact HP.out 3 (by omega) hli
  ·exact HP.out 4 (by omega) hli
  ·exact HP.out 5 (by omega) hli
  ·exact HP.out 6 (by omega) hli
  ·exact HP.out 7 (by omega) hli
  ·exact HP.out 8 (by omega) hli
  ·exact ⟨B,H9.out,hB,n9⟩
  ·exact ⟨C,H10.out,hC,nf C _ HC2.out hne⟩
 case rs2 =>
  intro a W hb hf hp hr
  obtain ⟨C,h9,hC,hc9⟩ := hp 9 (by omega)
  obtain ⟨B,h10,hB,hc10⟩ := hp 10 (by omega)
  have h8 : a.eval (.tmp 43) = .agg #[.int .i64 t.st,.int .i64 t.ver,.slice q.A1 t.l.length q.c1,.slice q.Am t.ms.length q.cm,.slice q.Ar t.rs.length q.cr,.slice q.Ae t.echo.length q.ce,.slice q.Ac t.cs.length q.cc] := hp 8 (by omega)
  have hne : C ≠ B := fun h => by
   have := hr 9 10 (by omega) (by omega) (by omega) (.inl ⟨rfl,rfl⟩)
   exact this (by rw [h9,h10,h])
  have he := hf.eq
  have v0 := hp 0 (by omega)
  have v1 := hp 1 (by omega)
  have v2 := hp 2 (by omega)
  have v3 := hp 3 (by omega)
  have v4 := hp 4 (by omega)
  have v5 := hp 5 (by omega)
  have v6 := hp 6 (by omega)
  have v7 := hp 7 (by omega)
  have v8 := hp 8 (by omega)
  replace he : putL _ [(35,a.eval (.tmp 35)),(36,a.eval (.tmp 36)),(37,a.eval (.tmp 37)),(38,a.eval (.tmp 38)),(39,a.eval (.tmp 39)),(40,a.eval (.tmp 40)),(41,a.eval (.tmp 41)),(42,a.eval (.tmp 42)),(43,a.eval (.tmp 43)),(11,a.eval (.tmp 11)),(12,a.eval (.tmp 12))] = a := he
  replace h9 : a.eval (.tmp 11) = .pointer (some ⟨C,0,none⟩) := h9
  replace h10 : a.eval (.tmp 12) = .pointer (some ⟨B,0,none⟩) := h10
  rw [h9,h10,h8,show a.eval (.tmp 38) = _ from v3] at he
  clear hp hr v0 v1 v2 v3 v4 v5 v6 v7 v8 h8 h9 h10 hf
  generalize a.eval (.tmp 35) = z35 at he
  generalize a.eval (.tmp 36) = z36 at he
  generalize a.eval (.tmp 37) = z37 at he
  generalize a.eval (.tmp 39) = z39 at he
  generalize a.eval (.tmp 40) = z40 at he
  generalize a.eval (.tmp 41) = z41 at he
  generalize a.eval (.tmp 42) = z42 at he
  simp only [putL,Act.put,sA,sB,sC] at he
  subst he
  obtain ⟨x0,x1,x2,x3,x4,x5,x6⟩ := cells_7 hc10
  obtain ⟨f0,f1,f2,f3,f4,f5,f6⟩ := froz_7 hc10
  have HN : ∃ W',W' = (((((((W.setCell ⟨B,0,none⟩ (.int .i64 t.st)).setCell ⟨B,1,none⟩ (.int .i64 t.ver)).setCell ⟨B,2,none⟩ (.slice q.A1 t.l.length q.c1)).setCell ⟨B,3,none⟩ (.slice q.Am t.ms.length q.cm)).setCell ⟨B,4,none⟩ (.slice q.Ar t.rs.length q.cr)).setCell ⟨B,5,none⟩ (.slice q.Ae t.echo.length q.ce)).setCell ⟨B,6,none⟩ (.slice q.Ac t.cs.length q.cc)) ∧ Aside0 (W'.heap[C]? = some (.cells #[.int .i64 s.st,.int .i64 s.ver,.slice p.A1 s.l.length p.c1,.slice p.Am s.ms.length p.cm,.slice p.Ar s.rs.length p.cr,.slice p.Ae s.echo.length p.ce,.slice p.Ac s.cs.length p.cc] 32 (0,0))) ∧ Aside0 (W'.heap[B]? = some (.cells #[.int .i64 t.st,.int .i64 t.ver,.slice q.A1 t.l.length q.c1,.slice q.Am t.ms.length q.cm,.slice q.Ar t.rs.length q.cr,.slice q.Ae t.echo.length q.ce,.slice q.Ac t.cs.length q.cc] 32 (0,0))) ∧ Aside0 (Box1 w W' (.cells #[.int .i64 s.st,.int .i64 s.ver,.slice p.A1 s.l.length p.c1,.slice p.Am s.ms.length p.cm,.slice p.Ar s.rs.length p.cr,.slice p.Ae s.echo.length p.ce,.slice p.Ac s.cs.length p.cc,.int .i64 t.st,.int .i64 t.ver,.slice q.A1 t.l.length q.c1,.slice q.Am t.ms.length q.cm,.slice q.Ar t.rs.length q.cr,.slice q.Ae t.echo.length q.ce,.slice q.Ac t.cs.length q.cc,.int .i64 most] 35)) := by
   obtain ⟨n9,nb,nf⟩ := put7 hc10 hB (.int .i64 t.st) (.int .i64 t.ver) (.slice q.A1 t.l.length q.c1) (.slice q.Am t.ms.length q.cm) (.slice q.Ar t.rs.length q.cr) (.slice q.Ae t.echo.length q.ce) (.slice q.Ac t.cs.length q.cc)
   exact ⟨_,rfl,⟨nf C _ hc9 hne⟩,⟨n9⟩,⟨D.out.step (hb.trans nb)⟩⟩
  obtain ⟨W',hW,HC9,HC10,D9⟩ := HN
  clear hc9 hc10 hb D hsr
  unfold Oper.wp
  go_simp
  rw [← hW]
  clear hW x0 x1 x2 x3 x4 x5 x6 f0 f1 f2 f3 f4 f5 f6
  clear hC hB hne
  obtain ⟨y0,y1,y2,y3,y4,y5,y6⟩ := cells_7 HC9.out
  go_wp2_with (first | (go_at_call 10;refine (HDE.out _ D9.out.below).mono ?_;rintro e w2 ⟨⟨A',c',rfl,hc',hr'⟩,hb2⟩;have HR' := aS hr';have HC' := aS hc';have HB2 := aS hb2;clear hr' hc' hb2 y0 y1 y2 y3 y4 y5 y6;rcases (Decidable.em (ec = 0)).symm with u | u <;> (first | (have b0 : (ec != 0) = true := bne_iff_ne.mpr u;have hO := HO.out;rw [if_pos u] at hO;clear HO u HDM;have HO := aS hO;clear hO) | (subst u;have HM := aS (HDM.out rfl);clear HDM;have HTR : Aside0 (∀ W A' c',Below w.heap.size w W → Kd.C k63 W A' xs.length xs → xs.length ≤ c' → Calls prog 11 #[.agg #[.slice p.Am s.ms.length p.cm,.slice p.Ar s.rs.length p.cr],.agg #[.int .i64 s.st,.int .i64 s.ver,.slice p.A1 s.l.length p.c1],.agg #[.int .i64 t.st,.int .i64 t.ver,.slice q.A1 t.l.length q.c1],.agg #[.string m,.slice A' xs.length c']] W fun e w' => (∃ A2 c2,e = .returned (.tuple #[.agg #[.string (transS s.ms s.rs t.l m xs).1.1,.slice A2 (transS s.ms s.rs t.l m xs).1.2.length c2],.agg #[.int .i64 (transS s.ms s.rs t.l m xs).2.1,.int .i64 (transS s.ms s.rs t.l m xs).2.2]]) ∧ (transS s.ms s.rs t.l m xs).1.2.length ≤ c2 ∧ Kd.C k63 w' A2 (transS s.ms s.rs t.l m xs).1.2.length (transS s.ms s.rs t.l m xs).1.2 ∧ MsgAt w' (.slice A2 (transS s.ms s.rs t.l m xs).1.2.length c2) (transS s.ms s.rs t.l m xs).1.2) ∧ Below W.heap.size W w') := ⟨fun W A' c' hb hr hc => xlate_Translate.at p.Am p.cm s.ms p.Ar p.cr s.rs s.st s.ver p.A1 p.c1 s.l t.st t.ver q.A1 q.c1 t.l m A' c' xs W (fun W2 hb2 => r38 (HS.out.step (b_s hb hb2)) (HT.out.step (b_s hb hb2)) HK.out.2.1.2) HM.out HS.out.n1 HT.out.n1 (by have := HK.out.2.1.2.2.2.1;omega) (by have := HK.out.2.1.2.2.2.2.2.2.1;omega) HXL.out (HS.out.step hb).rm HS.out.hm (HS.out.step hb).rr HS.out.hr (HS.out.step hb).r1 HS.out.h1 (HT.out.step hb).r1 HT.out.h1 hr hc (trans_hap HK.out.2.1.2 HM.out)⟩;have HTM : Aside0 ((transS s.ms s.rs t.l m xs).2.1 = 0 → msgOk t.st t.ver t.l (transS s.ms s.rs t.l m xs).1.1 (transS s.ms s.rs t.l m xs).1.2 = true) := ⟨fun h => transS_ok HK.out.2.1.2 HM.out h⟩;have hO := HO.out;rw [if_neg (by exact fun h => h rfl)] at hO;clear HO;generalize transS s.ms s.rs t.l m xs = x at HTR HTM hO;obtain ⟨⟨m2,xs2⟩,tc,tf⟩ := x;simp only at HTR HTM hO;have HO := aS hO;clear hO;obtain ⟨y0,y1,y2,y3,y4,y5,y6⟩ := cells_7 (k_B (k_B HC9.out HB2.out) (b_l (b_l (Below.refl _ _) (.cells #[.string m,.slice A' xs.length c'] 42)) (.cells #[.int .i64 0,.int .i64 ef] 45)));obtain ⟨n0,n1,n2,n3,n4,n5,n6⟩ := cells_7 (k_B (k_B HC10.out HB2.out) (b_l (b_l (Below.refl _ _) (.cells #[.string m,.slice A' xs.length c'] 42)) (.cells #[.int .i64 0,.int .i64 ef] 45)))))) | (go_at_call 11;refine (HTR.out _ A' c' ((D9.out.step HB2.out).step (bA _ _)).below (c_B HR'.out (bA _ _)) HC'.out).mono ?_;rintro e w3 ⟨⟨A2,c2,rfl,hc2,hr2,hm2⟩,hb3⟩;have HR2 := aS hr2;have HC2 := aS hc2;have HA2 := aS hm2;clear hm2;have E := aS ((Box2.start w2 (.cells #[.string m,.slice A' xs.length c'] 42) (.cells #[.int .i64 0,.int .i64 ef] 45)).step hb3);have HB3 := aS (((D9.out.step HB2.out).step (bA _ _)).step hb3);clear hr2 hc2 hb3 y0 y1 y2 y3 y4 y5 y6 n0 n1 n2 n3 n4 n5 n6;obtain ⟨f0,f1⟩ := froz_2a E.out.h2 (.cells #[.string m2,.slice A2 xs2.length c2] 42);obtain ⟨y0,y1⟩ := cells_2 (blk_alloc E.out.h2 (.cells #[.string m2,.slice A2 xs2.length c2] 42));obtain ⟨w0_,w1_⟩ := cells_2 (blk_alloc E.out.h1 (.cells #[.string m2,.slice A2 xs2.length c2] 42));rcases (Decidable.em (tc = 0)).symm with u | u <;> (first | (have b1 : (tc != 0) = true := bne_iff_ne.mpr u;have hO := HO.out;rw [if_pos u] at hO;clear HO u HTM;have HO := aS hO;clear hO) | (subst u;have HM2 := aS (HTM.out rfl);have hO := HO.out;rw [if_neg (by exact fun h => h rfl)] at hO;clear HO HTM;have HML : Aside0 (∀ {W : World} {A2 : Option Addr} {c2 : Nat},MsgAt W (.slice A2 xs2.length c2) xs2 → Kd.C k63 W A2 xs2.length xs2) := ⟨fun h => by obtain ⟨A',c',e',_,hC⟩ := h.reads (by have := msgOk_len HM2.out;omega);cases e';exact hC⟩;have HEN : Aside0 (∀ W A2 c2,Below w.heap.size w W → Kd.C k63 W A2 xs2.length xs2 → xs2.length ≤ c2 → Calls prog 12 #[.agg #[.int .i64 t.st,.int .i64 t.ver,.slice q.A1 t.l.length q.c1],.agg #[.string m2,.slice A2 xs2.length c2]] W fun e w' => e = .returned (.tuple #[.string (encS t.st t.l m2 xs2),.agg #[.int .i64 0,.int .i64 0]]) ∧ Below W.heap.size W w') := ⟨fun W A2 c2 hb hr hc => wire_Encode.at t.st t.ver q.A1 q.c1 t.l m2 A2 c2 xs2 W HT.out.n1 (HT.out.step hb).r1 HT.out.h1 (by have := msgOk_len HM2.out;omega) hr hc HM2.out⟩;generalize encS t.st t.l m2 xs2 = bb at HEN hO;have HO := aS hO;clear hO;obtain ⟨n0,n1,n2,n3,n4,n5,n6⟩ := cells_7 (k_B (k_B HC10.out HB2.out) (((b_s E.out.below (b_l (Below.refl _ _) (.cells #[.string m2,.slice A2 xs2.length c2] 42))).setCell (p := ⟨w2.heap.size + 1,0,none⟩) (by show w2.heap.size ≤ w2.heap.size + 1;omega) (.int .i64 0)).setCell (p := ⟨w2.heap.size + 1,1,none⟩) (by show w2.heap.size ≤ w2.heap.size + 1;omega) (.int .i64 tf)));obtain ⟨x0_,x1_⟩ := cells_2 (far ⟨w2.heap.size + 1,1,none⟩ (.int .i64 tf) (far ⟨w2.heap.size + 1,0,none⟩ (.int .i64 0) (blk_new w3 (.cells #[.string m2,.slice A2 xs2.length c2] 42)) (by show w3.heap.size ≠ w2.heap.size + 1;have := blk_lt E.out.h2;omega)) (by show w3.heap.size ≠ w2.heap.size + 1;have := blk_lt E.out.h2;omega))))) | (go_at_call 12;refine (HEN.out _ A2 c2 ((D9.out.step HB2.out).step (((b_s E.out.below (b_l (Below.refl _ _) (.cells #[.string m2,.slice A2 xs2.length c2] 42))).setCell (p := ⟨w2.heap.size + 1,0,none⟩) (by show w2.heap.size ≤ w2.heap.size + 1;omega) (.int .i64 0)).setCell (p := ⟨w2.heap.size + 1,1,none⟩) (by show w2.heap.size ≤ w2.heap.size + 1;omega) (.int .i64 tf))).below ((HML.out (((HA2.out.step (b_l (Below.refl _ _) (.cells #[.string m2,.slice A2 xs2.length c2] 42))).far (blk_alloc E.out.h2 (.cells #[.string m2,.slice A2 xs2.length c2] 42)) (by decide) 0 (.int .i64 0)).far (blk_put (blk_alloc E.out.h2 (.cells #[.string m2,.slice A2 xs2.length c2] 42)) 0 _ rfl) (by decide) 1 (.int .i64 tf)))) HC2.out).mono ?_;rintro e w4 ⟨rfl,hb4⟩;have HB4 := aS (((D9.out.step HB2.out).step (((b_s E.out.below (b_l (Below.refl _ _) (.cells #[.string m2,.slice A2 xs2.length c2] 42))).setCell (p := ⟨w2.heap.size + 1,0,none⟩) (by show w2.heap.size ≤ w2.heap.size + 1;omega) (.int .i64 0)).setCell (p := ⟨w2.heap.size + 1,1,none⟩) (by show w2.heap.size ≤ w2.heap.size + 1;omega) (.int .i64 tf))).step hb4);have HW4 := aS (b_s (((b_s E.out.below (b_l (Below.refl _ _) (.cells #[.string m2,.slice A2 xs2.length c2] 42))).setCell (p := ⟨w2.heap.size + 1,0,none⟩) (by show w2.heap.size ≤ w2.heap.size + 1;omega) (.int .i64 0)).setCell (p := ⟨w2.heap.size + 1,1,none⟩) (by show w2.heap.size ≤ w2.heap.size + 1;omega) (.int .i64 tf)) hb4);have m0_ := cells_2a (k_B (far _ _ (far _ _ (blk_alloc E.out.h1 (.cells #[.string m2,.slice A2 xs2.length c2] 42)) (by show w2.heap.size ≠ w2.heap.size + 1;omega)) (by show w2.heap.size ≠ w2.heap.size + 1;omega)) hb4);clear hb4 y0 y1 w0_ w1_ f0 f1 x0_ x1_ n0 n1 n2 n3 n4 n5 n6;have hmost : ∀ o_,(w4.alloc o_).cell? ⟨w.heap.size,14,none⟩ = some (.int .i64 most) := fun o_ => blk_cell (blk_alloc HB4.out.h1 o_) 14;rcases Decidable.em (most < (bb.size : Int)) with u | u <;> (first | (have b2 : decide (most < (bb.size : Int)) = true := d_T u;have hO := HO.out;rw [if_pos u] at hO;clear HO u;have HO := aS hO;clear hO) | (have b2 : decide (most < (bb.size : Int)) = false := d_F u;have hO := HO.out;rw [if_neg u] at hO;clear HO u;have HO := aS hO;clear hO))) | (go_at_call 31;first | (refine (route_answer.at s p most m A' c' xs 5 129 C w.heap.size _ (blk_alloc (k_B (k_B HC9.out HB2.out) HW4.out) _) (blk_cell (blk_alloc HB4.out.h1 _) 14) (HS.out.step (b_l HB4.out.below _)) hle hlc (by have := HXL.out;omega) (c_B HR'.out (b_l HW4.out _)) HC'.out (HMO.out 5)).mono ?_;rintro e w6 ⟨rfl,hb6⟩;have HB6 := aS (b_s (b_l HB4.out.below _) hb6);clear hb6) | (refine (route_answer.at s p most m A' c' xs tc tf C w.heap.size _ (k_B (k_B HC9.out HB2.out) (((b_s E.out.below (bO _)).setCell (p := ⟨w2.heap.size + 1,0,none⟩) (by show w2.heap.size ≤ w2.heap.size + 1;omega) _).setCell (p := ⟨w2.heap.size + 1,1,none⟩) (by show w2.heap.size ≤ w2.heap.size + 1;omega) _)) (blk_cell ((D9.out.step HB2.out).step (((b_s E.out.below (bO _)).setCell (p := ⟨w2.heap.size + 1,0,none⟩) (by show w2.heap.size ≤ w2.heap.size + 1;omega) _).setCell (p := ⟨w2.heap.size + 1,1,none⟩) (by show w2.heap.size ≤ w2.heap.size + 1;omega) _)).h1 14) (HS.out.step ((D9.out.step HB2.out).step (((b_s E.out.below (bO _)).setCell (p := ⟨w2.heap.size + 1,0,none⟩) (by show w2.heap.size ≤ w2.heap.size + 1;omega) _).setCell (p := ⟨w2.heap.size + 1,1,none⟩) (by show w2.heap.size ≤ w2.heap.size + 1;omega) _)).below) hle hlc (by have := HXL.out;omega) (c_B HR'.out (((b_s E.out.below (bO _)).setCell (p := ⟨w2.heap.size + 1,0,none⟩) (by show w2.heap.size ≤ w2.heap.size + 1;omega) _).setCell (p := ⟨w2.heap.size + 1,1,none⟩) (by show w2.heap.size ≤ w2.heap.size + 1;omega) _)) HC'.out (HMO.out tc)).mono ?_;rintro e w5 ⟨rfl,hb5⟩;have HB5 := aS (b_s ((D9.out.step HB2.out).step (((b_s E.out.below (bO _)).setCell (p := ⟨w2.heap.size + 1,0,none⟩) (by show w2.heap.size ≤ w2.heap.size + 1;omega) _).setCell (p := ⟨w2.heap.size + 1,1,none⟩) (by show w2.heap.size ≤ w2.heap.size + 1;omega) _)).below hb5);clear hb5) | (refine (route_answer.at s p most m A' c' xs ec ef C w.heap.size _ (k_B (k_B HC9.out HB2.out) (bA _ _)) (blk_cell ((D9.out.step HB2.out).step (bA _ _)).h1 14) (HS.out.step ((D9.out.step HB2.out).step (bA _ _)).below) hle hlc (by have := HXL.out;omega) (c_B HR'.out (bA _ _)) HC'.out (HMO.out ec)).mono ?_;rintro e w3 ⟨rfl,hb3⟩;have HB3 := aS (b_s ((D9.out.step HB2.out).step (bA _ _)).below hb3);clear hb3)))
  all_goals go_ret2
  all_goals have hO := HO.out
  all_goals subst hO
  all_goals first | exact ⟨rfl,HB6.out⟩ | exact ⟨rfl,HB5.out⟩ | exact ⟨rfl,HB3.out⟩ | exact ⟨rfl,b_l HB4.out.below _⟩
end
end Go.Proofs.YtgbmnpgaddhfpaaGreatDoor.T
