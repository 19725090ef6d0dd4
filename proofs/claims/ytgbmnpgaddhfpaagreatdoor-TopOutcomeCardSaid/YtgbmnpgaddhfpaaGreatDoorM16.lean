/- Walks and plain laws beneath the law TopOutcome. No conditions but what each statement names. -/
import Derived.OpenShut
import Derived.WideShapes
import Derived.Test.YtgbmnpgaddhfpaaGreatDoorM9
import Derived.Test.YtgbmnpgaddhfpaaGreatDoorM15
set_option linter.unusedVariables false
set_option linter.unusedSimpArgs false
namespace Go.Proofs.YtgbmnpgaddhfpaaGreatDoor.T
open Go.RowKit Go.Proofs.YtgbmnpgaddhfpaaGreatDoorW.PrintWords Go.Proofs.YtgbmnpgaddhfpaaGreatDoorW.PrintLast Go.Proofs.YtgbmnpgaddhfpaaGreatDoorW.PrintMore
attribute [local go_sem] max2_int min2_int max_two min_two
open Go.Proofs.YtgbmnpgaddhfpaaGreatDoor.G
open Tryz
set_option maxRecDepth 100000
theorem opens_array2 {α : Type} {P : Program} {t e : TypeId} {k : Kd α} {good : α → Prop} {n : Nat} (ht : P.underlying t = some (.array 2 e)) (hc : P.cellsOf e = n) (hct : P.cellsOf t = n + n) (hk : G.Opens P e k good) : G.Opens P t (Kd.pair k k) (fun _ => True) := by
 intro H enc w base spare held fuel cs x hx
 obtain ⟨xs,m,rfl,_,hl,hxl,hf⟩ := DataW.trod_array ht hx
 rw [hc] at hf
 rw [hct] at hl
 have h0 := hf 0 (by omega)
 have h1 := hf 1 (by omega)
 rw [List.getElem?_eq_getElem (by omega)] at h0 h1
 obtain ⟨y0,k0,_⟩ := hk H enc w base spare held m _ _ h0
 obtain ⟨y1,k1,_⟩ := hk H enc w base spare held m _ _ h1
 refine ⟨(y0,y1),⟨_,_,?_,k0,k1⟩,trivial⟩
 rw [Nat.zero_mul,List.drop_zero,Nat.one_mul,List.take_of_length_le (l := cs.drop n) (by rw [List.length_drop];omega),List.take_append_drop]
theorem opens_true {α : Type} {P : Program} {t : TypeId} {k : Kd α} {good : α → Prop} (h : G.Opens P t k good) : G.Opens P t k (fun _ => True) := h.imp (fun _ _ => trivial)
theorem opens_plain {α : Type} {P : Program} {t : TypeId} {fs : Array Field} {k : Kd α} {good : α → Prop} {n : Nat} (ht : P.underlying t = some (.struct fs)) (hn : P.cellsOf t = n) (h : G.Piece P 0 n fs.toList k good) : G.Opens P t k (fun _ => True) := by
 intro H enc w base spare held fuel cs x hx
 obtain ⟨y,hy,_⟩ := G.opens_struct (k := k) (good := good) (n := n) (fun x : α => x) (fun x => x) (fun _ => rfl) ht hn h H enc w base spare held fuel cs x hx
 exact ⟨y,hy,trivial⟩
theorem o_int : G.Opens prog 3 (Kd.int .i64) (fun _ => True) := opens_true (G.opens_int underlying3)
theorem o_err : G.Opens prog 43 (Kd.int .i64) (fun _ => True) := opens_true (G.opens_int underlying43)
theorem o_str : G.Opens prog 9 Kd.string (fun _ => True) := opens_true (G.opens_string underlying9)
theorem o87 : G.Opens prog 87 k87 (fun _ => True) := by
 refine opens_true (G.opens_struct (good := fun _ => True ∧ True ∧ True ∧ True ∧ True) (n := 1 + (1 + (1 + (1 + (1))))) (fun x : S87 => (x.f0,x.f1,x.f2,x.f3,x.f4)) (fun y => ⟨y.1,y.2.1,y.2.2.1,y.2.2.2.1,y.2.2.2.2⟩) (fun _ => rfl) underlying87 (by kernel_rfl) ?_)
 refine G.piece_cons (o := 0) (a := 1) (b := 1 + (1 + (1 + (1)))) (k := (Kd.int .i64)) (k2 := (Kd.pair (Kd.int .i64) (Kd.pair (Kd.int .i64) (Kd.pair (Kd.int .i64) (Kd.int .i64))))) (g := fun _ => True) (g2 := fun _ => True ∧ True ∧ True ∧ True) ?_ ?_ ?_ ?_
 ·exact o_int
 ·rfl
 ·kernel_rfl
 refine G.piece_cons (o := 1) (a := 1) (b := 1 + (1 + (1))) (k := (Kd.int .i64)) (k2 := (Kd.pair (Kd.int .i64) (Kd.pair (Kd.int .i64) (Kd.int .i64)))) (g := fun _ => True) (g2 := fun _ => True ∧ True ∧ True) ?_ ?_ ?_ ?_
 ·exact o_int
 ·rfl
 ·kernel_rfl
 refine G.piece_cons (o := 2) (a := 1) (b := 1 + (1)) (k := (Kd.int .i64)) (k2 := (Kd.pair (Kd.int .i64) (Kd.int .i64))) (g := fun _ => True) (g2 := fun _ => True ∧ True) ?_ ?_ ?_ ?_
 ·exact o_int
 ·rfl
 ·kernel_rfl
 refine G.piece_cons (o := 3) (a := 1) (b := 1) (k := (Kd.int .i64)) (k2 := (Kd.int .i64)) (g := fun _ => True) (g2 := fun _ => True) ?_ ?_ ?_ ?_
 ·exact o_int
 ·rfl
 ·kernel_rfl
 refine G.piece_one (o := 4) ?_ ?_ ?_
 ·exact o_int
 ·rfl
 ·kernel_rfl
theorem o66 : G.Opens prog 66 k66 (fun _ => True) := by
 refine opens_true (G.opens_struct (good := fun _ => True ∧ True) (n := 1 + (1)) (fun x : S66 => (x.f0,x.f1)) (fun y => ⟨y.1,y.2⟩) (fun _ => rfl) underlying66 (by kernel_rfl) ?_)
 refine G.piece_cons (o := 0) (a := 1) (b := 1) (k := Kd.string) (k2 := Kd.string) (g := fun _ => True) (g2 := fun _ => True) ?_ ?_ ?_ ?_
 ·exact o_str
 ·rfl
 ·kernel_rfl
 refine G.piece_one (o := 1) ?_ ?_ ?_
 ·exact o_str
 ·rfl
 ·kernel_rfl
theorem o129 : G.Opens prog 129 k129 (fun _ => True) := by
 refine opens_true (G.opens_struct (good := fun _ => True ∧ True) (n := 1 + (1)) (fun x : S129 => (x.f0,x.f1)) (fun y => ⟨y.1,y.2⟩) (fun _ => rfl) underlying129 (by kernel_rfl) ?_)
 refine G.piece_cons (o := 0) (a := 1) (b := 1) (k := (Kd.int .i64)) (k2 := Kd.string) (g := fun _ => True) (g2 := fun _ => True) ?_ ?_ ?_ ?_
 ·exact o_err
 ·rfl
 ·kernel_rfl
 refine G.piece_one (o := 1) ?_ ?_ ?_
 ·exact o_str
 ·rfl
 ·kernel_rfl
theorem o25 : G.Opens prog 25 (Kd.slice 66 k66) (fun _ => True) := opens_true (G.opens_slice underlying25 (by kernel_rfl) o66)
theorem o94 : G.Opens prog 94 k94 (fun _ => True) := by
 refine opens_true (G.opens_struct (good := fun _ => True ∧ True ∧ True ∧ True ∧ True) (n := 1 + (1 + (1 + (1 + (1))))) (fun x : S94 => (x.f0,x.f1,x.f2,x.f3,x.f4)) (fun y => ⟨y.1,y.2.1,y.2.2.1,y.2.2.2.1,y.2.2.2.2⟩) (fun _ => rfl) underlying94 (by kernel_rfl) ?_)
 refine G.piece_cons (o := 0) (a := 1) (b := 1 + (1 + (1 + (1)))) (k := (Kd.int .i64)) (k2 := (Kd.pair (Kd.int .i64) (Kd.pair (Kd.int .i64) (Kd.pair Kd.string (Kd.slice 66 k66))))) (g := fun _ => True) (g2 := fun _ => True ∧ True ∧ True ∧ True) ?_ ?_ ?_ ?_
 ·exact o_int
 ·rfl
 ·kernel_rfl
 refine G.piece_cons (o := 1) (a := 1) (b := 1 + (1 + (1))) (k := (Kd.int .i64)) (k2 := (Kd.pair (Kd.int .i64) (Kd.pair Kd.string (Kd.slice 66 k66)))) (g := fun _ => True) (g2 := fun _ => True ∧ True ∧ True) ?_ ?_ ?_ ?_
 ·exact o_int
 ·rfl
 ·kernel_rfl
 refine G.piece_cons (o := 2) (a := 1) (b := 1 + (1)) (k := (Kd.int .i64)) (k2 := (Kd.pair Kd.string (Kd.slice 66 k66))) (g := fun _ => True) (g2 := fun _ => True ∧ True) ?_ ?_ ?_ ?_
 ·exact o_int
 ·rfl
 ·kernel_rfl
 refine G.piece_cons (o := 3) (a := 1) (b := 1) (k := Kd.string) (k2 := (Kd.slice 66 k66)) (g := fun _ => True) (g2 := fun _ => True) ?_ ?_ ?_ ?_
 ·exact o_str
 ·rfl
 ·kernel_rfl
 refine G.piece_one (o := 4) ?_ ?_ ?_
 ·exact o25
 ·rfl
 ·kernel_rfl
def kSch : Kd (Int × Int × List S87) := Kd.pair (Kd.int .i64) (Kd.pair (Kd.int .i64) (Kd.slice 87 k87))
def kMp : Kd (List S66 × List S94) := Kd.pair (Kd.slice 66 k66) (Kd.slice 94 k94)
def kSd : Kd ((Int × Int × List S87) × (List S66 × List S94) × List Int × List S129) := Kd.pair kSch (Kd.pair kMp (Kd.pair (Kd.slice 3 (Kd.int .i64)) (Kd.slice 129 k129)))
theorem o24 : G.Opens prog 24 kSch (fun _ => True) := by
 refine opens_plain (good := fun _ => True ∧ True ∧ True) (n := 1 + (1 + (1))) underlying24 (by kernel_rfl) ?_
 refine G.piece_cons (o := 0) (a := 1) (b := 1 + (1)) (k := (Kd.int .i64)) (k2 := (Kd.pair (Kd.int .i64) (Kd.slice 87 k87))) (g := fun _ => True) (g2 := fun _ => True ∧ True) ?_ ?_ ?_ ?_
 ·exact o_int
 ·rfl
 ·kernel_rfl
 refine G.piece_cons (o := 1) (a := 1) (b := 1) (k := (Kd.int .i64)) (k2 := (Kd.slice 87 k87)) (g := fun _ => True) (g2 := fun _ => True) ?_ ?_ ?_ ?_
 ·exact o_int
 ·rfl
 ·kernel_rfl
 refine G.piece_one (o := 2) ?_ ?_ ?_
 ·exact (opens_true (G.opens_slice underlying22 (by kernel_rfl) o87))
 ·rfl
 ·kernel_rfl
theorem o28 : G.Opens prog 28 kMp (fun _ => True) := by
 refine opens_plain (good := fun _ => True ∧ True) (n := 1 + (1)) underlying28 (by kernel_rfl) ?_
 refine G.piece_cons (o := 0) (a := 1) (b := 1) (k := (Kd.slice 66 k66)) (k2 := (Kd.slice 94 k94)) (g := fun _ => True) (g2 := fun _ => True) ?_ ?_ ?_ ?_
 ·exact o25
 ·rfl
 ·kernel_rfl
 refine G.piece_one (o := 1) ?_ ?_ ?_
 ·exact (opens_true (G.opens_slice underlying26 (by kernel_rfl) o94))
 ·rfl
 ·kernel_rfl
theorem o32 : G.Opens prog 32 kSd (fun _ => True) := by
 refine opens_plain (good := fun _ => True ∧ True ∧ True ∧ True) (n := 3 + (2 + (1 + (1)))) underlying32 (by kernel_rfl) ?_
 refine G.piece_cons (o := 0) (a := 3) (b := 2 + (1 + (1))) (k := kSch) (k2 := (Kd.pair kMp (Kd.pair (Kd.slice 3 (Kd.int .i64)) (Kd.slice 129 k129)))) (g := fun _ => True) (g2 := fun _ => True ∧ True ∧ True) ?_ ?_ ?_ ?_
 ·exact o24
 ·rfl
 ·kernel_rfl
 refine G.piece_cons (o := 3) (a := 2) (b := 1 + (1)) (k := kMp) (k2 := (Kd.pair (Kd.slice 3 (Kd.int .i64)) (Kd.slice 129 k129))) (g := fun _ => True) (g2 := fun _ => True ∧ True) ?_ ?_ ?_ ?_
 ·exact o28
 ·rfl
 ·kernel_rfl
 refine G.piece_cons (o := 5) (a := 1) (b := 1) (k := (Kd.slice 3 (Kd.int .i64))) (k2 := (Kd.slice 129 k129)) (g := fun _ => True) (g2 := fun _ => True) ?_ ?_ ?_ ?_
 ·exact (opens_true (G.opens_slice underlying29 (by kernel_rfl) o_int))
 ·rfl
 ·kernel_rfl
 refine G.piece_one (o := 6) ?_ ?_ ?_
 ·exact (opens_true (G.opens_slice underlying30 (by kernel_rfl) o129))
 ·rfl
 ·kernel_rfl
theorem o35 : G.Opens prog 35 (Kd.pair (Kd.pair kSd kSd) (Kd.int .i64)) (fun _ => True) := by
 refine opens_plain (good := fun _ => True ∧ True) (n := 14 + (1)) underlying35 (by kernel_rfl) ?_
 refine G.piece_cons (o := 0) (a := 14) (b := 1) (k := (Kd.pair kSd kSd)) (k2 := (Kd.int .i64)) (g := fun _ => True) (g2 := fun _ => True) ?_ ?_ ?_ ?_
 ·exact (opens_array2 (n := 7) underlying33 (by kernel_rfl) (by kernel_rfl) o32)
 ·rfl
 ·kernel_rfl
 refine G.piece_one (o := 14) ?_ ?_ ?_
 ·exact o_int
 ·rfl
 ·kernel_rfl
theorem n4_of {w : World} {A : Option Addr} {n : Nat} {xs : List S94} (h : Kd.C k94 w A n xs) : ∀ r ∈ xs,r.f4.length ≤ 9223372036854775807 := by
 intro r hr
 obtain ⟨j,hj,e⟩ := List.getElem_of_mem hr
 have hn := h.1
 obtain ⟨ad,_,hc⟩ := h.2.2 (by omega)
 obtain ⟨c,_,hK,_⟩ := hc j r (by rw [List.getElem?_eq_getElem hj,e])
 obtain ⟨A4,c4,_,_,hC⟩ := k94_open hK
 exact hC.2.1
theorem kSd_open {w : World} {y : (Int × Int × List S87) × (List S66 × List S94) × List Int × List S129} {cs : List Value} (h : kSd.K w y cs) : ∃ (s : Sd) (p : Ad),cs = [.int .i64 s.st,.int .i64 s.ver,.slice p.A1 s.l.length p.c1,.slice p.Am s.ms.length p.cm,.slice p.Ar s.rs.length p.cr,.slice p.Ae s.echo.length p.ce,.slice p.Ac s.cs.length p.cc] ∧ SdAt0 w s p := by
 obtain ⟨⟨st,ver,l⟩,⟨ms,rs⟩,echo,cds⟩ := y
 obtain ⟨_,_,rfl,⟨_,_,rfl,rfl,⟨_,_,rfl,rfl,⟨A1,c1,rfl,hl1,hr1⟩⟩⟩,⟨_,_,rfl,⟨_,_,rfl,⟨Am,cm,rfl,hlm,hrm⟩,⟨Ar,cr,rfl,hlr,hrr⟩⟩,⟨_,_,rfl,⟨Ae,ce,rfl,hle,hre⟩,⟨Ac,cc,rfl,hlc,hrc⟩⟩⟩⟩ := h
 exact ⟨⟨st,ver,l,ms,rs,echo,cds⟩,⟨A1,c1,Am,cm,Ar,cr,Ae,ce,Ac,cc⟩,rfl,hr1,hl1,hr1.2.1,hrm,hlm,hrm.2.1,hrr,hlr,hrr.2.1,hre,hle,hre.2.1,hrc,hlc,hrc.2.1,n4_of hrr⟩
theorem open_cfg {H : Type} {enc : TypeId × Value → H} {W : World} {base b0 : Nat} {spare : Nat → Bool} {held : Bool} {v : Value} {d : DataW H} {p : List MemPlace} {r : Reach} (hv : Value.okWide prog W r b0 35 v) (h : DataW.Trod enc prog W base spare held 35 v d p) :
  ∃ (s t : Sd) (pa qa : Ad) (most : Int),v = .agg #[.int .i64 s.st,.int .i64 s.ver,.slice pa.A1 s.l.length pa.c1,.slice pa.Am s.ms.length pa.cm,.slice pa.Ar s.rs.length pa.cr,.slice pa.Ae s.echo.length pa.ce,.slice pa.Ac s.cs.length pa.cc,.int .i64 t.st,.int .i64 t.ver,.slice qa.A1 t.l.length qa.c1,.slice qa.Am t.ms.length qa.cm,.slice qa.Ar t.rs.length qa.cr,.slice qa.Ae t.echo.length qa.ce,.slice qa.Ac t.cs.length qa.cc,.int .i64 most] ∧ SdAt0 W s pa ∧ SdAt0 W t qa := by
 obtain ⟨cs,rfl,_⟩ := Go.WideShapes.okWide_struct underlying35 hv
 obtain ⟨fuel,hf⟩ := h
 obtain ⟨y,hy,_⟩ := o35 H enc W base spare held fuel _ _ hf
 obtain ⟨_,_,e,⟨_,_,rfl,h0,h1⟩,h2⟩ := hy
 obtain ⟨s,pa,rfl,hs⟩ := kSd_open h0
 obtain ⟨t,qa,rfl,ht⟩ := kSd_open h1
 have h3 : _ = [Value.int .i64 y.2] := h2
 subst h3
 refine ⟨s,t,pa,qa,y.2,?_,hs,ht⟩
 have e2 : cs.toList = _ := e
 rw [← Array.toArray_toList (xs := cs),e2]
 rfl
section
theorem idx33_0 (a b c d e f g h i j k l m n : Value) (w : World) : Sem.run prog (Instr.index 33 (.agg #[a,b,c,d,e,f,g,h,i,j,k,l,m,n]) (.int .i64 0)) w = .ok (.agg #[a,b,c,d,e,f,g]) w := by kernel_rfl
theorem idx33_1 (a b c d e f g h i j k l m n : Value) (w : World) : Sem.run prog (Instr.index 33 (.agg #[a,b,c,d,e,f,g,h,i,j,k,l,m,n]) (.int .i64 1)) w = .ok (.agg #[h,i,j,k,l,m,n]) w := by kernel_rfl
theorem wr1_7 : (IntKind.wrap .i64 1).toNat * 7 = 7 := by decide
theorem wr0_7 : (IntKind.wrap .i64 0).toNat * 7 = 0 := by decide
attribute [local go_sem] idx33_0 idx33_1 wr1_7 wr0_7
theorem r38 {W : World} {s t : Sd} {p q : Ad} (h : SdAt W s p) (h' : SdAt W t q) (hm : mapOk s.ms s.rs s.st s.ver s.l t.st t.ver t.l) : Calls prog 38 #[.agg #[.slice p.Am s.ms.length p.cm,.slice p.Ar s.rs.length p.cr],.agg #[.int .i64 s.st,.int .i64 s.ver,.slice p.A1 s.l.length p.c1],.agg #[.int .i64 t.st,.int .i64 t.ver,.slice q.A1 t.l.length q.c1]] W fun e w' => e = .returned (.tuple #[.int .i64 0,.int .i64 0,.int .i64 0]) ∧ Below W.heap.size W w' :=
 xlate_Check.at p.Am p.cm s.ms p.Ar p.cr s.rs s.st s.ver p.A1 p.c1 s.l t.st t.ver q.A1 q.c1 t.l W h.n1 h'.n1 h.rm h.hm h.rr h.hr h.r1 h.h1 h'.r1 h'.h1 hm
def cfgK (s t : Sd) (most : Int) : Prop := (1 ≤ most ∧ most ≤ 65535) ∧ (sdR s ∧ mapOk s.ms s.rs s.st s.ver s.l t.st t.ver t.l) ∧ (sdR t ∧ mapOk t.ms t.rs t.st t.ver t.l s.st s.ver s.l)
set_option maxHeartbeats 4000000 in
theorem route_Check.at (s t : Sd) (p q : Ad) (most : Int) (w : World) (h1 : SdAt w s p) (h2 : SdAt w t q) (hk : cfgK s t most) :
  Calls prog 30 #[.agg #[.int .i64 s.st,.int .i64 s.ver,.slice p.A1 s.l.length p.c1,.slice p.Am s.ms.length p.cm,.slice p.Ar s.rs.length p.cr,.slice p.Ae s.echo.length p.ce,.slice p.Ac s.cs.length p.cc,.int .i64 t.st,.int .i64 t.ver,.slice q.A1 t.l.length q.c1,.slice q.Am t.ms.length q.cm,.slice q.Ar t.rs.length q.cr,.slice q.Ae t.echo.length q.ce,.slice q.Ac t.cs.length q.cc,.int .i64 most]] w fun e w' => e = .returned (.tuple #[.int .i64 0,.int .i64 0,.int .i64 0]) ∧ Below w.heap.size w w' := by
 have hu35 := underlying35
 have hu33 := underlying33
 have hu32 := underlying32
 have hu28 := underlying28
 have hu24 := underlying24
 obtain ⟨⟨k1,k2⟩,⟨k3,k4⟩,k5,k6⟩ := hk
 have HS := aS h1
 have HT := aS h2
 have K3 := aS k3
 have K4 := aS k4
 have K5 := aS k5
 have K6 := aS k6
 have b0 : decide (most < 1) = false := d_F (by omega)
 have b1 : decide (65535 < most) = false := d_F (by omega)
 clear h1 h2 k1 k2 k3 k4 k5 k6
 have D := aS (Box1.start w (.cells #[.int .i64 s.st,.int .i64 s.ver,.slice p.A1 s.l.length p.c1,.slice p.Am s.ms.length p.cm,.slice p.Ar s.rs.length p.cr,.slice p.Ae s.echo.length p.ce,.slice p.Ac s.cs.length p.cc,.int .i64 t.st,.int .i64 t.ver,.slice q.A1 t.l.length q.c1,.slice q.Am t.ms.length q.cm,.slice q.Ar t.rs.length q.cr,.slice q.Ae t.echo.length q.ce,.slice q.Ac t.cs.length q.cc,.int .i64 most] 35))
 go_enter func30,ntmps30
 go_wp2
 clear b0 b1
 go_loopg [23] 2 (fun g v23 w' => ∃ i : Nat,v23 = .int .i64 i ∧ i + g = 2 ∧ Aside0 (Box1 w w' (.cells #[.int .i64 s.st,.int .i64 s.ver,.slice p.A1 s.l.length p.c1,.slice p.Am s.ms.length p.cm,.slice p.Ar s.rs.length p.cr,.slice p.Ae s.echo.length p.ce,.slice p.Ac s.cs.length p.cc,.int .i64 t.st,.int .i64 t.ver,.slice q.A1 t.l.length q.c1,.slice q.Am t.ms.length q.cm,.slice q.Ar t.rs.length q.cr,.slice q.Ae t.echo.length q.ce,.slice q.Ac t.cs.length q.cc,.int .i64 most] 35)))
 case atStart => exact ⟨0,rfl,rfl,D⟩
 case round =>
  clear D
  obtain ⟨i,rfl,hi,D⟩ := hrel
  obtain ⟨c0_,c1_,c2_,c3_,c4_,c5_,c6_,c7_,c8_,c9_,c10_,c11_,c12_,c13_,c14_⟩ := cells_15 D.out.h1
  rcases (show i = 0 ∨ i = 1 ∨ i = 2 by omega) with i0 | i1 | i2
  ·skip
   subst i0
   obtain ⟨g,rfl⟩ : ∃ g,gk = g + 1 := ⟨gk - 1,by omega⟩
   go_wp2_with (first | (go_at_call 76;(have D_ := aS (D.out.step (b_l (Below.refl _ _) (.cells #[.int .i64 s.st,.int .i64 s.ver,.slice p.A1 s.l.length p.c1,.slice p.Am s.ms.length p.cm,.slice p.Ar s.rs.length p.cr,.slice p.Ae s.echo.length p.ce,.slice p.Ac s.cs.length p.cc] 32))));(have PX := aS (blk_new wr (.cells #[.int .i64 s.st,.int .i64 s.ver,.slice p.A1 s.l.length p.c1,.slice p.Am s.ms.length p.cm,.slice p.Ar s.rs.length p.cr,.slice p.Ae s.echo.length p.ce,.slice p.Ac s.cs.length p.cc] 32)));clear D c0_ c1_ c2_ c3_ c4_ c5_ c6_ c7_ c8_ c9_ c10_ c11_ c12_ c13_ c14_;(have D := D_);clear D_;generalize wr.alloc _ = w5 at *;generalize wr.heap.size = g5 at *;refine (reject_Check.at s p _ (HS.out.step D.out.below) K3.out).mono ?_;rintro e w3 ⟨rfl,hb1⟩;(have D_ := aS (D.out.step hb1));(have P_ := aS (k_B PX.out hb1));clear D PX hb1;(have D := D_);(have PX := P_);clear D_ P_))
   have HXC : Aside0 (∀ W,Below w3.heap.size w3 W → Calls prog 38 #[.agg #[.slice p.Am s.ms.length p.cm,.slice p.Ar s.rs.length p.cr],.agg #[.int .i64 s.st,.int .i64 s.ver,.slice p.A1 s.l.length p.c1],.agg #[.int .i64 t.st,.int .i64 t.ver,.slice q.A1 t.l.length q.c1]] W fun e w' => e = .returned (.tuple #[.int .i64 0,.int .i64 0,.int .i64 0]) ∧ Below W.heap.size W w') := ⟨fun W hb => r38 (HS.out.step (b_s D.out.below hb)) (HT.out.step (b_s D.out.below hb)) K4.out⟩
   obtain ⟨c0_,c1_,c2_,c3_,c4_,c5_,c6_,c7_,c8_,c9_,c10_,c11_,c12_,c13_,c14_⟩ := cells_15 D.out.h1
   obtain ⟨x0,x1,x2,x3,x4,x5,x6⟩ := cells_7 PX.out
   refine wp_region_below (by kernel_rfl) (by kernel_rfl) ?_
   iterate 4 ((with_reducible refine quiet_yes ?hw ?_);(case hw => kernel_rfl);apply Exists.intro;refine ⟨fun w' hw' => ?_,?_⟩;(have hc := below_cells hw';unfold Oper.quietAt;go_simp;first | done | (with_reducible rfl) | (with_reducible exact ⟨rfl,rfl⟩) | (go_at_call 38;(with_reducible refine (HXC.out _ hw').mono ?_);exact fun e w2 ⟨he,hb⟩ => ⟨he,b_s hw' hb⟩) | rfl | exact ⟨rfl,rfl⟩))
   simp only [Act.put,sA,sB,sC]
   iterate 4 ((with_reducible refine quiet_yes ?hw ?_);(case hw => kernel_rfl);apply Exists.intro;refine ⟨fun w' hw' => ?_,?_⟩;(have hc := below_cells hw';unfold Oper.quietAt;go_simp;first | done | (with_reducible rfl) | (with_reducible exact ⟨rfl,rfl⟩) | (go_at_call 38;(with_reducible refine (HXC.out _ hw').mono ?_);exact fun e w2 ⟨he,hb⟩ => ⟨he,b_s hw' hb⟩) | rfl | exact ⟨rfl,rfl⟩))
   simp only [Act.put,sA,sB,sC]
   iterate 3 ((with_reducible refine quiet_yes ?hw ?_);(case hw => kernel_rfl);apply Exists.intro;refine ⟨fun w' hw' => ?_,?_⟩;(have hc := below_cells hw';unfold Oper.quietAt;go_simp;first | done | (with_reducible rfl) | (with_reducible exact ⟨rfl,rfl⟩) | (go_at_call 38;(with_reducible refine (HXC.out _ hw').mono ?_);exact fun e w2 ⟨he,hb⟩ => ⟨he,b_s hw' hb⟩) | rfl | exact ⟨rfl,rfl⟩))
   simp only [Act.put,sA,sB,sC]
   iterate 4 ((with_reducible refine quiet_yes ?hw ?_);(case hw => kernel_rfl);apply Exists.intro;refine ⟨fun w' hw' => ?_,?_⟩;(have hc := below_cells hw';unfold Oper.quietAt;go_simp;first | done | (with_reducible rfl) | (with_reducible exact ⟨rfl,rfl⟩) | (go_at_call 38;(with_reducible refine (HXC.out _ hw').mono ?_);exact fun e w2 ⟨he,hb⟩ => ⟨he,b_s hw' hb⟩) | rfl | exact ⟨rfl,rfl⟩))
   simp only [Act.put,sA,sB,sC]
   iterate 3 ((with_reducible refine quiet_yes ?hw ?_);(case hw => kernel_rfl);apply Exists.intro;refine ⟨fun w' hw' => ?_,?_⟩;(have hc := below_cells hw';unfold Oper.quietAt;go_simp;first | done | (with_reducible rfl) | (with_reducible exact ⟨rfl,rfl⟩) | (go_at_call 38;(with_reducible refine (HXC.out _ hw').mono ?_);exact fun e w2 ⟨he,hb⟩ => ⟨he,b_s hw' hb⟩) | rfl | exact ⟨rfl,rfl⟩))
   refine wpQuiet_nil ?_
   intro wq hw'
   have D_ := aS (D.out.step hw')
   clear hw' D HXC PX x0 x1 x2 x3 x4 x5 x6 c0_ c1_ c2_ c3_ c4_ c5_ c6_ c7_ c8_ c9_ c10_ c11_ c12_ c13_ c14_
   have D := D_
   clear D_
   simp only [Act.put,sA,sB,sC]
   go_wp2
   go_roundg g
   case rel => exact ⟨1,rfl,by omega,D⟩
   case measure => omega
  ·skip
   subst i1
   obtain ⟨g,rfl⟩ : ∃ g,gk = g + 1 := ⟨gk - 1,by omega⟩
   go_wp2_with (first | (go_at_call 76;(have D_ := aS (D.out.step (b_l (Below.refl _ _) (.cells #[.int .i64 t.st,.int .i64 t.ver,.slice q.A1 t.l.length q.c1,.slice q.Am t.ms.length q.cm,.slice q.Ar t.rs.length q.cr,.slice q.Ae t.echo.length q.ce,.slice q.Ac t.cs.length q.cc] 32))));(have PX := aS (blk_new wr (.cells #[.int .i64 t.st,.int .i64 t.ver,.slice q.A1 t.l.length q.c1,.slice q.Am t.ms.length q.cm,.slice q.Ar t.rs.length q.cr,.slice q.Ae t.echo.length q.ce,.slice q.Ac t.cs.length q.cc] 32)));clear D c0_ c1_ c2_ c3_ c4_ c5_ c6_ c7_ c8_ c9_ c10_ c11_ c12_ c13_ c14_;(have D := D_);clear D_;generalize wr.alloc _ = w5 at *;generalize wr.heap.size = g5 at *;refine (reject_Check.at t q _ (HT.out.step D.out.below) K5.out).mono ?_;rintro e w3 ⟨rfl,hb1⟩;(have D_ := aS (D.out.step hb1));(have P_ := aS (k_B PX.out hb1));clear D PX hb1;(have D := D_);(have PX := P_);clear D_ P_))
   have HXC : Aside0 (∀ W,Below w3.heap.size w3 W → Calls prog 38 #[.agg #[.slice q.Am t.ms.length q.cm,.slice q.Ar t.rs.length q.cr],.agg #[.int .i64 t.st,.int .i64 t.ver,.slice q.A1 t.l.length q.c1],.agg #[.int .i64 s.st,.int .i64 s.ver,.slice p.A1 s.l.length p.c1]] W fun e w' => e = .returned (.tuple #[.int .i64 0,.int .i64 0,.int .i64 0]) ∧ Below W.heap.size W w') := ⟨fun W hb => r38 (HT.out.step (b_s D.out.below hb)) (HS.out.step (b_s D.out.below hb)) K6.out⟩
   obtain ⟨c0_,c1_,c2_,c3_,c4_,c5_,c6_,c7_,c8_,c9_,c10_,c11_,c12_,c13_,c14_⟩ := cells_15 D.out.h1
   obtain ⟨x0,x1,x2,x3,x4,x5,x6⟩ := cells_7 PX.out
   refine wp_region_below (by kernel_rfl) (by kernel_rfl) ?_
   iterate 4 ((with_reducible refine quiet_yes ?hw ?_);(case hw => kernel_rfl);apply Exists.intro;refine ⟨fun w' hw' => ?_,?_⟩;(have hc := below_cells hw';unfold Oper.quietAt;go_simp;first | done | (with_reducible rfl) | (with_reducible exact ⟨rfl,rfl⟩) | (go_at_call 38;(with_reducible refine (HXC.out _ hw').mono ?_);exact fun e w2 ⟨he,hb⟩ => ⟨he,b_s hw' hb⟩) | rfl | exact ⟨rfl,rfl⟩))
   simp only [Act.put,sA,sB,sC]
   iterate 4 ((with_reducible refine quiet_yes ?hw ?_);(case hw => kernel_rfl);apply Exists.intro;refine ⟨fun w' hw' => ?_,?_⟩;(have hc := below_cells hw';unfold Oper.quietAt;go_simp;first | done | (with_reducible rfl) | (with_reducible exact ⟨rfl,rfl⟩) | (go_at_call 38;(with_reducible refine (HXC.out _ hw').mono ?_);exact fun e w2 ⟨he,hb⟩ => ⟨he,b_s hw' hb⟩) | rfl | exact ⟨rfl,rfl⟩))
   simp only [Act.put,sA,sB,sC]
   iterate 3 ((with_reducible refine quiet_yes ?hw ?_);(case hw => kernel_rfl);apply Exists.intro;refine ⟨fun w' hw' => ?_,?_⟩;(have hc := below_cells hw';unfold Oper.quietAt;go_simp;first | done | (with_reducible rfl) | (with_reducible exact ⟨rfl,rfl⟩) | (go_at_call 38;(with_reducible refine (HXC.out _ hw').mono ?_);exact fun e w2 ⟨he,hb⟩ => ⟨he,b_s hw' hb⟩) | rfl | exact ⟨rfl,rfl⟩))
   simp only [Act.put,sA,sB,sC]
   iterate 4 ((with_reducible refine quiet_yes ?hw ?_);(case hw => kernel_rfl);apply Exists.intro;refine ⟨fun w' hw' => ?_,?_⟩;(have hc := below_cells hw';unfold Oper.quietAt;go_simp;first | done | (with_reducible rfl) | (with_reducible exact ⟨rfl,rfl⟩) | (go_at_call 38;(with_reducible refine (HXC.out _ hw').mono ?_);exact fun e w2 ⟨he,hb⟩ => ⟨he,b_s hw' hb⟩) | rfl | exact ⟨rfl,rfl⟩))
   simp only [Act.put,sA,sB,sC]
   iterate 3 ((with_reducible refine quiet_yes ?hw ?_);(case hw => kernel_rfl);apply Exists.intro;refine ⟨fun w' hw' => ?_,?_⟩;(have hc := below_cells hw';unfold Oper.quietAt;go_simp;first | done | (with_reducible rfl) | (with_reducible exact ⟨rfl,rfl⟩) | (go_at_call 38;(with_reducible refine (HXC.out _ hw').mono ?_);exact fun e w2 ⟨he,hb⟩ => ⟨he,b_s hw' hb⟩) | rfl | exact ⟨rfl,rfl⟩))
   refine wpQuiet_nil ?_
   intro wq hw'
   have D_ := aS (D.out.step hw')
   clear hw' D HXC PX x0 x1 x2 x3 x4 x5 x6 c0_ c1_ c2_ c3_ c4_ c5_ c6_ c7_ c8_ c9_ c10_ c11_ c12_ c13_ c14_
   have D := D_
   clear D_
   simp only [Act.put,sA,sB,sC]
   go_wp2
   go_roundg g
   case rel => exact ⟨2,rfl,by omega,D⟩
   case measure => omega
  ·subst i2
   go_wp2
   go_ret3
   exact ⟨rfl,D.out.below⟩
end
theorem mem_rd66 {l : List S66} {p : S66} (h : p ∈ l) : ∃ j : Nat,j < l.length ∧ rd_T66 l (j : Int) = p := by
 obtain ⟨j,hj,e⟩ := List.getElem_of_mem h
 refine ⟨j,hj,?_⟩
 rw [← e]
 simp [rd_T66,List.getD_eq_getElem?_getD,List.getElem?_eq_getElem hj]
theorem rd94_get {l : List S94} {j : Nat} (hj : j < l.length) : rd_T94 l (j : Int) = l[j] := by
 simp [rd_T94,List.getD_eq_getElem?_getD,List.getElem?_eq_getElem hj]
theorem mem_rd94 {l : List S94} {p : S94} (h : p ∈ l) : ∃ j : Nat,j < l.length ∧ rd_T94 l (j : Int) = p := by
 obtain ⟨j,hj,e⟩ := List.getElem_of_mem h
 exact ⟨j,hj,(rd94_get hj).trans e⟩
def noOk (n : Int) : Prop := n = 0 ∨ (2 ≤ n ∧ n ≤ 128)
theorem InR_zero : InR (0,0) := ⟨0,0,rfl,by decide,by decide⟩
theorem bit_in {n : Int} (h : noOk n) : InR (withS (0,0) n) := by
 rcases h with rfl | ⟨h0,h1⟩
 ·exact (show withS (0,0) 0 = (0,0) by decide) ▸ InR_zero
 ·exact withS_in InR_zero h0 h1
theorem bits_apart_all : ∀ m n : Fin 129,(m ≠ n ∨ m = 0) → bothS (withS (0,0) (m.val : Int)) (withS (0,0) (n.val : Int)) = (0,0) := by decide +kernel
theorem bits_apart {m n : Int} (hm : noOk m) (hn : noOk n) (h : m ≠ n ∨ m = 0) : bothS (withS (0,0) m) (withS (0,0) n) = (0,0) := by
 have e := bits_apart_all ⟨m.toNat,by rcases hm with h | h <;> omega⟩ ⟨n.toNat,by rcases hn with h | h <;> omega⟩ (by
  rcases h with h | h
  ·refine .inl fun he => h ?_
   have := Fin.mk.inj he
   rcases hm with h1 | h1 <;> rcases hn with h2 | h2 <;> omega
  ·exact .inr (Fin.ext (by simp [h])))
 rw [show (((⟨m.toNat,_⟩ : Fin 129).val : Nat) : Int) = m from Int.toNat_of_nonneg (by rcases hm with h | h <;> omega),show (((⟨n.toNat,_⟩ : Fin 129).val : Nat) : Int) = n from Int.toNat_of_nonneg (by rcases hn with h | h <;> omega)] at e
 exact e
theorem eithS_in {p q : Int × Int} (hp : InR p) (hq : InR q) : InR (eithS p q) := by
 obtain ⟨a,b,rfl,ha,hb⟩ := hp
 obtain ⟨c,d,rfl,hc,hd⟩ := hq
 unfold eithS
 refine ⟨a ||| c,b ||| d,?_,Nat.or_lt_two_pow ha hc,Nat.or_lt_two_pow hb hd⟩
 rw [or_u64 (by omega) (by omega),or_u64 hb hd]
theorem both_eith {p x y : Int × Int} (hp : InR p) (hx : InR x) (hy : InR y) (h1 : bothS p y = (0,0)) (h2 : bothS x y = (0,0)) : bothS (eithS p x) y = (0,0) := by
 obtain ⟨a,b,rfl,ha,hb⟩ := hp
 obtain ⟨c,d,rfl,hc,hd⟩ := hx
 obtain ⟨u,v,rfl,hu,hv⟩ := hy
 have ha' : a < 2 ^ 64 := by omega
 have hc' : c < 2 ^ 64 := by omega
 have hu' : u < 2 ^ 64 := by omega
 unfold bothS at *
 unfold eithS
 simp only [and_u64 ha' hu',and_u64 hb hv,and_u64 hc' hu',and_u64 hd hv,or_u64 ha' hc',or_u64 hb hd,and_u64 (Nat.or_lt_two_pow ha' hc') hu',and_u64 (Nat.or_lt_two_pow hb hd) hv,Prod.mk.injEq] at *
 rw [Nat.and_or_distrib_right,Nat.and_or_distrib_right]
 obtain ⟨e1,e2⟩ := h1
 obtain ⟨e3,e4⟩ := h2
 rw [show a &&& u = 0 by omega,show b &&& v = 0 by omega,show c &&& u = 0 by omega,show d &&& v = 0 by omega]
 exact ⟨rfl,rfl⟩
theorem apartS_of : ∀ {rs : List S94} {p q : Int × Int},InR p → InR q → (∀ r ∈ rs,noOk r.f1 ∧ noOk r.f2) → (∀ r ∈ rs,bothS p (withS (0,0) r.f1) = (0,0) ∧ bothS q (withS (0,0) r.f2) = (0,0)) → rs.Pairwise (fun a b => twiceS a b = false) → apartS rs p q
 | [],_,_,_,_,_,_,_ => trivial
 | r :: rs,p,q,hp,hq,hn,h0,hw => by
  obtain ⟨n1,n2⟩ := hn r List.mem_cons_self
  obtain ⟨z1,z2⟩ := h0 r List.mem_cons_self
  obtain ⟨w1,w2⟩ := List.pairwise_cons.1 hw
  refine ⟨z1,z2,apartS_of (eithS_in hp (bit_in n1)) (eithS_in hq (bit_in n2)) (fun x hx => hn x (List.mem_cons_of_mem _ hx)) (fun x hx => ?_) w2⟩
  obtain ⟨m1,m2⟩ := hn x (List.mem_cons_of_mem _ hx)
  obtain ⟨y1,y2⟩ := h0 x (List.mem_cons_of_mem _ hx)
  have ht := w1 x hx
  unfold twiceS at ht
  simp only [Bool.or_eq_false_iff,Bool.and_eq_false_imp,decide_eq_true_eq,decide_eq_false_iff_not] at ht
  refine ⟨both_eith hp (bit_in n1) (bit_in m1) y1 (bits_apart n1 m1 ?_),both_eith hq (bit_in n2) (bit_in m2) y2 (bits_apart n2 m2 ?_)⟩
  ·by_cases e : r.f1 = 0
   ·exact .inr e
   ·exact .inl (ht.1 e)
  ·by_cases e : r.f2 = 0
   ·exact .inr e
   ·exact .inl (ht.2 e)
theorem find_no {st ver no : Int} {l : List S87} (hs : (schemaCheck st ver l).1 = 0) (h : (findS no l).2 = true) : noOk no := by
 obtain ⟨hm,he⟩ := findS_ok h
 have h2 := (schemaCheck_ok hs).2.2 _ hm
 rw [← he]
 refine .inr ?_
 exact ⟨(specCheck_facts h2).1,(specCheck_facts h2).2.1⟩
theorem mapOk_of {ms : List S66} {rs : List S94} {st1 ver1 : Int} {l1 : List S87} {st2 ver2 : Int} {l2 : List S87} (h : mapR ms rs st1 ver1 l1 st2 ver2 l2) : mapOk ms rs st1 ver1 l1 st2 ver2 l2 := by
 obtain ⟨h1,h2,h3,h4,h5,h6⟩ := h
 have ho : ∀ r ∈ rs,ruleOk l1 l2 r := fun r hr => by
  obtain ⟨j,hj,rfl⟩ := mem_rd94 hr
  exact (h6 j hj).1
 have hn : ∀ r ∈ rs,noOk r.f1 ∧ noOk r.f2 := fun r hr => by
  obtain ⟨e1,e2,e3,e4⟩ := (ho r hr).2.1
  refine ⟨?_,?_⟩
  ·by_cases e : r.f0 = 3
   ·exact .inl (e1 e)
   ·exact find_no h1 (e2 e)
  ·by_cases e : r.f0 = 2
   ·exact .inl (e3 e)
   ·exact find_no h2 (e4 e)
 refine ⟨h1,h2,h3,fun p hp => ?_,freshS_of [] 0 (fun s hs => by cases hs) (fun j hj => (h4 j hj).2),h5,ho,apartS_of InR_zero InR_zero hn (fun r hr => ⟨?_,?_⟩) ?_⟩
 ·obtain ⟨j,hj,rfl⟩ := mem_rd66 hp
  exact (h4 j hj).1
 ·exact bits_apart (m := 0) (.inl rfl) (hn r hr).1 (.inr rfl)
 ·exact bits_apart (m := 0) (.inl rfl) (hn r hr).2 (.inr rfl)
 ·refine List.pairwise_iff_getElem.2 fun i j hi hj hij => ?_
  have := (h6 j hj).2 rs[i] (by rw [List.mem_take_iff_getElem];exact ⟨i,by omega,rfl⟩)
  rwa [rd94_get hj] at this
theorem cfgK_of {s t : Sd} {most : Int} (h : cfgR s t most) : cfgK s t most := ⟨h.1,⟨h.2.1.1,mapOk_of h.2.1.2⟩,h.2.2.1,mapOk_of h.2.2.2⟩
def answerS (s : Sd) (most : Int) (m : ByteArray) (fs : List S63) (err : Int) : Int × ByteArray :=
 if reqM m = true then (if encS s.st s.l (respM m) (buildS fs s.echo s.cs err) = ⟨#[]⟩ then (3,⟨#[]⟩) else if most < ((encS s.st s.l (respM m) (buildS fs s.echo s.cs err)).size : Int) then (3,⟨#[]⟩) else (2,encS s.st s.l (respM m) (buildS fs s.echo s.cs err))) else (3,⟨#[]⟩)
def sdV (s : Sd) (p : Ad) : Array Value := #[.int .i64 s.st,.int .i64 s.ver,.slice p.A1 s.l.length p.c1,.slice p.Am s.ms.length p.cm,.slice p.Ar s.rs.length p.cr,.slice p.Ae s.echo.length p.ce,.slice p.Ac s.cs.length p.cc]
set_option maxHeartbeats 4000000 in
theorem route_answer_no.at (s : Sd) (p : Ad) (most : Int) (m : ByteArray) (Am : Option Addr) (cm : Nat) (fs : List S63) (err fld : Int) (g1 g0 : Nat) (w : World) (hq : reqM m = false)
  (h1 : w.heap[g1]? = some (.cells (sdV s p) 32 (0,0))) :
  Calls prog 31 #[.agg #[.string m,.slice Am fs.length cm],.agg #[.int .i64 err,.int .i64 fld],.pointer (some ⟨g1,0,none⟩),.pointer (some ⟨g0,0,none⟩)] w fun e w' => e = .returned (.tuple #[.int .i64 3,.string ⟨#[]⟩]) ∧ Below w.heap.size w w' := by
 have hu35 := underlying35
 have hu32 := underlying32
 have hu24 := underlying24
 have hu42 := underlying42
 have hu45 := underlying45
 unfold sdV at h1
 obtain ⟨x0,x1,x2,x3,x4,x5,x6⟩ := cells_7 (k_B h1 (Box2.start w (.cells #[.string m,.slice Am fs.length cm] 42) (.cells #[.int .i64 err,.int .i64 fld] 45)).below)
 have H1 := aS h1
 clear h1
 go_enter func31,ntmps31
 go_wp2_with (first | (go_at_call 14;refine (reject_Build_no.at _ _ _ _ _ _ _ m _ err fld _ ⟨⟨_,_,_,rfl⟩,⟨_,_,_,rfl⟩,⟨_,_,_,rfl⟩,⟨_,_,_,rfl⟩,⟨_,_,_,rfl⟩,⟨_,_,_,rfl⟩⟩ hq).mono ?_;rintro e w1 ⟨rfl,hb1⟩;have D := aS (Box2.init hb1);clear hb1))
 all_goals go_ret2
 all_goals exact ⟨rfl,b_s D.out.below (bO _)⟩
set_option maxHeartbeats 4000000 in
theorem route_answer_yes.at (s : Sd) (p : Ad) (most : Int) (m : ByteArray) (Am : Option Addr) (cm : Nat) (fs : List S63) (err fld : Int) (g1 g0 : Nat) (w : World) (hq : reqM m = true)
  (h1 : w.heap[g1]? = some (.cells (sdV s p) 32 (0,0))) (h0 : w.cell? ⟨g0,14,none⟩ = some (.int .i64 most)) (hA : SdAt w s p)
  (hle : s.echo.length ≤ 1000) (hlc : s.cs.length ≤ 1000) (hlm : fs.length ≤ 1000000) (hlb : (buildS fs s.echo s.cs err).length ≤ 1000000) (hrm : Kd.C k63 w Am fs.length fs) (hcm : fs.length ≤ cm)
  (hmo : msgOk s.st s.ver s.l (respM m) (buildS fs s.echo s.cs err) = true) :
  Calls prog 31 #[.agg #[.string m,.slice Am fs.length cm],.agg #[.int .i64 err,.int .i64 fld],.pointer (some ⟨g1,0,none⟩),.pointer (some ⟨g0,0,none⟩)] w fun e w' => e = .returned (.tuple #[.int .i64 (answerS s most m fs err).1,.string (answerS s most m fs err).2]) ∧ Below w.heap.size w w' := by
 have hu35 := underlying35
 have hu32 := underlying32
 have hu24 := underlying24
 have hu42 := underlying42
 have hu45 := underlying45
 unfold answerS
 rw [if_pos hq]
 unfold sdV at h1
 obtain ⟨x0,x1,x2,x3,x4,x5,x6⟩ := cells_7 (k_B h1 (Box2.start w (.cells #[.string m,.slice Am fs.length cm] 42) (.cells #[.int .i64 err,.int .i64 fld] 45)).below)
 have H1 := aS h1
 have H0 := aS (fun (W : World) (hb : Below w.heap.size w W) => (hb.cell (World.block_lt_of_cell? w _ h0)).trans h0)
 have HA := aS hA
 have HRM := aS hrm
 have HMO := aS hmo
 have HLB := aS hlb
 clear h1 h0 hA hrm hmo hlb
 generalize hbs : buildS fs s.echo s.cs err = bs at *
 have HBS := aS hbs
 clear hbs
 generalize henc : encS s.st s.l (respM m) bs = b at *
 have HENC := aS henc
 clear henc
 have e0 : (⟨#[]⟩ : ByteArray).toList = [] := by first | rfl | decide | simp
 have key : ∃ r t,(if b = ⟨#[]⟩ then ((3 : Int),(⟨#[]⟩ : ByteArray)) else if most < (b.size : Int) then (3,⟨#[]⟩) else (2,b)) = (r,t) ∧ ((b.toList = [] ∨ most < (b.size : Int)) → r = 3 ∧ t = ⟨#[]⟩) ∧ (¬ b.toList = [] → (b.size : Int) ≤ most → r = 2 ∧ t = b) := by
  split
  ·rename_i h
   exact ⟨_,_,rfl,fun _ => ⟨rfl,rfl⟩,fun h' => absurd (by rw [h];exact e0) h'⟩
  ·rename_i h
   have h' : ¬ b.toList = [] := fun hb => h (toL_inj (hb.trans e0.symm))
   split
   ·exact ⟨_,_,rfl,fun _ => ⟨rfl,rfl⟩,fun _ _ => by omega⟩
   ·rename_i h2
    exact ⟨_,_,rfl,fun h3 => (h3.elim (fun a => absurd a h') (fun a => absurd a h2)),fun _ _ => ⟨rfl,rfl⟩⟩
 clear e0
 obtain ⟨r,t,e,hk0⟩ := key
 rw [e]
 clear e
 have HK := aS hk0
 clear hk0
 go_enter func31,ntmps31
 go_wp2_with (first | (go_at_call 14;refine (reject_Build.at s.st s.ver _ _ _ p.Ae p.ce s.echo p.Ac p.cc s.cs m Am cm fs err fld _ ⟨⟨_,_,_,rfl⟩,⟨_,_,_,rfl⟩,⟨_,_,_,rfl⟩⟩ hle (c_B HA.out.re (Box2.start w _ _).below) HA.out.he hlc (c_B HA.out.rc (Box2.start w _ _).below) HA.out.hc hlm (c_B HRM.out (Box2.start w _ _).below) hcm hq).mono ?_;rintro e w1 ⟨⟨A',c',rfl,hc',hr'⟩,hb1⟩;have D := aS (Box2.init hb1);clear hb1 x0 x1 x2 x3 x4 x5 x6;rw [HBS.out] at hr' hc' ⊢;have HR' := aS hr';have HC' := aS hc';clear hr' hc';obtain ⟨x0,x1,x2,x3,x4,x5,x6⟩ := cells_7 (k_B H1.out (b_s D.out.below (b_l (Below.refl _ _) (.cells #[.string (respM m),.slice A' bs.length c'] 42))))) | (go_at_call 12;refine (wire_Encode.at s.st s.ver p.A1 p.c1 s.l (respM m) A' c' bs _ HA.out.n1 (c_B HA.out.r1 (b_s D.out.below (bO _))) HA.out.h1 HLB.out (c_B HR'.out (bO _)) HC'.out HMO.out).mono ?_;rintro e w2 ⟨rfl,hb2⟩;rw [HENC.out];have E := aS (b_s (b_s D.out.below (bO _)) hb2);clear hb2 D x0 x1 x2 x3 x4 x5 x6;have hmost := H0.out _ (b_s E.out (b_l (Below.refl _ _) (.cells #[.int .i64 0,.int .i64 0] 45)))))
 ·rename_i hh
  go_ret2
  obtain ⟨rfl,rfl⟩ := HK.out.1 (.inl hh)
  exact ⟨rfl,b_s E.out (bO _)⟩
 ·rename_i hn hh
  go_ret2
  obtain ⟨rfl,rfl⟩ := HK.out.1 (hh.elim (fun a => .inl (List.isEmpty_iff.1 a)) .inr)
  exact ⟨rfl,b_s E.out (bO _)⟩
 ·rename_i hn hh
  go_ret2
  obtain ⟨rfl,rfl⟩ := HK.out.2 hn hh.2
  exact ⟨rfl,b_s E.out (bO _)⟩
theorem fieldsOk_len {l : List S87} (hl : ∀ x ∈ l,specCheck x = 0) : ∀ {xs : List S63} {last : Int},last ≤ 128 → fieldsOk l last xs = true → last + xs.length ≤ 128
 | [],last,h,_ => by simpa using h
 | x :: xs,last,h,hf => by
  obtain ⟨h1,h2,h3,h4⟩ := fieldsOk_cons hf
  have h5 := (fieldsOk_memE hl _ _ hf x (by simp)).1.2
  have := fieldsOk_len hl h5 h4
  simp only [List.length_cons]
  omega
theorem decG_len {st ver : Int} {l : List S87} {b : ByteArray} (hs : (schemaCheck st ver l).1 = 0) : (decG st ver l b).1.2.length ≤ 128 := by
 have := fieldsOk_len (schemaCheck_ok hs).2.2 (by omega) (decG_fields (b := b) hs)
 omega
theorem msgOk_len {st ver : Int} {l : List S87} {m : ByteArray} {xs : List S63} (h : msgOk st ver l m xs = true) : xs.length ≤ 128 := by
 unfold msgOk at h
 simp only [Bool.and_eq_true,decide_eq_true_eq] at h
 have := fieldsOk_len (schemaCheck_ok h.1).2.2 (by omega) h.2.2
 omega
theorem rd_nat {l : List Int} {x : Int} (h : x ∈ l) : ∃ j : Nat,j < l.length ∧ rd l (j : Int) = x := by
 obtain ⟨j,hj,e⟩ := List.getElem_of_mem h
 exact ⟨j,hj,by simp [rd,List.getD_eq_getElem?_getD,List.getElem?_eq_getElem hj,e]⟩
theorem rd_nat129 {l : List S129} {x : S129} (h : x ∈ l) : ∃ j : Nat,j < l.length ∧ rd_T129 l (j : Int) = x := by
 obtain ⟨j,hj,e⟩ := List.getElem_of_mem h
 exact ⟨j,hj,by simp [rd_T129,List.getD_eq_getElem?_getD,List.getElem?_eq_getElem hj,e]⟩
theorem sideOk_of {st ver : Int} {l : List S87} {echo : List Int} {cs : List S129} (h : sideR st ver l echo cs) : sideOk st ver l echo cs := by
 obtain ⟨h1,h2,h3,h4,h5⟩ := h
 refine ⟨h1,h2,fun no hn => ?_,fun c hc => ?_,h5⟩
 ·obtain ⟨j,hj,rfl⟩ := rd_nat hn
  exact (h3 j hj).1
 ·obtain ⟨j,hj,rfl⟩ := rd_nat129 hc
  exact (h4 j hj).2.2
theorem SdSz_of {s : Sd} (h : sideSz s) (h2 : mpSz s) : SdSz s where
 m := fun p hp => by have := h2.2.2.1 p hp;omega
 r := fun r hr => by
  have := h2.2.2.2 r hr
  refine ⟨by have := this.1;omega,by have := this.2.1;omega,fun p hp => ?_⟩
  have := this.2.2 p hp
  omega
 c := fun p hp => by have := h.2.2.2 p hp;omega
theorem route_answer.at (s : Sd) (p : Ad) (most : Int) (m : ByteArray) (Am : Option Addr) (cm : Nat) (fs : List S63) (err fld : Int) (g1 g0 : Nat) (w : World)
  (h1 : w.heap[g1]? = some (.cells (sdV s p) 32 (0,0))) (h0 : w.cell? ⟨g0,14,none⟩ = some (.int .i64 most)) (hA : SdAt w s p)
  (hle : s.echo.length ≤ 1000) (hlc : s.cs.length ≤ 1000) (hlm : fs.length ≤ 1000000) (hrm : Kd.C k63 w Am fs.length fs) (hcm : fs.length ≤ cm)
  (hmo : reqM m = true → msgOk s.st s.ver s.l (respM m) (buildS fs s.echo s.cs err) = true) :
  Calls prog 31 #[.agg #[.string m,.slice Am fs.length cm],.agg #[.int .i64 err,.int .i64 fld],.pointer (some ⟨g1,0,none⟩),.pointer (some ⟨g0,0,none⟩)] w fun e w' => e = .returned (.tuple #[.int .i64 (answerS s most m fs err).1,.string (answerS s most m fs err).2]) ∧ Below w.heap.size w w' := by
 rcases hq : reqM m with _ | _
 ·refine (route_answer_no.at s p most m Am cm fs err fld g1 g0 w hq h1).mono ?_
  rintro e w' ⟨rfl,hb⟩
  refine ⟨?_,hb⟩
  unfold answerS
  rw [if_neg (by rw [hq];exact Bool.false_ne_true)]
 ·refine route_answer_yes.at s p most m Am cm fs err fld g1 g0 w hq h1 h0 hA hle hlc hlm ?_ hrm hcm (hmo hq)
  have h2 : ∀ (l : List Int) (acc : List S63),(echoS fs l acc).length ≤ acc.length + l.length := by
   intro l
   induction l with
   | nil => intro acc;exact Nat.le_refl _
   | cons x l ih =>
    intro acc
    rw [echoS]
    refine Nat.le_trans (ih _) ?_
    split
    ·have := withM_len x (getS x fs).1 acc
     simp only [List.length_cons]
     omega
    ·simp only [List.length_cons]
     omega
  have h3 := withM_len 39 (rejCode s.cs err) (echoS fs s.echo [])
  have h4 := h2 s.echo []
  unfold buildS
  simp only [List.length_nil] at h4
  omega
theorem decG_zero {st ver : Int} {l : List S87} {b : ByteArray} (h : (decG st ver l b).2.1 = 0) : (decG st ver l b).2.2 = 0 := by
 unfold decG decB at h ⊢
 (repeat' split at h) <;> first | contradiction | (exact absurd h (by intro h9;exact absurd (show (12 : Int) = 0 from h9) (by decide))) | skip
 rename_i a c d e
 rw [if_neg a,if_neg c,if_neg d,if_neg e]
theorem transS_zero {ms : List S66} {rs : List S94} {l : List S87} {m : ByteArray} {xs : List S63} (h : (transS ms rs l m xs).2.1 = 0) : (transS ms rs l m xs).2.2 = 0 := by
 unfold transS at h ⊢
 (repeat' split at h) <;> first | contradiction | (exact absurd h (by intro h9;exact absurd (show (7 : Int) = 0 from h9) (by decide))) | skip
 rename_i a c
 rw [if_neg a,if_neg c]
theorem encF_size (st : Int) (l : List S87) : ∀ (xs : List S63) (acc : ByteArray),acc.size ≤ (encF st l xs acc).size
 | [],acc => Nat.le_refl _
 | x :: xs,acc => by
  rw [encF]
  have := encF_size st l xs (acc ++ cellP st (findS x.f0 l).1 x.f1)
  rw [ByteArray.size_append] at this
  omega
theorem encS_ne {st ver : Int} {l : List S87} {m : ByteArray} {xs : List S63} (h : msgOk st ver l m xs = true) : encS st l m xs ≠ ⟨#[]⟩ := by
 unfold msgOk at h
 simp only [Bool.and_eq_true,decide_eq_true_eq] at h
 have hm : isMti m = true := by
  have := h.2.1
  unfold verV at this
  split at this
  ·assumption
  ·cases this
 have h4 := (isMti_iff.1 hm).1
 intro he
 have h5 := encF_size st l xs (typP st m ++ bmP st (setS xs (0,0)))
 have h6 : encF st l xs (typP st m ++ bmP st (setS xs (0,0))) = ⟨#[]⟩ := he
 rw [h6,ByteArray.size_append] at h5
 have h7 : (⟨#[]⟩ : ByteArray).size = 0 := rfl
 rw [h7] at h5
 rcases (schemaCheck_ok h.1).1 with rfl | rfl
 ·have : typP 1 m = m := rfl
  rw [this] at h5
  omega
 ·have h8 : 8 ≤ (bmP 2 (setS xs (0,0))).size := by
   unfold bmP
   have n1 : ((2 : Int) = 1) = False := eq_false (by decide)
   simp only [n1,if_false]
   split
   ·rw [str8_size]
    exact Nat.le_refl _
   ·rw [ByteArray.size_append,str8_size]
    exact Nat.le_add_right _ _
  omega
section
attribute [local go_sem] wr1_7 wr0_7
theorem froz_7 {w : World} {g : Nat} {t : TypeId} {cs : Array Value} (h : w.heap[g]? = some (.cells cs t (0,0))) : w.frozen? ⟨g,0,none⟩ = false ∧ w.frozen? ⟨g,1,none⟩ = false ∧ w.frozen? ⟨g,2,none⟩ = false ∧ w.frozen? ⟨g,3,none⟩ = false ∧ w.frozen? ⟨g,4,none⟩ = false ∧ w.frozen? ⟨g,5,none⟩ = false ∧ w.frozen? ⟨g,6,none⟩ = false := ⟨blk_frozen h 0,blk_frozen h 1,blk_frozen h 2,blk_frozen h 3,blk_frozen h 4,blk_frozen h 5,blk_frozen h 6⟩
set_option maxHeartbeats 4000000 in
theorem put7 {W : World} {B B0 : Nat} {t : TypeId} {v0 v1 v2 v3 v4 v5 v6 : Value} (h : W.heap[B]? = some (.cells #[v0,v1,v2,v3,v4,v5,v6] t (0,0))) (hB : B0 ≤ B) (u0 u1 u2 u3 u4 u5 u6 : Value) :
  (((((((W.setCell ⟨B,0,none⟩ u0).setCell ⟨B,1,none⟩ u1).setCell ⟨B,2,none⟩ u2).setCell ⟨B,3,none⟩ u3).setCell ⟨B,4,none⟩ u4).setCell ⟨B,5,none⟩ u5).setCell ⟨B,6,none⟩ u6).heap[B]? = some (.cells #[u0,u1,u2,u3,u4,u5,u6] t (0,0)) ∧ Below B0 W (((((((W.setCell ⟨B,0,none⟩ u0).setCell ⟨B,1,none⟩ u1).setCell ⟨B,2,none⟩ u2).setCell ⟨B,3,none⟩ u3).setCell ⟨B,4,none⟩ u4).setCell ⟨B,5,none⟩ u5).setCell ⟨B,6,none⟩ u6) ∧ (∀ (C : Nat) (o : Obj),W.heap[C]? = some o → C ≠ B → (((((((W.setCell ⟨B,0,none⟩ u0).setCell ⟨B,1,none⟩ u1).setCell ⟨B,2,none⟩ u2).setCell ⟨B,3,none⟩ u3).setCell ⟨B,4,none⟩ u4).setCell ⟨B,5,none⟩ u5).setCell ⟨B,6,none⟩ u6).heap[C]? = some o) :=
 ⟨(blk_put (blk_put (blk_put (blk_put (blk_put (blk_put (blk_put h 0 _ rfl) 1 _ rfl) 2 _ rfl) 3 _ rfl) 4 _ rfl) 5 _ rfl) 6 _ rfl),(Below.setCell (Below.setCell (Below.setCell (Below.setCell (Below.setCell (Below.setCell (Below.setCell (Below.refl _ _) (p := ⟨B,0,none⟩) hB _) (p := ⟨B,1,none⟩) hB _) (p := ⟨B,2,none⟩) hB _) (p := ⟨B,3,none⟩) hB _) (p := ⟨B,4,none⟩) hB _) (p := ⟨B,5,none⟩) hB _) (p := ⟨B,6,none⟩) hB _),fun C o h2 hne => (T.far _ _ (T.far _ _ (T.far _ _ (T.far _ _ (T.far _ _ (T.far _ _ (T.far _ _ h2 hne) hne) hne) hne) hne) hne) hne)⟩
def post4 (hv tv : Value) (g0 oh ot : Nat) (lk : Int) (B0 : Nat) (ca : Array Value) : Nat → Value → World → Prop
 | 0,v,_ => v = .int .i64 lk
 | 1,v,_ => v = .pointer (some ⟨g0,0,none⟩)
 | 2,v,_ => v = .pointer (some ⟨g0,oh,none⟩)
 | 3,v,_ => v = hv
 | 4,v,_ => v = .int .i64 lk
 | 5,v,_ => v = .int .i64 (1 - lk)
 | 6,v,_ => v = .pointer (some ⟨g0,0,none⟩)
 | 7,v,_ => v = .pointer (some ⟨g0,ot,none⟩)
 | 8,v,_ => v = tv
 | 9,v,w => ∃ B,v = .pointer (some ⟨B,0,none⟩) ∧ B0 ≤ B ∧ w.heap[B]? = some (.cells ca 32 (0,0))
 | _,v,w => ∃ B,v = .pointer (some ⟨B,0,none⟩) ∧ B0 ≤ B ∧ w.heap[B]? = some (.cells #[.int .i64 0,.int .i64 0,.slice none 0 0,.slice none 0 0,.slice none 0 0,.slice none 0 0,.slice none 0 0] 32 (0,0))
def rel4 (i j : Nat) (u v : Value) : Prop := (i = 9 ∧ j = 10 ∨ i = 10 ∧ j = 9) → u ≠ v
def dst4 (i : Nat) : Tmp := [35,36,37,38,39,40,41,42,43,11,12].getD i 0
def done4 (i : Nat) : Bool := [true,true,true,true,false,false,false,false,false,true,true].getD i false
theorem post4_st {hv tv : Value} {g0 oh ot : Nat} {lk : Int} {B0 : Nat} {ca : Array Value} (i : Nat) (u : Value) (W W' : World) (hp : post4 hv tv g0 oh ot lk B0 ca i u W) (hb : Below W.heap.size W W') : post4 hv tv g0 oh ot lk B0 ca i u W' := by
 match i,hp with
 | 0,hp => exact hp
 | 1,hp => exact hp
 | 2,hp => exact hp
 | 3,hp => exact hp
 | 4,hp => exact hp
 | 5,hp => exact hp
 | 6,hp => exact hp
 | 7,hp => exact hp
 | 8,hp => exact hp
 | 9,hp => obtain ⟨B,e1,e2,e3⟩ := hp;exact ⟨B,e1,e2,k_B e3 hb⟩
 | n + 10,hp => obtain ⟨B,e1,e2,e3⟩ := hp;exact ⟨B,e1,e2,k_B e3 hb⟩
def outS (s t : Sd) (most : Int) (b : ByteArray) : Int × ByteArray :=
 if (decG s.st s.ver s.l b).2.1 ≠ 0 then answerS s most (decG s.st s.ver s.l b).1.1 (decG s.st s.ver s.l b).1.2 (decG s.st s.ver s.l b).2.1 else
 if (transS s.ms s.rs t.l (decG s.st s.ver s.l b).1.1 (decG s.st s.ver s.l b).1.2).2.1 ≠ 0 then answerS s most (decG s.st s.ver s.l b).1.1 (decG s.st s.ver s.l b).1.2 (transS s.ms s.rs t.l (decG s.st s.ver s.l b).1.1 (decG s.st s.ver s.l b).1.2).2.1 else
 if most < ((encS t.st t.l (transS s.ms s.rs t.l (decG s.st s.ver s.l b).1.1 (decG s.st s.ver s.l b).1.2).1.1 (transS s.ms s.rs t.l (decG s.st s.ver s.l b).1.1 (decG s.st s.ver s.l b).1.2).1.2).size : Int) then answerS s most (decG s.st s.ver s.l b).1.1 (decG s.st s.ver s.l b).1.2 5 else
 (1,encS t.st t.l (transS s.ms s.rs t.l (decG s.st s.ver s.l b).1.1 (decG s.st s.ver s.l b).1.2).1.1 (transS s.ms s.rs t.l (decG s.st s.ver s.l b).1.1 (decG s.st s.ver s.l b).1.2).1.2)
set_option maxHeartbeats 4000000 in
theorem route_Outcome_0.at (s t : Sd) (p q : Ad) (most : Int) (b : ByteArray) (w : World) (h1 : SdAt w s p) (h2 : SdAt w t q) (hk : cfgK s t most) (hsz : b.size ≤ 100000) (hside : sideOk s.st s.ver s.l s.echo s.cs) (hle : s.echo.length ≤ 1000) (hlc : s.cs.length ≤ 1000) (hxl : (decG s.st s.ver s.l b).1.2.length ≤ 1000) :
  Calls prog 9 #[.agg #[.int .i64 s.st,.int .i64 s.ver,.slice p.A1 s.l.length p.c1,.slice p.Am s.ms.length p.cm,.slice p.Ar s.rs.length p.cr,.slice p.Ae s.echo.length p.ce,.slice p.Ac s.cs.length p.cc,.int .i64 t.st,.int .i64 t.ver,.slice q.A1 t.l.length q.c1,.slice q.Am t.ms.length q.cm,.slice q.Ar t.rs.length q.cr,.slice q.Ae t.echo.length q.ce,.slice q.Ac t.cs.length q.cc,.int .i64 most],.int .i64 0,.string b] w fun e w' => e = .returned (.tuple #[.int .i64 (outS s t most b).1,.string (outS s t most b).2]) ∧ Below w.heap.size w w' := by
 have hu35 := underlying35
 have hu33 := underlying33
 have hu32 := underlying32
 have hu28 := underlying28
 have hu24 := underlying24
 have hu42 := underlying42
 have hu45 := underlying45
 have HS := aS h1
 have HT := aS h2
 have HK := aS hk
 have HSI := aS hside
 have HXL := aS hxl
 clear h1 h2 hk hside hxl
 have HMO : Aside0 (∀ e,reqM (decG s.st s.ver s.l b).1.1 = true → msgOk s.st s.ver s.l (respM (decG s.st s.ver s.l b).1.1) (buildS (decG s.st s.ver s.l b).1.2 s.echo s.cs e) = true) := ⟨fun e hq => build_msgOk HSI.out hq e⟩
 obtain ⟨o,ho⟩ : ∃ o,outS s t most b = o := ⟨_,rfl⟩
 rw [ho]
 unfold outS at ho
 have HO := aS ho
 clear ho
 have HDE : Aside0 (∀ W,Below w.heap.size w W → Calls prog 10 #[.agg #[.int .i64 s.st,.int .i64 s.ver,.slice p.A1 s.l.length p.c1],.string b] W fun e w' => (∃ A' c',e = .returned (.tuple #[.agg #[.string (decG s.st s.ver s.l b).1.1,.slice A' (decG s.st s.ver s.l b).1.2.length c'],.agg #[.int .i64 (decG s.st s.ver s.l b).2.1,.int .i64 (decG s.st s.ver s.l b).2.2]]) ∧ (decG s.st s.ver s.l b).1.2.length ≤ c' ∧ Kd.C k63 w' A' (decG s.st s.ver s.l b).1.2.length (decG s.st s.ver s.l b).1.2) ∧ Below W.heap.size W w') := ⟨fun W hb => strict_Decode.at s.st s.ver p.A1 p.c1 s.l b W HS.out.n1 (c_B HS.out.r1 hb) HS.out.h1 HSI.out.1 hsz⟩
 have HDM : Aside0 ((decG s.st s.ver s.l b).2.1 = 0 → msgOk s.st s.ver s.l (decG s.st s.ver s.l b).1.1 (decG s.st s.ver s.l b).1.2 = true) := ⟨fun h => decG_msgOk HSI.out.1 h⟩
 generalize decG s.st s.ver s.l b = d at *
 obtain ⟨⟨m,xs⟩,ec,ef⟩ := d
 simp only at *
 obtain ⟨c0_,c1_,c2_,c3_,c4_,c5_,c6_,c7_,c8_,c9_,c10_,c11_,c12_,c13_,c14_⟩ := cells_15 (Box1.start w (.cells #[.int .i64 s.st,.int .i64 s.ver,.slice p.A1 s.l.length p.c1,.slice p.Am s.ms.length p.cm,.slice p.Ar s.rs.length p.cr,.slice p.Ae s.echo.length p.ce,.slice p.Ac s.cs.length p.cc,.int .i64 t.st,.int .i64 t.ver,.slice q.A1 t.l.length q.c1,.slice q.Am t.ms.length q.cm,.slice q.Ar t.rs.length q.cr,.slice q.Ae t.echo.length q.ce,.slice q.Ac t.cs.length q.cc,.int .i64 most] 35)).h1
 go_enter func9,ntmps9
 go_wp2_with (first | (go_at_call 30;refine (route_Check.at s t p q most _ (HS.out.step (Box1.start w _).below) (HT.out.step (Box1.start w _).below) HK.out).mono ?_;rintro e w1 ⟨rfl,hb1⟩;have D := aS ((Box1.start w (.cells #[.int .i64 s.st,.int .i64 s.ver,.slice p.A1 s.l.length p.c1,.slice p.Am s.ms.length p.cm,.slice p.Ar s.rs.length p.cr,.slice p.Ae s.echo.length p.ce,.slice p.Ac s.cs.length p.cc,.int .i64 t.st,.int .i64 t.ver,.slice q.A1 t.l.length q.c1,.slice q.Am t.ms.length q.cm,.slice q.Ar t.rs.length q.cr,.slice q.Ae t.echo.length q.ce,.slice q.Ac t.cs.length q.cc,.int .i64 most] 35)).step hb1);clear hb1 c0_ c1_ c2_ c3_ c4_ c5_ c6_ c7_ c8_ c9_ c10_ c11_ c12_ c13_ c14_;obtain ⟨c0_,c1_,c2_,c3_,c4_,c5_,c6_,c7_,c8_,c9_,c10_,c11_,c12_,c13_,c14_⟩ := cells_15 D.out.h1))
 refine region_split (by kernel_rfl) (fun wr hbr hsr => ?_)
 have D_ := aS (D.out.step hbr)
 clear D hbr c0_ c1_ c2_ c3_ c4_ c5_ c6_ c7_ c8_ c9_ c10_ c11_ c12_ c13_ c14_
 have D := D_
 clear D_
 refine wpAny_split 11 dst4 (post4 (.agg #[.int .i64 s.st,.int .i64 s.ver,.slice p.A1 s.l.length p.c1,.slice p.Am s.ms.length p.cm,.slice p.Ar s.rs.length p.cr,.slice p.Ae s.echo.length p.ce,.slice p.Ac s.cs.length p.cc]) (.agg #[.int .i64 t.st,.int .i64 t.ver,.slice q.A1 t.l.length q.c1,.slice q.Am t.ms.length q.cm,.slice q.Ar t.rs.length q.cr,.slice q.Ae t.echo.length q.ce,.slice q.Ac t.cs.length q.cc]) w.heap.size 0 7 0 wr.heap.size #[.int .i64 0,.int .i64 0,.slice none 0 0,.slice none 0 0,.slice none 0 0,.slice none 0 0,.slice none 0 0]) (post4 (.agg #[.int .i64 s.st,.int .i64 s.ver,.slice p.A1 s.l.length p.c1,.slice p.Am s.ms.length p.cm,.slice p.Ar s.rs.length p.cr,.slice p.Ae s.echo.length p.ce,.slice p.Ac s.cs.length p.cc]) (.agg #[.int .i64 t.st,.int .i64 t.ver,.slice q.A1 t.l.length q.c1,.slice q.Am t.ms.length q.cm,.slice q.Ar t.rs.length q.cr,.slice q.Ae t.echo.length q.ce,.slice q.Ac t.cs.length q.cc]) w.heap.size 0 7 0 wr.heap.size #[.int .i64 s.st,.int .i64 s.ver,.slice p.A1 s.l.length p.c1,.slice p.Am s.ms.length p.cm,.slice p.Ar s.rs.length p.cr,.slice p.Ae s.echo.length p.ce,.slice p.Ac s.cs.length p.cc]) rel4 _ wr rfl _ _ rfl rfl (fun i j u v h hij => (h (by omega)).symm) post4_st post4_st ?rlow ?rgrow done4 ?rdone ?rgrow2 ?rinj ?rsz rfl rfl (by decide) (by decide) ⟨⟨11,.chain⟩,by simp,rfl,rfl⟩ ?rall ?rs1 ?rs2 _ _ _ (Nat.le_refl _) ⟨rfl,rfl,fun _ _ => rfl⟩ (Below.refl _ _)
 case rlow =>
  intro i o hi ho
  rcases (show i = 0 ∨ i = 1 ∨ i = 2 ∨ i = 3 ∨ i = 4 ∨ i = 5 ∨ i = 6 ∨ i = 7 ∨ i = 8 ∨ i = 9 ∨ i = 10 by omega) with rfl | rfl | rfl | rfl | rfl | rfl | rfl | rfl | rfl | rfl | rfl <;> (cases ho;exact ⟨rfl,rfl,by decide⟩)
 case rinj =>
  intro i j hi hj
  revert j
  revert i
  decide
 case rsz =>
  intro i hi
  exact Nat.lt_of_lt_of_le ((by decide : ∀ i,i < 11 → dst4 i < 100) i hi) (Nat.le_of_ble_eq_true rfl)
 case rdone =>
  intro i hi hd
  rcases (show i = 0 ∨ i = 1 ∨ i = 2 ∨ i = 3 ∨ i = 4 ∨ i = 5 ∨ i = 6 ∨ i = 7 ∨ i = 8 ∨ i = 9 ∨ i = 10 by omega) with rfl | rfl | rfl | rfl | rfl | rfl | rfl | rfl | rfl | rfl | rfl
  ·exact ⟨⟨0,.phase⟩,by simp,rfl,rfl⟩
  ·exact ⟨⟨1,.phase⟩,by simp,rfl,rfl⟩
  ·exact ⟨⟨2,.phase⟩,by simp,rfl,rfl⟩
  ·exact ⟨⟨3,.phase⟩,by simp,rfl,rfl⟩
  ·cases hd
  ·cases hd
  ·cases hd
  ·cases hd
  ·cases hd
  ·exact ⟨⟨9,.phase⟩,by simp,rfl,rfl⟩
  ·exact ⟨⟨10,.phase⟩,by simp,rfl,rfl⟩
 case rall =>
  intro j hj
  refine ⟨⟨j,.phase⟩,?_,rfl,rfl⟩
  rcases (show j = 0 ∨ j = 1 ∨ j = 2 ∨ j = 3 ∨ j = 4 ∨ j = 5 ∨ j = 6 ∨ j = 7 ∨ j = 8 ∨ j = 9 ∨ j = 10 by omega) with rfl | rfl | rfl | rfl | rfl | rfl | rfl | rfl | rfl | rfl | rfl <;> simp
 case rgrow =>
  intro i o hi ho a W hb hf hp K' hK
  have HK := aS hK
  have HB := aS hb
  have D2 := aS (D.out.step hb)
  clear hK hb D
  rcases (show i = 0 ∨ i = 1 ∨ i = 2 ∨ i = 3 ∨ i = 4 ∨ i = 5 ∨ i = 6 ∨ i = 7 ∨ i = 8 ∨ i = 9 ∨ i = 10 by omega) with rfl | rfl | rfl | rfl | rfl | rfl | rfl | rfl | rfl | rfl | rfl
  ·cases ho
   have e1 : a.tmps[1]? = some (.int .i64 0) := (hf.2.2 1 (by decide)).trans rfl
   clear hp hf
   unfold Oper.wp
   go_simp
   exact HK.out _ _ (Below.refl _ _) rfl (fun _ _ _ _ _ h => by omega)
  ·cases ho
   have e3 : a.tmps[3]? = some (.pointer (some ⟨w.heap.size,0,none⟩)) := (hf.2.2 3 (by decide)).trans rfl
   clear hp hf
   unfold Oper.wp
   go_simp
   exact HK.out _ _ (Below.refl _ _) rfl (fun _ _ _ _ _ h => by omega)
  ·cases ho
   have h0 : a.eval (.tmp 35) = .int .i64 0 := hp ⟨0,.data⟩ (by simp) rfl
   have h1 : a.eval (.tmp 36) = .pointer (some ⟨w.heap.size,0,none⟩) := hp ⟨1,.data⟩ (by simp) rfl
   clear hp hf
   simp only [Act.eval,Array.getD_eq_getD_getElem?] at h0 h1
   unfold Oper.wp
   go_simp
   exact HK.out _ _ (Below.refl _ _) rfl (fun _ _ _ _ _ h => by omega)
  ·cases ho
   have h2 : a.eval (.tmp 37) = .pointer (some ⟨w.heap.size,0,none⟩) := hp ⟨2,.data⟩ (by simp) rfl
   clear hp hf
   simp only [Act.eval,Array.getD_eq_getD_getElem?] at h2
   obtain ⟨c0_,c1_,c2_,c3_,c4_,c5_,c6_,c7_,c8_,c9_,c10_,c11_,c12_,c13_,c14_⟩ := cells_15 D2.out.h1
   unfold Oper.wp
   go_simp
   exact HK.out _ _ (Below.refl _ _) rfl (fun _ _ _ _ _ h => by omega)
  ·cases ho
   have e1 : a.tmps[1]? = some (.int .i64 0) := (hf.2.2 1 (by decide)).trans rfl
   clear hp hf
   unfold Oper.wp
   go_simp
   exact HK.out _ _ (Below.refl _ _) rfl (fun _ _ _ _ _ h => by omega)
  ·cases ho
   have h4 : a.eval (.tmp 39) = .int .i64 0 := hp ⟨4,.data⟩ (by simp) rfl
   clear hp hf
   simp only [Act.eval,Array.getD_eq_getD_getElem?] at h4
   unfold Oper.wp
   go_simp
   exact HK.out _ _ (Below.refl _ _) rfl (fun _ _ _ _ _ h => by omega)
  ·cases ho
   have e3 : a.tmps[3]? = some (.pointer (some ⟨w.heap.size,0,none⟩)) := (hf.2.2 3 (by decide)).trans rfl
   clear hp hf
   unfold Oper.wp
   go_simp
   exact HK.out _ _ (Below.refl _ _) rfl (fun _ _ _ _ _ h => by omega)
  ·cases ho
   have h5 : a.eval (.tmp 40) = .int .i64 (1 - 0) := hp ⟨5,.data⟩ (by simp) rfl
   have h6 : a.eval (.tmp 41) = .pointer (some ⟨w.heap.size,0,none⟩) := hp ⟨6,.data⟩ (by simp) rfl
   clear hp hf
   simp only [Act.eval,Array.getD_eq_getD_getElem?] at h5 h6
   unfold Oper.wp
   go_simp
   exact HK.out _ _ (Below.refl _ _) rfl (fun _ _ _ _ _ h => by omega)
  ·cases ho
   have h7 : a.eval (.tmp 42) = .pointer (some ⟨w.heap.size,7,none⟩) := hp ⟨7,.data⟩ (by simp) rfl
   clear hp hf
   simp only [Act.eval,Array.getD_eq_getD_getElem?] at h7
   obtain ⟨c0_,c1_,c2_,c3_,c4_,c5_,c6_,c7_,c8_,c9_,c10_,c11_,c12_,c13_,c14_⟩ := cells_15 D2.out.h1
   unfold Oper.wp
   go_simp
   exact HK.out _ _ (Below.refl _ _) rfl (fun _ _ _ _ _ h => by omega)
  ·cases ho
   clear hp hf
   unfold Oper.wp
   go_simp
   refine HK.out _ _ (bO _) ⟨_,rfl,HB.out.size,blk_new W _⟩ (fun j v hj hji hpj hj9 => ?_)
   obtain rfl : j = 10 := by omega
   obtain ⟨B,rfl,_,hB⟩ := hpj
   have := blk_lt hB
   intro hE
   have hE2 := congrArg (fun v => match v with | .pointer (some q) => q.block | _ => 0) hE
   have hE3 : W.heap.size = B := hE2
   omega
  ·cases ho
   clear hp hf
   unfold Oper.wp
   go_simp
   refine HK.out _ _ (bO _) ⟨_,rfl,HB.out.size,blk_new W _⟩ (fun j v hj hji hpj hj9 => ?_)
   obtain rfl : j = 9 := by omega
   obtain ⟨B,rfl,_,hB⟩ := hpj
   have := blk_lt hB
   intro hE
   have hE2 := congrArg (fun v => match v with | .pointer (some q) => q.block | _ => 0) hE
   have hE3 : W.heap.size = B := hE2
   omega
 case rgrow2 =>
  intro i o hi ho hd a W hb hf hp K' hK
  have HK := aS hK
  have HB := aS hb
  have D2 := aS (D.out.step hb)
  clear hK hb D
  rcases (show i = 0 ∨ i = 1 ∨ i = 2 ∨ i = 3 ∨ i = 4 ∨ i = 5 ∨ i = 6 ∨ i = 7 ∨ i = 8 ∨ i = 9 ∨ i = 10 by omega) with rfl | rfl | rfl | rfl | rfl | rfl | rfl | rfl | rfl | rfl | rfl
  ·cases hd
  ·cases hd
  ·cases hd
  ·cases hd
  ·cases ho
   have e1 : a.tmps[1]? = some (.int .i64 0) := (hf.2.2 1 (by decide)).trans rfl
   clear hp hf
   unfold Oper.wp
   go_simp
   exact HK.out _ _ (Below.refl _ _) rfl (fun _ _ _ _ _ h => by omega)
  ·cases ho
   have h4 : a.eval (.tmp 39) = .int .i64 0 := hp ⟨4,.data⟩ (by simp) rfl
   clear hp hf
   simp only [Act.eval,Array.getD_eq_getD_getElem?] at h4
   unfold Oper.wp
   go_simp
   exact HK.out _ _ (Below.refl _ _) rfl (fun _ _ _ _ _ h => by omega)
  ·cases ho
   have e3 : a.tmps[3]? = some (.pointer (some ⟨w.heap.size,0,none⟩)) := (hf.2.2 3 (by decide)).trans rfl
   clear hp hf
   unfold Oper.wp
   go_simp
   exact HK.out _ _ (Below.refl _ _) rfl (fun _ _ _ _ _ h => by omega)
  ·cases ho
   have h5 : a.eval (.tmp 40) = .int .i64 (1 - 0) := hp ⟨5,.data⟩ (by simp) rfl
   have h6 : a.eval (.tmp 41) = .pointer (some ⟨w.heap.size,0,none⟩) := hp ⟨6,.data⟩ (by simp) rfl
   clear hp hf
   simp only [Act.eval,Array.getD_eq_getD_getElem?] at h5 h6
   unfold Oper.wp
   go_simp
   exact HK.out _ _ (Below.refl _ _) rfl (fun _ _ _ _ _ h => by omega)
  ·cases ho
   have h7 : a.eval (.tmp 42) = .pointer (some ⟨w.heap.size,7,none⟩) := hp ⟨7,.data⟩ (by simp) rfl
   clear hp hf
   simp only [Act.eval,Array.getD_eq_getD_getElem?] at h7
   obtain ⟨c0_,c1_,c2_,c3_,c4_,c5_,c6_,c7_,c8_,c9_,c10_,c11_,c12_,c13_,c14_⟩ := cells_15 D2.out.h1
   unfold Oper.wp
   go_simp
   exact HK.out _ _ (Below.refl _ _) rfl (fun _ _ _ _ _ h => by omega)
  ·cases hd
  ·cases hd
 case rs1 =>
  intro listed a W hb hf hl hp hr K' hK
  have HB := aS hb
  have l9 := hl ⟨9,.data⟩ (by simp) rfl
  have l3 := hl ⟨3,.data⟩ (by simp) rfl
  have l10 := hl ⟨10,.phase⟩ (by simp) rfl
  have HP := aS hp
  obtain ⟨B,h9,hB,hc9⟩ := hp 9 (by omega) l9
  obtain ⟨C,h10,hC,hc10⟩ := hp 10 (by omega) l10
  have h3 : a.eval (.tmp 38) = .agg #[.int .i64 s.st,.int .i64 s.ver,.slice p.A1 s.l.length p.c1,.slice p.Am s.ms.length p.cm,.slice p.Ar s.rs.length p.cr,.slice p.Ae s.echo.length p.ce,.slice p.Ac s.cs.length p.cc] := hp 3 (by omega) l3
  have hne : C ≠ B := fun h => by
   have := hr 9 10 (by omega) (by omega) (by omega) l9 l10 (.inl ⟨rfl,rfl⟩)
   exact this (by rw [h9,h10,h])
  have HC := aS hc9
  have HC2 := aS hc10
  have HKK := aS hK
  have H9 := aS h9
  have H10 := aS h10
  obtain ⟨x0,x1,x2,x3,x4,x5,x6⟩ := cells_7 hc9
  obtain ⟨f0,f1,f2,f3,f4,f5,f6⟩ := froz_7 hc9
  replace h9 : a.eval (.tmp 11) = .pointer (some ⟨B,0,none⟩) := h9
  clear hp hr hl hf hb hK hc9 hc10 h10 l9 l3 l10 D HS HT HK
  simp only [Act.eval,Array.getD_eq_getD_getElem?] at h9 h3
  unfold Oper.wp
  go_simp
  obtain ⟨n9,nb,nf⟩ := put7 HC.out hB (.int .i64 s.st) (.int .i64 s.ver) (.slice p.A1 s.l.length p.c1) (.slice p.Am s.ms.length p.cm) (.slice p.Ar s.rs.length p.cr) (.slice p.Ae s.echo.length p.ce) (.slice p.Ac s.cs.length p.cc)
  refine HKK.out _ nb (fun i hi hli => ?_)
  rcases (show i = 0 ∨ i = 1 ∨ i = 2 ∨ i = 3 ∨ i = 4 ∨ i = 5 ∨ i = 6 ∨ i = 7 ∨ i = 8 ∨ i = 9 ∨ i = 10 by omega) with rfl | rfl | rfl | rfl | rfl | rfl | rfl | rfl | rfl | rfl | rfl
  ·exact HP.out 0 (by omega) hli
  ·exact HP.out 1 (by omega) hli
  ·exact HP.out 2 (by omega) hli
  ·exact HP.out 3 (by omega) hli
  ·exact HP.out 4 (by omega) hli
  ·exact HP.out 5 (by omega) hli
  ·exact HP.out 6 (by omega) hli
  ·exact HP.out 7 (by omega) hli
  ·exact HP.out 8 (by omega) hli
  ·exact ⟨B,H9.out,hB,n9⟩
  ·exact ⟨C,H10.out,hC,nf C _ HC2.out hne⟩
 case rs2 =>
  intro a W hb hf hp hr
  obtain ⟨C,h9,hC,hc9⟩ := hp 9 (by omega)
  obtain ⟨B,h10,hB,hc10⟩ := hp 10 (by omega)
  have h8 : a.eval (.tmp 43) = .agg #[.int .i64 t.st,.int .i64 t.ver,.slice q.A1 t.l.length q.c1,.slice q.Am t.ms.length q.cm,.slice q.Ar t.rs.length q.cr,.slice q.Ae t.echo.length q.ce,.slice q.Ac t.cs.length q.cc] := hp 8 (by omega)
  have hne : C ≠ B := fun h => by
   have := hr 9 10 (by omega) (by omega) (by omega) (.inl ⟨rfl,rfl⟩)
   exact this (by rw [h9,h10,h])
  have he := hf.eq
  have v0 := hp 0 (by omega)
  have v1 := hp 1 (by omega)
  have v2 := hp 2 (by omega)
  have v3 := hp 3 (by omega)
  have v4 := hp 4 (by omega)
  have v5 := hp 5 (by omega)
  have v6 := hp 6 (by omega)
  have v7 := hp 7 (by omega)
  have v8 := hp 8 (by omega)
  replace he : putL _ [(35,a.eval (.tmp 35)),(36,a.eval (.tmp 36)),(37,a.eval (.tmp 37)),(38,a.eval (.tmp 38)),(39,a.eval (.tmp 39)),(40,a.eval (.tmp 40)),(41,a.eval (.tmp 41)),(42,a.eval (.tmp 42)),(43,a.eval (.tmp 43)),(11,a.eval (.tmp 11)),(12,a.eval (.tmp 12))] = a := he
  replace h9 : a.eval (.tmp 11) = .pointer (some ⟨C,0,none⟩) := h9
  replace h10 : a.eval (.tmp 12) = .pointer (some ⟨B,0,none⟩) := h10
  rw [h9,h10,h8,show a.eval (.tmp 38) = _ from v3] at he
  clear hp hr v0 v1 v2 v3 v4 v5 v6 v7 v8 h8 h9 h10 hf
  generalize a.eval (.tmp 35) = z35 at he
  generalize a.eval (.tmp 36) = z36 at he
  generalize a.eval (.tmp 37) = z37 at he
  generalize a.eval (.tmp 39) = z39 at he
  generalize a.eval (.tmp 40) = z40 at he
  generalize a.eval (.tmp 41) = z41 at he
  generalize a.eval (.tmp 42) = z42 at he
  simp only [putL,Act.put,sA,sB,sC] at he
  subst he
  obtain ⟨x0,x1,x2,x3,x4,x5,x6⟩ := cells_7 hc10
  obtain ⟨f0,f1,f2,f3,f4,f5,f6⟩ := froz_7 hc10
  have HN : ∃ W',W' = (((((((W.setCell ⟨B,0,none⟩ (.int .i64 t.st)).setCell ⟨B,1,none⟩ (.int .i64 t.ver)).setCell ⟨B,2,none⟩ (.slice q.A1 t.l.length q.c1)).setCell ⟨B,3,none⟩ (.slice q.Am t.ms.length q.cm)).setCell ⟨B,4,none⟩ (.slice q.Ar t.rs.length q.cr)).setCell ⟨B,5,none⟩ (.slice q.Ae t.echo.length q.ce)).setCell ⟨B,6,none⟩ (.slice q.Ac t.cs.length q.cc)) ∧ Aside0 (W'.heap[C]? = some (.cells #[.int .i64 s.st,.int .i64 s.ver,.slice p.A1 s.l.length p.c1,.slice p.Am s.ms.length p.cm,.slice p.Ar s.rs.length p.cr,.slice p.Ae s.echo.length p.ce,.slice p.Ac s.cs.length p.cc] 32 (0,0))) ∧ Aside0 (W'.heap[B]? = some (.cells #[.int .i64 t.st,.int .i64 t.ver,.slice q.A1 t.l.length q.c1,.slice q.Am t.ms.length q.cm,.slice q.Ar t.rs.length q.cr,.slice q.Ae t.echo.length q.ce,.slice q.Ac t.cs.length q.cc] 32 (0,0))) ∧ Aside0 (Box1 w W' (.cells #[.int .i64 s.st,.int .i64 s.ver,.slice p.A1 s.l.length p.c1,.slice p.Am s.ms.length p.cm,.slice p.Ar s.rs.length p.cr,.slice p.Ae s.echo.length p.ce,.slice p.Ac s.cs.length p.cc,.int .i64 t.st,.int .i64 t.ver,.slice q.A1 t.l.length q.c1,.slice q.Am t.ms.length q.cm,.slice q.Ar t.rs.length q.cr,.slice q.Ae t.echo.length q.ce,.slice q.Ac t.cs.length q.cc,.int .i64 most] 35)) := by
   obtain ⟨n9,nb,nf⟩ := put7 hc10 hB (.int .i64 t.st) (.int .i64 t.ver) (.slice q.A1 t.l.length q.c1) (.slice q.Am t.ms.length q.cm) (.slice q.Ar t.rs.length q.cr) (.slice q.Ae t.echo.length q.ce) (.slice q.Ac t.cs.length q.cc)
   exact ⟨_,rfl,⟨nf C _ hc9 hne⟩,⟨n9⟩,⟨D.out.step (hb.trans nb)⟩⟩
  obtain ⟨W',hW,HC9,HC10,D9⟩ := HN
  clear hc9 hc10 hb D hsr
  unfold Oper.wp
  go_simp
  rw [← hW]
  clear hW x0 x1 x2 x3 x4 x5 x6 f0 f1 f2 f3 f4 f5 f6
  clear hC hB hne
  obtain ⟨y0,y1,y2,y3,y4,y5,y6⟩ := cells_7 HC9.out
  go_wp2_with (first | (go_at_call 10;refine (HDE.out _ D9.out.below).mono ?_;rintro e w2 ⟨⟨A',c',rfl,hc',hr'⟩,hb2⟩;have HR' := aS hr';have HC' := aS hc';have HB2 := aS hb2;clear hr' hc' hb2 y0 y1 y2 y3 y4 y5 y6;rcases (Decidable.em (ec = 0)).symm with u | u <;> (first | (have b0 : (ec != 0) = true := bne_iff_ne.mpr u;have hO := HO.out;rw [if_pos u] at hO;clear HO u HDM;have HO := aS hO;clear hO) | (subst u;have HM := aS (HDM.out rfl);clear HDM;have HTR : Aside0 (∀ W A' c',Below w.heap.size w W → Kd.C k63 W A' xs.length xs → xs.length ≤ c' → Calls prog 11 #[.agg #[.slice p.Am s.ms.length p.cm,.slice p.Ar s.rs.length p.cr],.agg #[.int .i64 s.st,.int .i64 s.ver,.slice p.A1 s.l.length p.c1],.agg #[.int .i64 t.st,.int .i64 t.ver,.slice q.A1 t.l.length q.c1],.agg #[.string m,.slice A' xs.length c']] W fun e w' => (∃ A2 c2,e = .returned (.tuple #[.agg #[.string (transS s.ms s.rs t.l m xs).1.1,.slice A2 (transS s.ms s.rs t.l m xs).1.2.length c2],.agg #[.int .i64 (transS s.ms s.rs t.l m xs).2.1,.int .i64 (transS s.ms s.rs t.l m xs).2.2]]) ∧ (transS s.ms s.rs t.l m xs).1.2.length ≤ c2 ∧ Kd.C k63 w' A2 (transS s.ms s.rs t.l m xs).1.2.length (transS s.ms s.rs t.l m xs).1.2 ∧ MsgAt w' (.slice A2 (transS s.ms s.rs t.l m xs).1.2.length c2) (transS s.ms s.rs t.l m xs).1.2) ∧ Below W.heap.size W w') := ⟨fun W A' c' hb hr hc => xlate_Translate.at p.Am p.cm s.ms p.Ar p.cr s.rs s.st s.ver p.A1 p.c1 s.l t.st t.ver q.A1 q.c1 t.l m A' c' xs W (fun W2 hb2 => r38 (HS.out.step (b_s hb hb2)) (HT.out.step (b_s hb hb2)) HK.out.2.1.2) HM.out HS.out.n1 HT.out.n1 (by have := HK.out.2.1.2.2.2.1;omega) (by have := HK.out.2.1.2.2.2.2.2.2.1;omega) HXL.out (HS.out.step hb).rm HS.out.hm (HS.out.step hb).rr HS.out.hr (HS.out.step hb).r1 HS.out.h1 (HT.out.step hb).r1 HT.out.h1 hr hc (trans_hap HK.out.2.1.2 HM.out)⟩;have HTM : Aside0 ((transS s.ms s.rs t.l m xs).2.1 = 0 → msgOk t.st t.ver t.l (transS s.ms s.rs t.l m xs).1.1 (transS s.ms s.rs t.l m xs).1.2 = true) := ⟨fun h => transS_ok HK.out.2.1.2 HM.out h⟩;have hO := HO.out;rw [if_neg (by exact fun h => h rfl)] at hO;clear HO;generalize transS s.ms s.rs t.l m xs = x at HTR HTM hO;obtain ⟨⟨m2,xs2⟩,tc,tf⟩ := x;simp only at HTR HTM hO;have HO := aS hO;clear hO;obtain ⟨y0,y1,y2,y3,y4,y5,y6⟩ := cells_7 (k_B (k_B HC9.out HB2.out) (b_l (b_l (Below.refl _ _) (.cells #[.string m,.slice A' xs.length c'] 42)) (.cells #[.int .i64 0,.int .i64 ef] 45)));obtain ⟨n0,n1,n2,n3,n4,n5,n6⟩ := cells_7 (k_B (k_B HC10.out HB2.out) (b_l (b_l (Below.refl _ _) (.cells #[.string m,.slice A' xs.length c'] 42)) (.cells #[.int .i64 0,.int .i64 ef] 45)))))) | (go_at_call 11;refine (HTR.out _ A' c' ((D9.out.step HB2.out).step (bA _ _)).below (c_B HR'.out (bA _ _)) HC'.out).mono ?_;rintro e w3 ⟨⟨A2,c2,rfl,hc2,hr2,hm2⟩,hb3⟩;have HR2 := aS hr2;have HC2 := aS hc2;have HA2 := aS hm2;clear hm2;have E := aS ((Box2.start w2 (.cells #[.string m,.slice A' xs.length c'] 42) (.cells #[.int .i64 0,.int .i64 ef] 45)).step hb3);have HB3 := aS (((D9.out.step HB2.out).step (bA _ _)).step hb3);clear hr2 hc2 hb3 y0 y1 y2 y3 y4 y5 y6 n0 n1 n2 n3 n4 n5 n6;obtain ⟨f0,f1⟩ := froz_2a E.out.h2 (.cells #[.string m2,.slice A2 xs2.length c2] 42);obtain ⟨y0,y1⟩ := cells_2 (blk_alloc E.out.h2 (.cells #[.string m2,.slice A2 xs2.length c2] 42));obtain ⟨w0_,w1_⟩ := cells_2 (blk_alloc E.out.h1 (.cells #[.string m2,.slice A2 xs2.length c2] 42));rcases (Decidable.em (tc = 0)).symm with u | u <;> (first | (have b1 : (tc != 0) = true := bne_iff_ne.mpr u;have hO := HO.out;rw [if_pos u] at hO;clear HO u HTM;have HO := aS hO;clear hO) | (subst u;have HM2 := aS (HTM.out rfl);have hO := HO.out;rw [if_neg (by exact fun h => h rfl)] at hO;clear HO HTM;have HML : Aside0 (∀ {W : World} {A2 : Option Addr} {c2 : Nat},MsgAt W (.slice A2 xs2.length c2) xs2 → Kd.C k63 W A2 xs2.length xs2) := ⟨fun h => by obtain ⟨A',c',e',_,hC⟩ := h.reads (by have := msgOk_len HM2.out;omega);cases e';exact hC⟩;have HEN : Aside0 (∀ W A2 c2,Below w.heap.size w W → Kd.C k63 W A2 xs2.length xs2 → xs2.length ≤ c2 → Calls prog 12 #[.agg #[.int .i64 t.st,.int .i64 t.ver,.slice q.A1 t.l.length q.c1],.agg #[.string m2,.slice A2 xs2.length c2]] W fun e w' => e = .returned (.tuple #[.string (encS t.st t.l m2 xs2),.agg #[.int .i64 0,.int .i64 0]]) ∧ Below W.heap.size W w') := ⟨fun W A2 c2 hb hr hc => wire_Encode.at t.st t.ver q.A1 q.c1 t.l m2 A2 c2 xs2 W HT.out.n1 (HT.out.step hb).r1 HT.out.h1 (by have := msgOk_len HM2.out;omega) hr hc HM2.out⟩;generalize encS t.st t.l m2 xs2 = bb at HEN hO;have HO := aS hO;clear hO;obtain ⟨n0,n1,n2,n3,n4,n5,n6⟩ := cells_7 (k_B (k_B HC10.out HB2.out) (((b_s E.out.below (b_l (Below.refl _ _) (.cells #[.string m2,.slice A2 xs2.length c2] 42))).setCell (p := ⟨w2.heap.size + 1,0,none⟩) (by show w2.heap.size ≤ w2.heap.size + 1;omega) (.int .i64 0)).setCell (p := ⟨w2.heap.size + 1,1,none⟩) (by show w2.heap.size ≤ w2.heap.size + 1;omega) (.int .i64 tf)));obtain ⟨x0_,x1_⟩ := cells_2 (far ⟨w2.heap.size + 1,1,none⟩ (.int .i64 tf) (far ⟨w2.heap.size + 1,0,none⟩ (.int .i64 0) (blk_new w3 (.cells #[.string m2,.slice A2 xs2.length c2] 42)) (by show w3.heap.size ≠ w2.heap.size + 1;have := blk_lt E.out.h2;omega)) (by show w3.heap.size ≠ w2.heap.size + 1;have := blk_lt E.out.h2;omega))))) | (go_at_call 12;refine (HEN.out _ A2 c2 ((D9.out.step HB2.out).step (((b_s E.out.below (b_l (Below.refl _ _) (.cells #[.string m2,.slice A2 xs2.length c2] 42))).setCell (p := ⟨w2.heap.size + 1,0,none⟩) (by show w2.heap.size ≤ w2.heap.size + 1;omega) (.int .i64 0)).setCell (p := ⟨w2.heap.size + 1,1,none⟩) (by show w2.heap.size ≤ w2.heap.size + 1;omega) (.int .i64 tf))).below ((HML.out (((HA2.out.step (b_l (Below.refl _ _) (.cells #[.string m2,.slice A2 xs2.length c2] 42))).far (blk_alloc E.out.h2 (.cells #[.string m2,.slice A2 xs2.length c2] 42)) (by decide) 0 (.int .i64 0)).far (blk_put (blk_alloc E.out.h2 (.cells #[.string m2,.slice A2 xs2.length c2] 42)) 0 _ rfl) (by decide) 1 (.int .i64 tf)))) HC2.out).mono ?_;rintro e w4 ⟨rfl,hb4⟩;have HB4 := aS (((D9.out.step HB2.out).step (((b_s E.out.below (b_l (Below.refl _ _) (.cells #[.string m2,.slice A2 xs2.length c2] 42))).setCell (p := ⟨w2.heap.size + 1,0,none⟩) (by show w2.heap.size ≤ w2.heap.size + 1;omega) (.int .i64 0)).setCell (p := ⟨w2.heap.size + 1,1,none⟩) (by show w2.heap.size ≤ w2.heap.size + 1;omega) (.int .i64 tf))).step hb4);have HW4 := aS (b_s (((b_s E.out.below (b_l (Below.refl _ _) (.cells #[.string m2,.slice A2 xs2.length c2] 42))).setCell (p := ⟨w2.heap.size + 1,0,none⟩) (by show w2.heap.size ≤ w2.heap.size + 1;omega) (.int .i64 0)).setCell (p := ⟨w2.heap.size + 1,1,none⟩) (by show w2.heap.size ≤ w2.heap.size + 1;omega) (.int .i64 tf)) hb4);have m0_ := cells_2a (k_B (far _ _ (far _ _ (blk_alloc E.out.h1 (.cells #[.string m2,.slice A2 xs2.length c2] 42)) (by show w2.heap.size ≠ w2.heap.size + 1;omega)) (by show w2.heap.size ≠ w2.heap.size + 1;omega)) hb4);clear hb4 y0 y1 w0_ w1_ f0 f1 x0_ x1_ n0 n1 n2 n3 n4 n5 n6;have hmost : ∀ o_,(w4.alloc o_).cell? ⟨w.heap.size,14,none⟩ = some (.int .i64 most) := fun o_ => blk_cell (blk_alloc HB4.out.h1 o_) 14;rcases Decidable.em (most < (bb.size : Int)) with u | u <;> (first | (have b2 : decide (most < (bb.size : Int)) = true := d_T u;have hO := HO.out;rw [if_pos u] at hO;clear HO u;have HO := aS hO;clear hO) | (have b2 : decide (most < (bb.size : Int)) = false := d_F u;have hO := HO.out;rw [if_neg u] at hO;clear HO u;have HO := aS hO;clear hO))) | (go_at_call 31;first | (refine (route_answer.at s p most m A' c' xs 5 129 C w.heap.size _ (blk_alloc (k_B (k_B HC9.out HB2.out) HW4.out) _) (blk_cell (blk_alloc HB4.out.h1 _) 14) (HS.out.step (b_l HB4.out.below _)) hle hlc (by have := HXL.out;omega) (c_B HR'.out (b_l HW4.out _)) HC'.out (HMO.out 5)).mono ?_;rintro e w6 ⟨rfl,hb6⟩;have HB6 := aS (b_s (b_l HB4.out.below _) hb6);clear hb6) | (refine (route_answer.at s p most m A' c' xs tc tf C w.heap.size _ (k_B (k_B HC9.out HB2.out) (((b_s E.out.below (bO _)).setCell (p := ⟨w2.heap.size + 1,0,none⟩) (by show w2.heap.size ≤ w2.heap.size + 1;omega) _).setCell (p := ⟨w2.heap.size + 1,1,none⟩) (by show w2.heap.size ≤ w2.heap.size + 1;omega) _)) (blk_cell ((D9.out.step HB2.out).step (((b_s E.out.below (bO _)).setCell (p := ⟨w2.heap.size + 1,0,none⟩) (by show w2.heap.size ≤ w2.heap.size + 1;omega) _).setCell (p := ⟨w2.heap.size + 1,1,none⟩) (by show w2.heap.size ≤ w2.heap.size + 1;omega) _)).h1 14) (HS.out.step ((D9.out.step HB2.out).step (((b_s E.out.below (bO _)).setCell (p := ⟨w2.heap.size + 1,0,none⟩) (by show w2.heap.size ≤ w2.heap.size + 1;omega) _).setCell (p := ⟨w2.heap.size + 1,1,none⟩) (by show w2.heap.size ≤ w2.heap.size + 1;omega) _)).below) hle hlc (by have := HXL.out;omega) (c_B HR'.out (((b_s E.out.below (bO _)).setCell (p := ⟨w2.heap.size + 1,0,none⟩) (by show w2.heap.size ≤ w2.heap.size + 1;omega) _).setCell (p := ⟨w2.heap.size + 1,1,none⟩) (by show w2.heap.size ≤ w2.heap.size + 1;omega) _)) HC'.out (HMO.out tc)).mono ?_;rintro e w5 ⟨rfl,hb5⟩;have HB5 := aS (b_s ((D9.out.step HB2.out).step (((b_s E.out.below (bO _)).setCell (p := ⟨w2.heap.size + 1,0,none⟩) (by show w2.heap.size ≤ w2.heap.size + 1;omega) _).setCell (p := ⟨w2.heap.size + 1,1,none⟩) (by show w2.heap.size ≤ w2.heap.size + 1;omega) _)).below hb5);clear hb5) | (refine (route_answer.at s p most m A' c' xs ec ef C w.heap.size _ (k_B (k_B HC9.out HB2.out) (bA _ _)) (blk_cell ((D9.out.step HB2.out).step (bA _ _)).h1 14) (HS.out.step ((D9.out.step HB2.out).step (bA _ _)).below) hle hlc (by have := HXL.out;omega) (c_B HR'.out (bA _ _)) HC'.out (HMO.out ec)).mono ?_;rintro e w3 ⟨rfl,hb3⟩;have HB3 := aS (b_s ((D9.out.step HB2.out).step (bA _ _)).below hb3);clear hb3)))
  all_goals go_ret2
  all_goals have hO := HO.out
  all_goals subst hO
  all_goals first | exact ⟨rfl,HB6.out⟩ | exact ⟨rfl,HB5.out⟩ | exact ⟨rfl,HB3.out⟩ | exact ⟨rfl,b_l HB4.out.below _⟩
end
end Go.Proofs.YtgbmnpgaddhfpaaGreatDoor.T
