/- Walks and plain laws beneath the law TopBuilt. No conditions but what each statement names. -/
import Derived.Test.YtgbmnpgaddhfpaaGreatDoorB7
import Derived.Test.YtgbmnpgaddhfpaaGreatDoorB11
set_option linter.unusedVariables false
set_option linter.unusedSimpArgs false
namespace Go.Proofs.YtgbmnpgaddhfpaaGreatDoor.T
open Go.RowKit Go.Proofs.YtgbmnpgaddhfpaaGreatDoorW.PrintWords Go.Proofs.YtgbmnpgaddhfpaaGreatDoorW.PrintLast Go.Proofs.YtgbmnpgaddhfpaaGreatDoorW.PrintMore
attribute [local go_sem] max2_int min2_int max_two min_two
open Go.Proofs.YtgbmnpgaddhfpaaGreatDoor.G
open Tryz
set_option maxRecDepth 100000
set_option maxHeartbeats 1000000 in
theorem groatref05_In.at (A : Option Addr) (c : Nat) (l : List Int) (t : Int) (w : World) (hl : l.length ≤ 4611686018427387904) (hr : Kd.C (Kd.int .i64) w A l.length l) (hc : l.length ≤ c) :
  Calls prog 120 #[.slice A l.length c,.int .i64 t] w fun e w' => e = .returned (.bool (decide (t ∈ l))) ∧ w' = w := by
 have HR := aS hr
 have HC := aS hc
 clear hr hc
 go_enter func120,ntmps120
 go_wp2
 go_loopg [5] l.length (fun g v5 w' => ∃ i : Nat,v5 = .int .i64 i ∧ i + g = l.length ∧ Aside0 (decide (t ∈ l.drop i) = decide (t ∈ l)) ∧ w' = w)
 case atStart => exact ⟨0,rfl,Nat.zero_add _,⟨rfl⟩,rfl⟩
 case round =>
  obtain ⟨i,rfl,hi,HF,rfl⟩ := hrel
  by_cases h : i < l.length
  ·have c0 : decide ((i : Int) < l.length) = true := d_T (by omega)
   obtain ⟨ad,rfl,hx0⟩ := at3 HR.out (Below.refl _ _) i h
   have p : (0 ≤ (i : Int)) = True := eq_true (by omega)
   have q : ((i : Int) < l.length) = True := eq_true (by omega)
   have hf := HF.out
   rw [dropI h] at hf
   clear HF
   generalize rd l (i : Int) = x at *
   by_cases e : x = t
   ·have e0 : (x == t) = true := beq_iff_eq.mpr e
    have HF : Aside0 (true = decide (t ∈ l)) := ⟨by rw [← hf,e];simp⟩
    clear hf e
    go_wp2
    go_ret
    exact ⟨by rw [← HF.out];rfl,rfl⟩
   ·have e0 : (x == t) = false := beq_eq_false_iff_ne.mpr e
    have HF : Aside0 (decide (t ∈ l.drop (i + 1)) = decide (t ∈ l)) := ⟨by rw [← hf];simp [Ne.symm e]⟩
    clear hf e
    go_wp2
    obtain ⟨g,rfl⟩ : ∃ g,gk = g + 1 := ⟨gk - 1,by omega⟩
    go_roundg g
    case rel => exact ⟨i + 1,rfl,by omega,HF,rfl⟩
    case measure => omega
  ·have c0 : decide ((i : Int) < l.length) = false := d_F (by omega)
   have hf := HF.out
   rw [List.drop_of_length_le (by omega)] at hf
   clear HF
   have HF := aS hf
   clear hf
   go_wp2
   go_ret
   exact ⟨by rw [← HF.out];rfl,rfl⟩
def constS : List S94 → List S63 → List S63
 | [],acc => acc
 | r :: rs,acc => constS rs (if r.f0 = 3 then withM r.f2 r.f3 acc else acc)
def transL (l2 : List S87) (rules : List S94) : List S63 → List S63 → List S63 × Int × Int
 | [],acc => (acc,0,0)
 | x :: xs,acc => if (ruleS x.f0 rules).2 = false then ([],9,x.f0) else
   if (applyS l2 (ruleS x.f0 rules).1 x.f1).2 ≠ 0 then ([],(applyS l2 (ruleS x.f0 rules).1 x.f1).2,x.f0) else
   transL l2 rules xs (if (applyS l2 (ruleS x.f0 rules).1 x.f1).1.f0 ≠ 0 then withM (applyS l2 (ruleS x.f0 rules).1 x.f1).1.f0 (applyS l2 (ruleS x.f0 rules).1 x.f1).1.f1 acc else acc)
def transS (mtis : List S66) (rules : List S94) (l2 : List S87) (m : ByteArray) (xs : List S63) : (ByteArray × List S63) × Int × Int :=
 if (headS m mtis).2 = false then ((⟨#[]⟩,[]),7,0) else
 if (transL l2 rules xs (constS rules [])).2.1 ≠ 0 then ((⟨#[]⟩,[]),(transL l2 rules xs (constS rules [])).2.1,(transL l2 rules xs (constS rules [])).2.2) else
 (((headS m mtis).1,(transL l2 rules xs (constS rules [])).1),0,0)
structure Box6 (w W : World) (a b c d e f : Obj) : Prop where
 h1 : W.heap[w.heap.size]? = some a
 h2 : W.heap[w.heap.size + 1]? = some b
 h3 : W.heap[w.heap.size + 1 + 1]? = some c
 h4 : W.heap[w.heap.size + 1 + 1 + 1]? = some d
 h5 : W.heap[w.heap.size + 1 + 1 + 1 + 1]? = some e
 h6 : W.heap[w.heap.size + 1 + 1 + 1 + 1 + 1]? = some f
 below : Below w.heap.size w W
theorem Box6.start (w : World) (a b c d e f : Obj) : Box6 w ((((((w.alloc a).alloc b).alloc c).alloc d).alloc e).alloc f) a b c d e f := by
 have D := Box4.start w a b c d
 exact ⟨blk_alloc (blk_alloc D.h1 _) _,blk_alloc (blk_alloc D.h2 _) _,blk_alloc (blk_alloc D.h3 _) _,blk_alloc (blk_alloc D.h4 _) _,blk_alloc (blk_top (by rw [size_alloc,size_alloc,size_alloc,size_alloc])) _,blk_top (by rw [size_alloc,size_alloc,size_alloc,size_alloc,size_alloc]),b_l (b_l D.below _) _⟩
theorem Box6.step {w W W' : World} {a b c d e f : Obj} (D : Box6 w W a b c d e f) (hb : Below W.heap.size W W') : Box6 w W' a b c d e f :=
 ⟨k_B D.h1 hb,k_B D.h2 hb,k_B D.h3 hb,k_B D.h4 hb,k_B D.h5 hb,k_B D.h6 hb,b_s D.below hb⟩
theorem Box6.init {w w1 : World} {a b c d e f : Obj} (hb : Below ((((((w.alloc a).alloc b).alloc c).alloc d).alloc e).alloc f).heap.size ((((((w.alloc a).alloc b).alloc c).alloc d).alloc e).alloc f) w1) : Box6 w w1 a b c d e f := (Box6.start w a b c d e f).step hb
theorem Box6.far {w W : World} {a b c d e f : Obj} (D : Box6 w W a b c d e f) {g : Nat} (hg : w.heap.size + 1 + 1 + 1 + 1 + 1 < g) (k : Nat) (u : Value) : Box6 w (W.setCell ⟨g,k,none⟩ u) a b c d e f :=
 ⟨T.far _ _ D.h1 (by show w.heap.size ≠ g;omega),T.far _ _ D.h2 (by show w.heap.size + 1 ≠ g;omega),T.far _ _ D.h3 (by show w.heap.size + 1 + 1 ≠ g;omega),T.far _ _ D.h4 (by show w.heap.size + 1 + 1 + 1 ≠ g;omega),T.far _ _ D.h5 (by show w.heap.size + 1 + 1 + 1 + 1 ≠ g;omega),T.far _ _ D.h6 (by show w.heap.size + 1 + 1 + 1 + 1 + 1 ≠ g;omega),D.below.setCell (p := ⟨g,k,none⟩) (by show w.heap.size ≤ g;omega) _⟩
theorem Box6.fin {w W : World} {a b c d : Obj} {p0 p1 q0 q1 : Value} (D : Box6 w W a b c d (.cells #[p0,p1] 42) (.cells #[q0,q1] 45)) (u0 u1 x0 x1 : Value) :
  ((((W.setCell ⟨w.heap.size + 1 + 1 + 1 + 1,0,none⟩ u0).setCell ⟨w.heap.size + 1 + 1 + 1 + 1,1,none⟩ u1).setCell ⟨w.heap.size + 1 + 1 + 1 + 1 + 1,0,none⟩ x0).setCell ⟨w.heap.size + 1 + 1 + 1 + 1 + 1,1,none⟩ x1).heap[w.heap.size + 1 + 1 + 1 + 1]? = some (.cells #[u0,u1] 42 (0,0)) ∧
  ((((W.setCell ⟨w.heap.size + 1 + 1 + 1 + 1,0,none⟩ u0).setCell ⟨w.heap.size + 1 + 1 + 1 + 1,1,none⟩ u1).setCell ⟨w.heap.size + 1 + 1 + 1 + 1 + 1,0,none⟩ x0).setCell ⟨w.heap.size + 1 + 1 + 1 + 1 + 1,1,none⟩ x1).heap[w.heap.size + 1 + 1 + 1 + 1 + 1]? = some (.cells #[x0,x1] 45 (0,0)) ∧
  Below w.heap.size w ((((W.setCell ⟨w.heap.size + 1 + 1 + 1 + 1,0,none⟩ u0).setCell ⟨w.heap.size + 1 + 1 + 1 + 1,1,none⟩ u1).setCell ⟨w.heap.size + 1 + 1 + 1 + 1 + 1,0,none⟩ x0).setCell ⟨w.heap.size + 1 + 1 + 1 + 1 + 1,1,none⟩ x1) := by
 have h4 : ((W.setCell ⟨w.heap.size + 1 + 1 + 1 + 1,0,none⟩ u0).setCell ⟨w.heap.size + 1 + 1 + 1 + 1,1,none⟩ u1).heap[w.heap.size + 1 + 1 + 1 + 1]? = some (.cells #[u0,u1] 42 (0,0)) := blk_put (blk_put D.h5 0 _ rfl) 1 _ rfl
 have h5 : ((W.setCell ⟨w.heap.size + 1 + 1 + 1 + 1,0,none⟩ u0).setCell ⟨w.heap.size + 1 + 1 + 1 + 1,1,none⟩ u1).heap[w.heap.size + 1 + 1 + 1 + 1 + 1]? = some (.cells #[q0,q1] 45 (0,0)) :=
  T.far _ _ (T.far _ _ D.h6 (by show w.heap.size + 1 + 1 + 1 + 1 + 1 ≠ w.heap.size + 1 + 1 + 1 + 1;omega)) (by show w.heap.size + 1 + 1 + 1 + 1 + 1 ≠ w.heap.size + 1 + 1 + 1 + 1;omega)
 refine ⟨T.far _ _ (T.far _ _ h4 (by show w.heap.size + 1 + 1 + 1 + 1 ≠ w.heap.size + 1 + 1 + 1 + 1 + 1;omega)) (by show w.heap.size + 1 + 1 + 1 + 1 ≠ w.heap.size + 1 + 1 + 1 + 1 + 1;omega),blk_put (blk_put h5 0 _ rfl) 1 _ rfl,?_⟩
 exact (((D.below.setCell (p := ⟨w.heap.size + 1 + 1 + 1 + 1,0,none⟩) (by show w.heap.size ≤ w.heap.size + 1 + 1 + 1 + 1;omega) _).setCell (p := ⟨w.heap.size + 1 + 1 + 1 + 1,1,none⟩) (by show w.heap.size ≤ w.heap.size + 1 + 1 + 1 + 1;omega) _).setCell (p := ⟨w.heap.size + 1 + 1 + 1 + 1 + 1,0,none⟩) (by show w.heap.size ≤ w.heap.size + 1 + 1 + 1 + 1 + 1;omega) _).setCell (p := ⟨w.heap.size + 1 + 1 + 1 + 1 + 1,1,none⟩) (by show w.heap.size ≤ w.heap.size + 1 + 1 + 1 + 1 + 1;omega) _
theorem cells_6 {w : World} {g : Nat} {t : TypeId} {v0 v1 v2 v3 v4 v5 : Value} (h : w.heap[g]? = some (.cells #[v0,v1,v2,v3,v4,v5] t (0,0))) : w.cell? ⟨g,0,none⟩ = some v0 ∧ w.cell? ⟨g,1,none⟩ = some v1 ∧ w.cell? ⟨g,2,none⟩ = some v2 ∧ w.cell? ⟨g,3,none⟩ = some v3 ∧ w.cell? ⟨g,4,none⟩ = some v4 ∧ w.cell? ⟨g,5,none⟩ = some v5 := ⟨blk_cell h 0,blk_cell h 1,blk_cell h 2,blk_cell h 3,blk_cell h 4,blk_cell h 5⟩
theorem typed_size {v1 v2 : Int} {p : S66} (h : typedOk v1 v2 p) : p.f0.size ≤ 1000000 := by
 have h1 := h.1
 unfold verV at h1
 split at h1
 ·rename_i k
  unfold isMti at k
  simp only [Bool.and_eq_true,decide_eq_true_eq] at k
  omega
 ·cases h1
def post29 (r : S94) (gk B0 : Nat) : Nat → Value → World → Prop
 | 0,v,_ => v = .pointer (some ⟨gk,1,none⟩)
 | 1,v,_ => v = .int .i64 r.f1
 | 2,v,w => ∃ B,v = .slice (some ⟨B,0,none⟩) 1 1 ∧ w.cell? ⟨B,0,none⟩ = some (.int .i64 r.f1)
 | 3,v,_ => v = vSet (withS (0,0) r.f1)
 | 4,v,_ => v = .pointer (some ⟨gk,2,none⟩)
 | 5,v,_ => v = .int .i64 r.f2
 | 6,v,w => ∃ B,v = .slice (some ⟨B,0,none⟩) 1 1 ∧ w.cell? ⟨B,0,none⟩ = some (.int .i64 r.f2)
 | 7,v,_ => v = vSet (withS (0,0) r.f2)
 | _,v,w => ∃ B,v = .pointer (some ⟨B,0,none⟩) ∧ B0 ≤ B ∧ w.heap[B]? = some (.cells #[.int .u64 0,.int .u64 0] 82 (0,0))
def rel29 (i j : Nat) (u v : Value) : Prop := (i = 8 ∧ j = 9 ∨ i = 9 ∧ j = 8) → u ≠ v
def dst29 (i : Nat) : Tmp := [92,93,94,95,96,97,98,99,21,22].getD i 0
def dst33 (i : Nat) : Tmp := [114,115,116,117,118,119].getD i 0
def vals33 (p s1 q s2 : Int × Int) (i : Nat) : Value := [vSet p,vSet s1,vSet (eithS p s1),vSet q,vSet s2,vSet (eithS q s2)].getD i undef
structure RL (w W : World) (g : Nat) (a b c d : Obj) (p q : Int × Int) : Prop where
 d : Box4 w W a b c d
 e1 : W.heap[g]? = some (.cells #[.int .u64 p.1,.int .u64 p.2] 82 (0,0))
 e2 : W.heap[g + 1]? = some (.cells #[.int .u64 q.1,.int .u64 q.2] 82 (0,0))
 lt : w.heap.size + 1 + 1 + 1 < g
theorem RL.step {w W W' : World} {g : Nat} {a b c d : Obj} {p q : Int × Int} (D : RL w W g a b c d p q) (hb : Below W.heap.size W W') : RL w W' g a b c d p q := ⟨D.d.step hb,k_B D.e1 hb,k_B D.e2 hb,D.lt⟩
theorem RL.start {w W : World} {a b c d : Obj} (D : Box4 w W a b c d) : RL w ((W.alloc (.cells #[.int .u64 0,.int .u64 0] 82)).alloc (.cells #[.int .u64 0,.int .u64 0] 82)) W.heap.size a b c d (0,0) (0,0) :=
 ⟨D.step (bA _ _),blk_alloc (blk_new _ _) _,alloc2 _ _ _,by have := blk_lt D.h4;omega⟩
theorem RL.sets {w W : World} {g : Nat} {a b c d : Obj} {p q : Int × Int} (D : RL w W g a b c d p q) (p' q' : Int × Int) :
  RL w ((((W.setCell ⟨g,0,none⟩ (.int .u64 p'.1)).setCell ⟨g,1,none⟩ (.int .u64 p'.2)).setCell ⟨g + 1,0,none⟩ (.int .u64 q'.1)).setCell ⟨g + 1,1,none⟩ (.int .u64 q'.2)) g a b c d p' q' := by
 have hg := D.lt
 obtain ⟨h1,h2,h3⟩ := two_boxes (B0 := g) (u0 := .int .u64 p'.1) (u1 := .int .u64 p'.2) (v0 := .int .u64 q'.1) (v1 := .int .u64 q'.2) D.e1 D.e2 (by omega) (by omega) (by omega)
 obtain ⟨_,_,h4⟩ := two_boxes (B0 := w.heap.size) (u0 := .int .u64 p'.1) (u1 := .int .u64 p'.2) (v0 := .int .u64 q'.1) (v1 := .int .u64 q'.2) D.e1 D.e2 (by omega) (by omega) (by omega)
 exact ⟨⟨(h3.block _ (by omega)).trans D.d.h1,(h3.block _ (by omega)).trans D.d.h2,(h3.block _ (by omega)).trans D.d.h3,(h3.block _ (by omega)).trans D.d.h4,D.d.below.trans h4⟩,h1,h2,hg⟩
theorem rd_mem94 {l : List S94} {i : Nat} (h : i < l.length) : rd_T94 l (i : Int) ∈ l := by
 simp [rd_T94,List.getD_eq_getElem?_getD,List.getElem?_eq_getElem h]
def apartS : List S94 → Int × Int → Int × Int → Prop
 | [],_,_ => True
 | r :: rs,p,q => bothS p (withS (0,0) r.f1) = (0,0) ∧ bothS q (withS (0,0) r.f2) = (0,0) ∧ apartS rs (eithS p (withS (0,0) r.f1)) (eithS q (withS (0,0) r.f2))
def mapOk (ms : List S66) (rs : List S94) (st1 ver1 : Int) (l1 : List S87) (st2 ver2 : Int) (l2 : List S87) : Prop :=
 (schemaCheck st1 ver1 l1).1 = 0 ∧ (schemaCheck st2 ver2 l2).1 = 0 ∧ ms.length ≤ 256 ∧ (∀ p ∈ ms,typedOk ver1 ver2 p) ∧ freshS [] ms = true ∧ rs.length ≤ 256 ∧ (∀ r ∈ rs,ruleOk l1 l2 r) ∧ apartS rs (0,0) (0,0)
set_option maxHeartbeats 4000000 in
theorem xlate_Check.at (Am : Option Addr) (cm : Nat) (ms : List S66) (Ar : Option Addr) (cr : Nat) (rs : List S94) (st1 ver1 : Int) (A1 : Option Addr) (c1 : Nat) (l1 : List S87) (st2 ver2 : Int) (A2 : Option Addr) (c2 : Nat) (l2 : List S87) (w : World)
  (hl1 : l1.length ≤ 4611686018427387904) (hl2 : l2.length ≤ 4611686018427387904) (hrm : Kd.C k66 w Am ms.length ms) (hcm : ms.length ≤ cm) (hrr : Kd.C k94 w Ar rs.length rs) (hcr : rs.length ≤ cr) (hr1 : Kd.C k87 w A1 l1.length l1) (hc1 : l1.length ≤ c1) (hr2 : Kd.C k87 w A2 l2.length l2) (hc2 : l2.length ≤ c2) (hm : mapOk ms rs st1 ver1 l1 st2 ver2 l2) :
  Calls prog 38 #[.agg #[.slice Am ms.length cm,.slice Ar rs.length cr],.agg #[.int .i64 st1,.int .i64 ver1,.slice A1 l1.length c1],.agg #[.int .i64 st2,.int .i64 ver2,.slice A2 l2.length c2]] w fun e w' => e = .returned (.tuple #[.int .i64 0,.int .i64 0,.int .i64 0]) ∧ Below w.heap.size w w' := by
 have hu28 := underlying28
 have hu24 := underlying24
 have hu66 := underlying66
 have hu82 := underlying82
 have hu87 := underlying87
 have hu94 := underlying94
 have HRm := aS hrm
 have HCm := aS hcm
 have HRr := aS hrr
 have HCr := aS hcr
 have HR1 := aS hr1
 have HC1 := aS hc1
 have HR2 := aS hr2
 have HC2 := aS hc2
 obtain ⟨m1,m2,m3,m4,m5,m6,m7,m8⟩ := hm
 obtain ⟨z1,hs1⟩ : ∃ z,schemaCheck st1 ver1 l1 = (0,z) := ⟨_,by rw [← m1]⟩
 obtain ⟨z2,hs2⟩ : ∃ z,schemaCheck st2 ver2 l2 = (0,z) := ⟨_,by rw [← m2]⟩
 have HS1 := aS hs1
 have HS2 := aS hs2
 have M3 := aS m3
 have M4 := aS m4
 have M5 := aS m5
 have M6 := aS m6
 have M7 := aS m7
 have M8 := aS m8
 have hmm := @run_makeMap prog
 clear hrm hcm hrr hcr hr1 hc1 hr2 hc2 m1 m2 hs1 hs2 m4 m5 m7 m8
 go_enter func38,ntmps38
 go_wp2
 have D := aS (Box4.start w (.cells #[.slice Am ms.length cm,.slice Ar rs.length cr] 28) (.cells #[.int .i64 st1,.int .i64 ver1,.slice A1 l1.length c1] 24) (.cells #[.int .i64 st2,.int .i64 ver2,.slice A2 l2.length c2] 24) (.cells #[.int .i64 st1,.int .i64 ver1,.slice A1 l1.length c1,.int .i64 st2,.int .i64 ver2,.slice A2 l2.length c2] 24))
 go_loopg [28] 2 (fun g v28 w' => ∃ i : Nat,v28 = .int .i64 i ∧ i + g = 2 ∧ Aside0 (Box4 w w' (.cells #[.slice Am ms.length cm,.slice Ar rs.length cr] 28) (.cells #[.int .i64 st1,.int .i64 ver1,.slice A1 l1.length c1] 24) (.cells #[.int .i64 st2,.int .i64 ver2,.slice A2 l2.length c2] 24) (.cells #[.int .i64 st1,.int .i64 ver1,.slice A1 l1.length c1,.int .i64 st2,.int .i64 ver2,.slice A2 l2.length c2] 24)))
 case atStart => exact ⟨0,rfl,rfl,D⟩
 case round =>
  clear D
  obtain ⟨i,rfl,hi,D⟩ := hrel
  obtain ⟨y0,y1,y2,y3,y4,y5⟩ := cells_6 D.out.h4
  by_cases h0 : i = 0
  ·subst h0
   go_wp2_with (first | (go_at_call 32;refine (schema_Check.at st1 ver1 A1 c1 l1 _ hl1 (c_B HR1.out (b_l D.out.below _)) HC1.out).mono ?_;rintro e w1 ⟨rfl,hb1⟩;rw [HS1.out];have D_ := aS (D.out.step (below_a1 hb1));clear D hb1 y0 y1 y2 y3 y4 y5;have D := D_;clear D_))
   obtain ⟨g,rfl⟩ : ∃ g,gk = g + 1 := ⟨gk - 1,by omega⟩
   go_roundg g
   case rel => exact ⟨1,rfl,by omega,D⟩
   case measure => omega
  by_cases h1 : i = 1
  ·subst h1
   clear h0
   go_wp2_with (first | (go_at_call 32;refine (schema_Check.at st2 ver2 A2 c2 l2 _ hl2 (c_B HR2.out (b_l D.out.below _)) HC2.out).mono ?_;rintro e w1 ⟨rfl,hb1⟩;rw [HS2.out];have D_ := aS (D.out.step (below_a1 hb1));clear D hb1 y0 y1 y2 y3 y4 y5;have D := D_;clear D_))
   obtain ⟨g,rfl⟩ : ∃ g,gk = g + 1 := ⟨gk - 1,by omega⟩
   go_roundg g
   case rel => exact ⟨2,rfl,by omega,D⟩
   case measure => omega
  obtain rfl : i = 2 := by omega
  clear h0 h1 y0 y1 y2 y3 y4 y5
  obtain ⟨a0,a1⟩ := cells_2 D.out.h1
  have AA := cells_2a D.out.h1
  have k256 : decide (256 < ms.length) = false := d_F (by have := M3.out;omega)
  go_wp2
  clear a0 a1 AA
  have HM : Aside0 (AskedS prog 9 4 (wr.alloc (.map #[] 0)) wr.heap.size 0 []) := ⟨AskedS.made prog 9 4 wr⟩
  have HB : Aside0 (Below wr.heap.size wr (wr.alloc (.map #[] 0))) := ⟨b_l (Below.refl _ _) (.map #[] 0)⟩
  go_loopg [50] ms.length (fun g v50 w' => ∃ (i : Nat) (seen : List (List UInt8)),v50 = .int .i64 i ∧ i + g = ms.length ∧ Aside0 (freshS seen (ms.drop i) = true) ∧ Aside0 (AskedS prog 9 4 w' wr.heap.size i seen) ∧ Aside0 (Below wr.heap.size wr w'))
  case atStart => exact ⟨0,[],rfl,Nat.zero_add _,M5,HM,HB⟩
  case round =>
   clear HM HB hmm k256
   obtain ⟨i,seen,rfl,hi,HF,HM,HB⟩ := hrel
   have D1 := aS (D.out.step HB.out)
   by_cases h : i < ms.length
   ·have e0 : decide ((i : Int) < ms.length) = true := d_T (by omega)
    obtain ⟨ad,rfl,hx0,hx1⟩ := at66 HRm.out D1.out.below i h
    have q0 : (0 ≤ (i : Int)) = True := eq_true (by omega)
    have q1 : ((i : Int) < ms.length) = True := eq_true (by omega)
    have hf := HF.out
    rw [drop66 h] at hf
    obtain ⟨k1,k2⟩ := freshS_cons hf
    have HT := aS (M4.out _ (rd_mem66 h))
    clear hf HF
    generalize rd_T66 ms (i : Int) = x at *
    have hkz := typed_size HT.out
    have HK2 := aS k2
    have K1 := aS k1
    have HKY : Aside0 (keyOf prog 9 (.string x.f0) = some (Lit.string x.f0.data.toList)) := ⟨Go.WideMaps.keyOf_string_mk underlying9 (by unfold maxLen;omega)⟩
    obtain ⟨f,hf,hmem⟩ := HM.out
    have HFo := aS hf
    have HA := aS hmem
    have HX : Aside0 (i < maxLen) := ⟨by have := M3.out;unfold maxLen;omega⟩
    clear hf hmem HM k1 k2 hkz
    have BB := cells_3a D1.out.h2
    have CC := cells_3a D1.out.h3
    go_wp2_with (first | (go_at_call 91;refine (xlate_typed.at x st1 ver1 (.slice A1 l1.length c1) st2 ver2 (.slice A2 l2.length c2) _ ⟨_,_,_,rfl⟩ ⟨_,_,_,rfl⟩ HT.out).mono ?_;rintro e w2 ⟨rfl,hb1⟩;have P66 := aS (blk_nb hb1);have HB2 := aS (b_s HB.out (below_a1 hb1));have HF2 := aS (HFo.out.below (below_a1 hb1));clear hb1 BB CC hx0 hx1;obtain ⟨p0,p1⟩ := cells_2 P66.out;have hl := HF2.out.lookup law9 underlying167 underlying4 (zero4 _) HKY.out;rw [HA.out,d_F K1.out] at hl) | (at_mapUpdate;refine Go.Proofs.YtgbmnpgaddhfpaaGreatDoor.G.wp_seen_put (P := prog) (K := 9) (E := 4) _ rfl _ _ _ 167 rfl law9 underlying167 underlying4 _ i f rfl HF2.out HX.out _ _ rfl rfl HKY.out trivial ?_;intro w3 hs1 hg1;have HS1 := aS hs1;have HG1 := aS hg1;clear hs1 hg1))
    obtain ⟨g,rfl⟩ : ∃ g,gk = g + 1 := ⟨gk - 1,by omega⟩
    go_roundg g
    case rel => exact ⟨i + 1,_,(by first | exact wiX i (by have := M3.out;omega) | rfl),by omega,HK2,⟨AskedS.put HS1.out HA.out⟩,⟨HB2.out.grown HG1.out (below_size HB2.out) (fun k hk => by cases hk;exact Nat.le_refl _)⟩⟩
    case measure => omega
   ·have e0 : decide ((i : Int) < ms.length) = false := d_F (by omega)
    clear hi HM HF D
    have D := D1
    clear D1 HB
    obtain ⟨a0,a1⟩ := cells_2 D.out.h1
    have AA := cells_2a D.out.h1
    have BB := fun o o' => cells_2 (blk_alloc (blk_alloc D.out.h1 o) o')
    have k256 : decide (256 < rs.length) = false := d_F (by have := M6.out;omega)
    go_wp2
    have RL0 := aS (RL.start D.out)
    have NG := aS (by have := blk_lt D.out.h4;omega : w.heap.size + 1 + 1 + 1 < wr.heap.size)
    clear D a0 a1 AA BB k256
    generalize hw5 : (wr.alloc _).alloc _ = w5 at *
    clear hw5
    generalize wr.heap.size = g5 at *
    clear e0 h m3 m6
    go_loopg [79] rs.length (fun g v79 w' => ∃ (i : Nat) (p q : Int × Int),v79 = .int .i64 i ∧ i + g = rs.length ∧ Aside0 (apartS (rs.drop i) p q) ∧ Aside0 (RL w w' g5 (.cells #[.slice Am ms.length cm,.slice Ar rs.length cr] 28) (.cells #[.int .i64 st1,.int .i64 ver1,.slice A1 l1.length c1] 24) (.cells #[.int .i64 st2,.int .i64 ver2,.slice A2 l2.length c2] 24) (.cells #[.int .i64 st1,.int .i64 ver1,.slice A1 l1.length c1,.int .i64 st2,.int .i64 ver2,.slice A2 l2.length c2] 24) p q))
    case atStart => exact ⟨0,(0,0),(0,0),rfl,Nat.zero_add _,M8,RL0⟩
    case round =>
     clear RL0
     obtain ⟨i,p,q,rfl,hi,HF,D⟩ := hrel
     by_cases h : i < rs.length
     ·have e0 : decide ((i : Int) < rs.length) = true := d_T (by omega)
      obtain ⟨ad,A4,c4,rfl,hx0,hx1,hx2,hx3,hx4,hx5,hx6⟩ := at94 HRr.out D.out.d.below i h
      have q0 : (0 ≤ (i : Int)) = True := eq_true (by omega)
      have q1 : ((i : Int) < rs.length) = True := eq_true (by omega)
      have hf := HF.out
      rw [drop94 h,apartS] at hf
      have HT := aS (M7.out _ (rd_mem94 h))
      generalize rd_T94 rs (i : Int) = x at *
      have HF0 := aS hf.1
      have HF1 := aS hf.2.1
      have HF2 := aS hf.2.2
      have X5 := aS hx5
      have X6 := aS hx6
      clear hx5 hx6 hf HF
      obtain ⟨b0,b1,b2⟩ := cells_3 D.out.d.h2
      obtain ⟨c0,c1_,c2_⟩ := cells_3 D.out.d.h3
      have B2 := cells_3a D.out.d.h2
      have B3 := cells_3a D.out.d.h3
      go_wp2_with (first | (go_at_call 92;refine (rule_Check.at x A4 c4 st1 ver1 A1 c1 l1 st2 ver2 A2 c2 l2 _ hl1 hl2 (c_B HR1.out (b_l D.out.d.below _)) HC1.out (c_B HR2.out (b_l D.out.d.below _)) HC2.out (c_B X6.out (b_l D.out.d.below _)) X5.out HT.out).mono ?_;rintro e w6 ⟨rfl,hb6⟩;have P94 := aS (blk_nb hb6);have D6 := aS (D.out.step (below_a1 hb6));have B6 := aS (below_size (below_a1 hb6));clear hb6 b0 b1 b2 c0 c1_ c2_ B2 B3 hx0 hx1 hx2 hx3 hx4;obtain ⟨p0,p1,p2,p3,p4⟩ := cells_5 P94.out))
      refine region_grow (by kernel_rfl) 10 dst29 (post29 x wr.heap.size w6.heap.size) rel29 (by decide) ?rsym ?rst ?rlow ?rgrow ?rinj ?rsz ?rlate ?rtail
      case rsym => exact fun i j u v h hij => (h (by omega)).symm
      case rst =>
       intro i u W W' hp hb
       match i,hp with
       | 0,hp => exact hp
       | 1,hp => exact hp
       | 2,hp => obtain ⟨B,e1,e2⟩ := hp;exact ⟨B,e1,(hb.cell (World.block_lt_of_cell? W _ e2)).trans e2⟩
       | 3,hp => exact hp
       | 4,hp => exact hp
       | 5,hp => exact hp
       | 6,hp => obtain ⟨B,e1,e2⟩ := hp;exact ⟨B,e1,(hb.cell (World.block_lt_of_cell? W _ e2)).trans e2⟩
       | 7,hp => exact hp
       | n + 8,hp => obtain ⟨B,e1,e2,e3⟩ := hp;exact ⟨B,e1,e2,k_B e3 hb⟩
      case rlow =>
       intro i o hi ho
       rcases (show i = 0 ∨ i = 1 ∨ i = 2 ∨ i = 3 ∨ i = 4 ∨ i = 5 ∨ i = 6 ∨ i = 7 ∨ i = 8 ∨ i = 9 by omega) with rfl | rfl | rfl | rfl | rfl | rfl | rfl | rfl | rfl | rfl <;> (cases ho;exact ⟨rfl,rfl,by decide⟩)
      case rinj =>
       intro i j hi hj
       revert j
       revert i
       decide
      case rsz =>
       intro i hi
       exact Nat.lt_of_lt_of_le ((by decide : ∀ i,i < 10 → dst29 i < 100) i hi) (Nat.le_of_ble_eq_true rfl)
      case rlate =>
       intro listed hc i hk hi hl
       have hi12 : i = 10 ∨ i = 11 := by
        obtain ⟨_,o,ho,_⟩ := mem_ready.1 hi
        have := (Array.getElem?_eq_some_iff.1 ho).1
        simp at this
        omega
       rcases hi12 with rfl | rfl
       ·have H := mem_ready' hi rfl
        have t8 := H ⟨8,.data⟩ (by simp) rfl
        have t9 := H ⟨9,.phase⟩ (by simp) rfl
        have t7 := H ⟨7,.chain⟩ (by simp) rfl
        have t6 := hc 7 _ (by omega) rfl t7 ⟨6,.data⟩ (by simp) rfl
        have t3 := hc 7 _ (by omega) rfl t7 ⟨3,.chain⟩ (by simp) rfl
        have t5 := hc 6 _ (by omega) rfl t6 ⟨5,.data⟩ (by simp) rfl
        have t4 := hc 5 _ (by omega) rfl t5 ⟨4,.data⟩ (by simp) rfl
        have t2 := hc 3 _ (by omega) rfl t3 ⟨2,.data⟩ (by simp) rfl
        have t1 := hc 2 _ (by omega) rfl t2 ⟨1,.data⟩ (by simp) rfl
        have t0 := hc 1 _ (by omega) rfl t1 ⟨0,.data⟩ (by simp) rfl
        intro j hj
        rcases (show j = 0 ∨ j = 1 ∨ j = 2 ∨ j = 3 ∨ j = 4 ∨ j = 5 ∨ j = 6 ∨ j = 7 ∨ j = 8 ∨ j = 9 by omega) with rfl | rfl | rfl | rfl | rfl | rfl | rfl | rfl | rfl | rfl <;> assumption
       ·have t := mem_ready' hi rfl ⟨10,.chain⟩ (by simp) rfl
        have t' := hl 10 (by omega)
        rw [t'] at t
        cases t
      case rgrow =>
       intro i o hi ho a W hb hf hp K' hK
       have HK := aS hK
       have HB := aS hb
       clear hK hb
       have e19 : a.tmps[19]? = some (.pointer (some ⟨wr.heap.size,0,none⟩)) := (hf.2.2 19 (by decide)).trans rfl
       have hq1 := (HB.out.cell (p := ⟨wr.heap.size,1,none⟩) (blk_lt P94.out)).trans p1
       have hq2 := (HB.out.cell (p := ⟨wr.heap.size,2,none⟩) (blk_lt P94.out)).trans p2
       clear hf p0 p1 p2 p3 p4
       rcases (show i = 0 ∨ i = 1 ∨ i = 2 ∨ i = 3 ∨ i = 4 ∨ i = 5 ∨ i = 6 ∨ i = 7 ∨ i = 8 ∨ i = 9 by omega) with rfl | rfl | rfl | rfl | rfl | rfl | rfl | rfl | rfl | rfl
       ·cases ho
        clear hp
        unfold Oper.wp
        go_simp
        exact HK.out _ _ (Below.refl _ _) rfl (fun j v _ _ _ h => by omega)
       ·cases ho
        have h0 : a.eval (.tmp 92) = .pointer (some ⟨wr.heap.size,1,none⟩) := hp ⟨0,.data⟩ (by simp) rfl
        clear hp
        simp only [Act.eval,Array.getD_eq_getD_getElem?] at h0
        unfold Oper.wp
        go_simp
        exact HK.out _ _ (Below.refl _ _) rfl (fun j v _ _ _ h => by omega)
       ·cases ho
        have h1 : a.eval (.tmp 93) = .int .i64 x.f1 := hp ⟨1,.data⟩ (by simp) rfl
        clear hp
        simp only [Act.eval,Array.getD_eq_getD_getElem?] at h1
        unfold Oper.wp
        go_simp
        exact HK.out _ _ (bO _) ⟨_,rfl,blk_cell (blk_new W _) 0⟩ (fun j v _ _ _ h => by omega)
       ·cases ho
        obtain ⟨B,h2,h3⟩ : ∃ B,a.eval (.tmp 94) = .slice (some ⟨B,0,none⟩) 1 1 ∧ W.cell? ⟨B,0,none⟩ = some (.int .i64 x.f1) := hp ⟨2,.data⟩ (by simp) rfl
        clear hp
        simp only [Act.eval,Array.getD_eq_getD_getElem?] at h2
        unfold Oper.wp
        go_simp
        go_at_call 93
        refine (fields_Of.at B x.f1 W h3).mono ?_
        rintro e w7 ⟨rfl,hb7⟩
        exact HK.out _ _ hb7 rfl (fun j v _ _ _ h => by omega)
       ·cases ho
        clear hp
        unfold Oper.wp
        go_simp
        exact HK.out _ _ (Below.refl _ _) rfl (fun j v _ _ _ h => by omega)
       ·cases ho
        have h4 : a.eval (.tmp 96) = .pointer (some ⟨wr.heap.size,2,none⟩) := hp ⟨4,.data⟩ (by simp) rfl
        clear hp
        simp only [Act.eval,Array.getD_eq_getD_getElem?] at h4
        unfold Oper.wp
        go_simp
        exact HK.out _ _ (Below.refl _ _) rfl (fun j v _ _ _ h => by omega)
       ·cases ho
        have h5 : a.eval (.tmp 97) = .int .i64 x.f2 := hp ⟨5,.data⟩ (by simp) rfl
        clear hp
        simp only [Act.eval,Array.getD_eq_getD_getElem?] at h5
        unfold Oper.wp
        go_simp
        exact HK.out _ _ (bO _) ⟨_,rfl,blk_cell (blk_new W _) 0⟩ (fun j v _ _ _ h => by omega)
       ·cases ho
        obtain ⟨B,h2,h3⟩ : ∃ B,a.eval (.tmp 98) = .slice (some ⟨B,0,none⟩) 1 1 ∧ W.cell? ⟨B,0,none⟩ = some (.int .i64 x.f2) := hp ⟨6,.data⟩ (by simp) rfl
        clear hp
        simp only [Act.eval,Array.getD_eq_getD_getElem?] at h2
        unfold Oper.wp
        go_simp
        go_at_call 93
        refine (fields_Of.at B x.f2 W h3).mono ?_
        rintro e w7 ⟨rfl,hb7⟩
        exact HK.out _ _ hb7 rfl (fun j v _ _ _ h => by omega)
       ·cases ho
        clear hp
        unfold Oper.wp
        go_simp
        refine HK.out _ _ (bO _) ⟨_,rfl,HB.out.size,blk_new W _⟩ (fun j v _ _ hv h => ?_)
        obtain rfl : j = 9 := by omega
        obtain ⟨B,rfl,_,hB⟩ := hv
        have := blk_lt hB
        intro e
        simp only [Value.pointer.injEq,Option.some.injEq,Addr.mk.injEq,true_and,and_true] at e
        omega
       ·cases ho
        clear hp
        unfold Oper.wp
        go_simp
        refine HK.out _ _ (bO _) ⟨_,rfl,HB.out.size,blk_new W _⟩ (fun j v _ _ hv h => ?_)
        obtain rfl : j = 8 := by omega
        obtain ⟨B,rfl,_,hB⟩ := hv
        have := blk_lt hB
        intro e
        simp only [Value.pointer.injEq,Option.some.injEq,Addr.mk.injEq,true_and,and_true] at e
        omega
      case rtail =>
       intro a W fuel hfl hb he hp hr
       obtain ⟨s1,hs1⟩ : ∃ s,withS (0,0) x.f1 = s := ⟨_,rfl⟩
       obtain ⟨s2,hs2⟩ : ∃ s,withS (0,0) x.f2 = s := ⟨_,rfl⟩
       have v3 : a.eval (.tmp 95) = vSet (withS (0,0) x.f1) := hp 3 (by omega)
       have v7 : a.eval (.tmp 99) = vSet (withS (0,0) x.f2) := hp 7 (by omega)
       obtain ⟨B1,v8,hB1,k1⟩ := hp 8 (by omega)
       obtain ⟨B2,v9,hB2,k2⟩ := hp 9 (by omega)
       have hne : B1 ≠ B2 := fun e => hr 8 9 (by omega) (by omega) (by omega) (.inl ⟨rfl,rfl⟩) (by rw [v8,v9,e])
       replace v8 : a.eval (.tmp 21) = .pointer (some ⟨B1,0,none⟩) := v8
       replace v9 : a.eval (.tmp 22) = .pointer (some ⟨B2,0,none⟩) := v9
       replace he : putL _ [(92,a.eval (.tmp 92)),(93,a.eval (.tmp 93)),(94,a.eval (.tmp 94)),(95,a.eval (.tmp 95)),(96,a.eval (.tmp 96)),(97,a.eval (.tmp 97)),(98,a.eval (.tmp 98)),(99,a.eval (.tmp 99)),(21,a.eval (.tmp 21)),(22,a.eval (.tmp 22))] = a := he
       rw [v3,v7,v8,v9,hs1,hs2] at he
       rw [hs1,hs2] at HF2
       rw [hs1] at HF0
       rw [hs2] at HF1
       clear hp hr v3 v7 v8 v9 hs1 hs2
       generalize a.eval (.tmp 92) = z92 at he
       generalize a.eval (.tmp 93) = z93 at he
       generalize a.eval (.tmp 94) = z94 at he
       generalize a.eval (.tmp 96) = z96 at he
       generalize a.eval (.tmp 97) = z97 at he
       generalize a.eval (.tmp 98) = z98 at he
       simp only [putL,Act.put,sA,sB,sC] at he
       subst he
       have HB6 := aS hb
       have K1 := aS k1
       have K2 := aS k2
       obtain ⟨d0,d1⟩ := cells_2 k1
       obtain ⟨f0,f1⟩ := froz_2 k1
       obtain ⟨d2,d3⟩ := cells_2 k2
       obtain ⟨f2,f3⟩ := froz_2 k2
       clear hb p0 p1 p2 p3 p4 k1 k2
       simp only [vSet]
       obtain ⟨f,rfl⟩ : ∃ f,fuel = f + 2 := ⟨fuel - 2,by have : (12 - 10 : Nat) ≤ fuel := hfl;omega⟩
       clear hfl
       refine wpAny_one (i := 10) (by kernel_rfl) rfl rfl ?_
       unfold Oper.wp
       go_simp
       refine wpAny_one (i := 11) (by kernel_rfl) rfl rfl ?_
       unfold Oper.wp
       go_simp
       refine wpAny_none (by kernel_rfl) ?_ _
       obtain ⟨E1,E2,E3⟩ := two_boxes (u0 := .int .u64 s1.1) (u1 := .int .u64 s1.2) (v0 := .int .u64 s2.1) (v1 := .int .u64 s2.2) K1.out K2.out hne hB1 hB2
       have D8 := aS (D6.out.step (HB6.out.trans E3))
       have E8 := aS E1
       have F8 := aS E2
       clear E1 E2 E3 K1 K2 d0 d1 f0 f1 d2 d3 f2 f3 hne hB1 hB2 HB6 D6 P94 B6
       generalize World.setCell _ (⟨B2,1,none⟩ : Addr) _ = w9 at *
       go_wp2
       have D_ := aS (D8.out.step (b_l (Below.refl _ _) (.cells #[.int .u64 0,.int .u64 0] 82)))
       have E_ := aS (blk_alloc E8.out (.cells #[.int .u64 0,.int .u64 0] 82))
       have F_ := aS (blk_alloc F8.out (.cells #[.int .u64 0,.int .u64 0] 82))
       have Z8 := aS (blk_new w9 (.cells #[.int .u64 0,.int .u64 0] 82))
       clear D8 E8 F8
       have D8 := D_
       have E8 := E_
       have F8 := F_
       clear D_ E_ F_
       generalize w9.alloc _ = w8 at *
       generalize w9.heap.size = g3 at *
       refine wp_region_below (by kernel_rfl) (by kernel_rfl) ?_
       refine wpQuiet_step (fun K hK => ?_)
       refine (if_pos rfl).mpr ⟨vSet p,fun w' hw' => ?_,hK _ ?_⟩
       ·have h3 : Below w8.heap.size w8 w' := hw'
        unfold Oper.quietAt
        have y0 := blk_cell (k_B D8.out.e1 h3) 0
        have z0 := blk_cell (k_B D8.out.e1 h3) 1
        go_simp
        all_goals rfl
       clear hK K
       refine wpQuiet_step (fun K hK => ?_)
       refine (if_pos rfl).mpr ⟨vSet s1,fun w' hw' => ?_,hK _ ?_⟩
       ·have h3 : Below w8.heap.size w8 w' := hw'
        unfold Oper.quietAt
        have y0 := blk_cell (k_B E8.out h3) 0
        have z0 := blk_cell (k_B E8.out h3) 1
        go_simp
        all_goals rfl
       clear hK K
       refine wpQuiet_step (fun K hK => ?_)
       refine (if_pos rfl).mpr ⟨vSet (bothS p s1),fun w' hw' => ?_,hK _ ?_⟩
       ·have h3 : Below w8.heap.size w8 w' := hw'
        unfold Oper.quietAt
        go_simp
        go_at_call 94
        exact (fields_Both.at p s1 _).mono fun e w2 ⟨he,hb⟩ => ⟨he,b_s h3 hb⟩
       clear hK K
       refine wpQuiet_step (fun K hK => ?_)
       refine (if_pos rfl).mpr ⟨vSet (0,0),fun w' hw' => ?_,hK _ ?_⟩
       ·have h3 : Below w8.heap.size w8 w' := hw'
        unfold Oper.quietAt
        have y0 := blk_cell (k_B Z8.out h3) 0
        have z0 := blk_cell (k_B Z8.out h3) 1
        go_simp
        all_goals rfl
       clear hK K
       refine wpQuiet_step (fun K hK => ?_)
       refine (if_pos rfl).mpr ⟨.bool false,fun w' hw' => ?_,hK _ ?_⟩
       ·unfold Oper.quietAt
        rw [HF0.out]
        simp only [vSet]
        go_simp
        all_goals first | rfl | exact ⟨rfl,rfl⟩
       clear hK K
       refine wpQuiet_step (fun K hK => ?_)
       refine (if_pos rfl).mpr ⟨.bool false,fun w' hw' => ?_,hK _ ?_⟩
       ·unfold Oper.quietAt
        go_simp
        all_goals first | rfl | exact ⟨rfl,rfl⟩
       clear hK K
       simp only [Act.put,sA,sB,sC]
       refine wpQuiet_step (fun K hK => ?_)
       refine (if_pos rfl).mpr ⟨vSet q,fun w' hw' => ?_,hK _ ?_⟩
       ·have h3 : Below w8.heap.size w8 w' := hw'
        unfold Oper.quietAt
        have y0 := blk_cell (k_B D8.out.e2 h3) 0
        have z0 := blk_cell (k_B D8.out.e2 h3) 1
        go_simp
        all_goals rfl
       clear hK K
       refine wpQuiet_step (fun K hK => ?_)
       refine (if_pos rfl).mpr ⟨vSet s2,fun w' hw' => ?_,hK _ ?_⟩
       ·have h3 : Below w8.heap.size w8 w' := hw'
        unfold Oper.quietAt
        have y0 := blk_cell (k_B F8.out h3) 0
        have z0 := blk_cell (k_B F8.out h3) 1
        go_simp
        all_goals rfl
       clear hK K
       refine wpQuiet_step (fun K hK => ?_)
       refine (if_pos rfl).mpr ⟨vSet (bothS q s2),fun w' hw' => ?_,hK _ ?_⟩
       ·have h3 : Below w8.heap.size w8 w' := hw'
        unfold Oper.quietAt
        go_simp
        go_at_call 94
        exact (fields_Both.at q s2 _).mono fun e w2 ⟨he,hb⟩ => ⟨he,b_s h3 hb⟩
       clear hK K
       refine wpQuiet_step (fun K hK => ?_)
       refine (if_pos rfl).mpr ⟨vSet (0,0),fun w' hw' => ?_,hK _ ?_⟩
       ·have h3 : Below w8.heap.size w8 w' := hw'
        unfold Oper.quietAt
        have y0 := blk_cell (k_B Z8.out h3) 0
        have z0 := blk_cell (k_B Z8.out h3) 1
        go_simp
        all_goals rfl
       clear hK K
       refine wpQuiet_step (fun K hK => ?_)
       refine (if_pos rfl).mpr ⟨.bool false,fun w' hw' => ?_,hK _ ?_⟩
       ·unfold Oper.quietAt
        rw [HF1.out]
        simp only [vSet]
        go_simp
        all_goals first | rfl | exact ⟨rfl,rfl⟩
       clear hK K
       refine wpQuiet_step (fun K hK => ?_)
       refine (if_pos rfl).mpr ⟨.bool false,fun w' hw' => ?_,hK _ ?_⟩
       ·unfold Oper.quietAt
        go_simp
        all_goals first | rfl | exact ⟨rfl,rfl⟩
       clear hK K
       simp only [Act.put,sA,sB,sC]
       refine wpQuiet_nil ?_
       intro w8' hw'
       have D_ := aS (D8.out.step hw')
       have E_ := aS (k_B E8.out hw')
       have F_ := aS (k_B F8.out hw')
       clear D8 E8 F8 Z8 hw'
       have D8 := D_
       have E8 := E_
       have F8 := F_
       clear D_ E_ F_
       go_wp2
       have NG2 := aS (blk_lt D8.out.e1)
       refine region_vals (by kernel_rfl) 6 dst33 (vals33 p s1 q s2) (by decide) ?rlow ?rgrow ?rinj ?rsz ?rlate ?rtail
       case rlow =>
        intro i o hi ho
        rcases (show i = 0 ∨ i = 1 ∨ i = 2 ∨ i = 3 ∨ i = 4 ∨ i = 5 by omega) with rfl | rfl | rfl | rfl | rfl | rfl <;> (cases ho;exact ⟨rfl,rfl,by decide⟩)
       case rinj =>
        intro i j hi hj
        revert j
        revert i
        decide
       case rsz =>
        intro i hi
        exact Nat.lt_of_lt_of_le ((by decide : ∀ i,i < 6 → dst33 i < 120) i hi) (Nat.le_of_ble_eq_true rfl)
       case rlate =>
        intro listed hc i hk hi hl
        have hi12 : i = 6 ∨ i = 7 := by
         obtain ⟨_,o,ho,_⟩ := mem_ready.1 hi
         have := (Array.getElem?_eq_some_iff.1 ho).1
         simp at this
         omega
        rcases hi12 with rfl | rfl
        ·have H := mem_ready' hi rfl
         have t5 := H ⟨5,.chain⟩ (by simp) rfl
         have t4 := hc 5 _ (by omega) rfl t5 ⟨4,.data⟩ (by simp) rfl
         have t3 := hc 5 _ (by omega) rfl t5 ⟨3,.data⟩ (by simp) rfl
         have t2 := hc 5 _ (by omega) rfl t5 ⟨2,.chain⟩ (by simp) rfl
         have t1 := hc 2 _ (by omega) rfl t2 ⟨1,.data⟩ (by simp) rfl
         have t0 := hc 2 _ (by omega) rfl t2 ⟨0,.data⟩ (by simp) rfl
         intro j hj
         rcases (show j = 0 ∨ j = 1 ∨ j = 2 ∨ j = 3 ∨ j = 4 ∨ j = 5 by omega) with rfl | rfl | rfl | rfl | rfl | rfl <;> assumption
        ·have t := mem_ready' hi rfl ⟨6,.chain⟩ (by simp) rfl
         have t' := hl 6 (by omega)
         rw [t'] at t
         cases t
       case rgrow =>
        intro i o hi ho a W hb hf hp K' hK
        have HK := aS hK
        have HB := aS hb
        clear hK hb
        rcases (show i = 0 ∨ i = 1 ∨ i = 2 ∨ i = 3 ∨ i = 4 ∨ i = 5 by omega) with rfl | rfl | rfl | rfl | rfl | rfl
        ·cases ho
         clear hp
         have e1 : a.tmps[16]? = some (.pointer (some ⟨g5,0,none⟩)) := (hf.2.2 16 (by decide)).trans rfl
         have h1 := k_B D8.out.e1 HB.out
         have h2 := blk_cell h1 0
         have h3 := blk_cell h1 1
         clear hf h1
         unfold Oper.wp
         go_simp
         exact HK.out _ (Below.refl _ _)
        ·cases ho
         clear hp
         have e1 : a.tmps[21]? = some (.pointer (some ⟨B1,0,none⟩)) := (hf.2.2 21 (by decide)).trans rfl
         have h1 := k_B E8.out HB.out
         have h2 := blk_cell h1 0
         have h3 := blk_cell h1 1
         clear hf h1
         unfold Oper.wp
         go_simp
         exact HK.out _ (Below.refl _ _)
        ·cases ho
         have h1 : a.eval (.tmp 114) = vSet p := hp ⟨0,.data⟩ (by simp) rfl
         have h2 : a.eval (.tmp 115) = vSet s1 := hp ⟨1,.data⟩ (by simp) rfl
         clear hp hf
         simp only [Act.eval,Array.getD_eq_getD_getElem?] at h1 h2
         unfold Oper.wp
         go_simp
         go_at_call 95
         refine (fields_Either.at p s1 W).mono ?_
         rintro e w7 ⟨rfl,hb7⟩
         exact HK.out _ hb7
        ·cases ho
         clear hp
         have e1 : a.tmps[17]? = some (.pointer (some ⟨g5 + 1,0,none⟩)) := (hf.2.2 17 (by decide)).trans rfl
         have h1 := k_B D8.out.e2 HB.out
         have h2 := blk_cell h1 0
         have h3 := blk_cell h1 1
         clear hf h1
         unfold Oper.wp
         go_simp
         exact HK.out _ (Below.refl _ _)
        ·cases ho
         clear hp
         have e1 : a.tmps[22]? = some (.pointer (some ⟨B2,0,none⟩)) := (hf.2.2 22 (by decide)).trans rfl
         have h1 := k_B F8.out HB.out
         have h2 := blk_cell h1 0
         have h3 := blk_cell h1 1
         clear hf h1
         unfold Oper.wp
         go_simp
         exact HK.out _ (Below.refl _ _)
        ·cases ho
         have h1 : a.eval (.tmp 117) = vSet q := hp ⟨3,.data⟩ (by simp) rfl
         have h2 : a.eval (.tmp 118) = vSet s2 := hp ⟨4,.data⟩ (by simp) rfl
         clear hp hf
         simp only [Act.eval,Array.getD_eq_getD_getElem?] at h1 h2
         unfold Oper.wp
         go_simp
         go_at_call 95
         refine (fields_Either.at q s2 W).mono ?_
         rintro e w7 ⟨rfl,hb7⟩
         exact HK.out _ hb7
       case rtail =>
        intro W fuel hfl hb
        show wpAny _ _ _ _ fuel _ (putL _ [(114,vSet p),(115,vSet s1),(116,vSet (eithS p s1)),(117,vSet q),(118,vSet s2),(119,vSet (eithS q s2))]) W
        simp only [putL,Act.put,sA,sB,sC,vSet]
        have D9 := aS (D8.out.step hb)
        obtain ⟨d0,d1⟩ := cells_2 D9.out.e1
        obtain ⟨f0,f1⟩ := froz_2 D9.out.e1
        obtain ⟨d2,d3⟩ := cells_2 D9.out.e2
        obtain ⟨f2,f3⟩ := froz_2 D9.out.e2
        clear hb D8 E8 F8
        obtain ⟨f,rfl⟩ : ∃ f,fuel = f + 2 := ⟨fuel - 2,by have : (8 - 6 : Nat) ≤ fuel := hfl;omega⟩
        clear hfl
        refine wpAny_one (i := 6) (by kernel_rfl) rfl rfl ?_
        unfold Oper.wp
        go_simp
        refine wpAny_one (i := 7) (by kernel_rfl) rfl rfl ?_
        unfold Oper.wp
        go_simp
        refine wpAny_none (by kernel_rfl) ?_ _
        have DF := aS (RL.sets D9.out (eithS p s1) (eithS q s2))
        clear D9 d0 d1 f0 f1 d2 d3 f2 f3
        generalize World.setCell _ (⟨g5 + 1,1,none⟩ : Addr) _ = w9 at *
        go_wp2
        obtain ⟨g,rfl⟩ : ∃ g,gk = g + 1 := ⟨gk - 1,by omega⟩
        go_roundg g
        case rel => exact ⟨i + 1,_,_,(by first | exact wiX i (by have := M6.out;omega) | rfl),by omega,HF2,DF⟩
        case measure => omega
     ·have e0 : decide ((i : Int) < rs.length) = false := d_F (by omega)
      have HBW := aS D.out.d.below
      clear D HF
      go_wp2
      go_ret3
      exact ⟨rfl,HBW.out⟩
set_option maxHeartbeats 1000000 in
theorem mti_Response_no.at (m : ByteArray) (w : World) (hm : reqM m = false) : Calls prog 16 #[.string m] w fun e w' => e = .returned (.tuple #[.string ⟨#[]⟩,.bool false]) ∧ Below w.heap.size w w' := by
 go_enter func16,ntmps16
 go_wp2_with (first | (go_at_call 13;refine (mti_Request.at _ _).mono ?_;rintro e w1 ⟨rfl,hb1⟩;rw [hm]))
 all_goals go_ret2
 all_goals exact ⟨rfl,hb1⟩
set_option maxHeartbeats 2000000 in
theorem reject_Build_no.at (v0 v1 : Int) (s1 s2 s3 s4 s5 : Value) (m : ByteArray) (s6 : Value) (err fld : Int) (w : World)
  (hs : (∃ a b c,s1 = .slice a b c) ∧ (∃ a b c,s2 = .slice a b c) ∧ (∃ a b c,s3 = .slice a b c) ∧ (∃ a b c,s4 = .slice a b c) ∧ (∃ a b c,s5 = .slice a b c) ∧ (∃ a b c,s6 = .slice a b c)) (hq : reqM m = false) :
  Calls prog 14 #[.agg #[.int .i64 v0,.int .i64 v1,s1,s2,s3,s4,s5],.agg #[.string m,s6],.agg #[.int .i64 err,.int .i64 fld]] w fun e w' => e = .returned (.tuple #[.agg #[.string ⟨#[]⟩,.slice none 0 0],.bool false]) ∧ Below w.heap.size w w' := by
 have hu32 := underlying32
 have hu42 := underlying42
 have hu45 := underlying45
 obtain ⟨⟨a1,n1,c1,rfl⟩,⟨a2,n2,c2,rfl⟩,⟨a3,n3,c3,rfl⟩,⟨a4,n4,c4,rfl⟩,⟨a5,n5,c5,rfl⟩,a6,n6,c6,rfl⟩ := hs
 go_enter func14,ntmps14
 go_wp2_with (first | (go_at_call 16;refine (mti_Response_no.at _ _ hq).mono ?_;rintro e w1 ⟨rfl,hb1⟩;have D := aS (Box4.init hb1);clear hb1;obtain ⟨b0,b1⟩ := cells_2 D.out.h4;obtain ⟨f0,f1⟩ := froz_2 D.out.h4))
 refine bodyPost_ret (results_ct rfl _ _ (w.heap.size + 1 + 1 + 1) 42 _ (0,0) _ rfl (blk_put (blk_put D.out.h4 0 _ rfl) 1 _ rfl) hu42 rfl (by kernel_rfl)) rfl ?_
 exact ⟨rfl,(D.out.below.setCell (p := ⟨w.heap.size + 1 + 1 + 1,0,none⟩) (by show w.heap.size ≤ w.heap.size + 1 + 1 + 1;omega) _).setCell (p := ⟨w.heap.size + 1 + 1 + 1,1,none⟩) (by show w.heap.size ≤ w.heap.size + 1 + 1 + 1;omega) _⟩
def InR (p : Int × Int) : Prop := ∃ a b : Nat,p = ((a : Int),(b : Int)) ∧ a < 2 ^ 63 ∧ b < 2 ^ 64
theorem u64_small (n : Int) (h0 : 0 ≤ n) (h1 : n < 2 ^ 64) : IntKind.u64.wrap n = n := by rw [IntKind.wrap_u64];omega
theorem or_u64 {a b : Nat} (ha : a < 2 ^ 64) (hb : b < 2 ^ 64) : Go.bits .or .u64 (a : Int) (b : Int) = ((a ||| b : Nat) : Int) := (bits_nat .u64 64 (by decide) u64_small a b ha hb).2
theorem and_u64 {a b : Nat} (ha : a < 2 ^ 64) (hb : b < 2 ^ 64) : Go.bits .and .u64 (a : Int) (b : Int) = ((a &&& b : Nat) : Int) := (bits_nat .u64 64 (by decide) u64_small a b ha hb).1
theorem bitS_in {n : Int} (h0 : 2 ≤ n) (h1 : n ≤ 128) : InR (bitS n) := by
 unfold bitS
 rw [if_neg (by omega)]
 split
 ·refine ⟨2 ^ (64 - n).toNat,0,?_,?_,by decide⟩
  ·rw [u64_small _ (Int.le_of_lt (Int.pow_pos (by decide))) (by
    have : (2 : Int) ^ (64 - n).toNat ≤ 2 ^ 62 := by
     have h := Nat.pow_le_pow_right (show 0 < 2 by decide) (show (64 - n).toNat ≤ 62 by omega)
     exact_mod_cast h
    omega)]
   simp
  ·exact Nat.pow_lt_pow_right (by decide) (by omega)
 ·refine ⟨0,2 ^ (128 - n).toNat,?_,by decide,Nat.pow_lt_pow_right (by decide) (by omega)⟩
  rw [u64_small _ (Int.le_of_lt (Int.pow_pos (by decide))) (by
    have : (2 : Int) ^ (128 - n).toNat ≤ 2 ^ 63 := by
     have h := Nat.pow_le_pow_right (show 0 < 2 by decide) (show (128 - n).toNat ≤ 63 by omega)
     exact_mod_cast h
    omega)]
  simp
theorem withS_in {p : Int × Int} {n : Int} (hp : InR p) (h0 : 2 ≤ n) (h1 : n ≤ 128) : InR (withS p n) := by
 obtain ⟨a,b,rfl,ha,hb⟩ := hp
 obtain ⟨c,d,e,hc,hd⟩ := bitS_in h0 h1
 unfold withS eithS
 rw [e]
 refine ⟨a ||| c,b ||| d,?_,Nat.or_lt_two_pow ha hc,Nat.or_lt_two_pow hb hd⟩
 rw [or_u64 (by omega) (by omega),or_u64 hb hd]
theorem setS_in : ∀ (xs : List S63) (p : Int × Int),InR p → (∀ x ∈ xs,2 ≤ x.f0 ∧ x.f0 ≤ 128) → InR (setS xs p)
 | [],_,hp,_ => hp
 | x :: xs,p,hp,h => by
  rw [setS]
  exact setS_in xs _ (withS_in hp (h x List.mem_cons_self).1 (h x List.mem_cons_self).2) (fun y hy => h y (List.mem_cons_of_mem _ hy))
theorem InR_no1 {p : Int × Int} (hp : InR p) : hasS p 1 = false := by
 obtain ⟨a,b,rfl,ha,hb⟩ := hp
 have h1 : bitS 1 = (((2 ^ 63 : Nat) : Int),((0 : Nat) : Int)) := by decide
 unfold hasS bothS
 rw [h1,and_u64 (by omega) (by decide),and_u64 hb (by decide)]
 have h2 : a &&& 2 ^ 63 = 0 := by
  apply Nat.eq_of_testBit_eq
  intro i
  rw [Nat.testBit_and,Nat.zero_testBit,Nat.testBit_two_pow]
  by_cases e : 63 = i
  ·subst e;rw [Nat.testBit_lt_two_pow ha];rfl
  ·simp [e]
 rw [h2]
 simp
theorem fieldsOk_memE {l : List S87} (hl : ∀ x ∈ l,specCheck x = 0) : ∀ (xs : List S63) (last : Int),fieldsOk l last xs = true → ∀ x ∈ xs,(2 ≤ x.f0 ∧ x.f0 ≤ 128) ∧ x.f1.size ≤ 999
 | [],_,_,_,hx => by cases hx
 | y :: ys,last,h,x,hx => by
  obtain ⟨h1,h2,h3,h4⟩ := fieldsOk_cons h
  rcases List.mem_cons.1 hx with rfl | hx
  ·have hf := findS_ok h2
   have hc := specCheck_facts (hl _ hf.1)
   rw [hf.2] at hc
   exact ⟨⟨hc.1,hc.2.1⟩,(specValue_facts h3).2.2.2⟩
  ·exact fieldsOk_memE hl ys _ h4 x hx
def encF (st : Int) (l : List S87) : List S63 → ByteArray → ByteArray
 | [],acc => acc
 | x :: xs,acc => encF st l xs (acc ++ cellP st (findS x.f0 l).1 x.f1)
def encS (st : Int) (l : List S87) (m : ByteArray) (xs : List S63) : ByteArray := encF st l xs (typP st m ++ bmP st (setS xs (0,0)))
set_option maxHeartbeats 1000000 in
theorem wire_put.at (B : Nat) (bs : List Value) (s : ByteArray) (w : World) (h : Lib.IsBuilder 103 5 B B bs w) (hlen : bs.length + s.size ≤ 140737488355328) (hBw : B ≤ w.heap.size) :
  Calls prog 44 #[.string s,.pointer (some ⟨B,0,none⟩)] w fun e w' => e = .returned (.tuple #[]) ∧ (Lib.IsBuilder 103 5 B B (bs ++ Lib.strCells s) w' ∧ Below B w w') := by
 go_enter func44,ntmps44
 go_wp2_with (first | (go_at_call 45;refine (Go.Proofs.YtgbmnpgaddhfpaaGreatDoor.G.writeString B B bs s _ h hlen hBw).mono ?_;rintro e w1 ⟨rfl,h1,h2⟩))
 go_end0
 exact ⟨rfl,.inr h1,h2⟩
structure EncW (w W : World) (st ver : Int) (sl : Value) (m : ByteArray) (v : Value) (bs : List Value) (B : Nat) : Prop where
 b2 : W.heap[w.heap.size]? = some (.cells #[.int .i64 st,.int .i64 ver,sl] 24 (0,0))
 b3 : W.heap[w.heap.size + 1]? = some (.cells #[.string m,v] 42 (0,0))
 b5 : W.heap[w.heap.size + 1 + 1]? = some (.cells #[.int .i64 0,.int .i64 0] 45 (0,0))
 below : Below w.heap.size w W
 lt : w.heap.size + 1 + 1 < B
 bld : Lib.IsBuilder 103 5 B B bs W
 le : B ≤ W.heap.size
theorem EncW.step {w W W' : World} {st ver : Int} {sl v : Value} {m : ByteArray} {bs : List Value} {B : Nat} (D : EncW w W st ver sl m v bs B) (hb : Below W.heap.size W W') : EncW w W' st ver sl m v bs B :=
 ⟨k_B D.b2 hb,k_B D.b3 hb,k_B D.b5 hb,b_s D.below hb,D.lt,Go.Proofs.YtgbmnpgaddhfpaaGreatDoor.G.bld_below D.bld hb,Nat.le_trans D.le hb.size⟩
theorem EncW.put {w W W' : World} {st ver : Int} {sl v : Value} {m : ByteArray} {bs bs' : List Value} {B : Nat} (D : EncW w W st ver sl m v bs B) (hb : Below B W W') (hn : Lib.IsBuilder 103 5 B B bs' W') : EncW w W' st ver sl m v bs' B := by
 have h := D.lt
 exact ⟨(hb.block _ (by omega)).trans D.b2,(hb.block _ (by omega)).trans D.b3,(hb.block _ (by omega)).trans D.b5,D.below.trans (hb.mono (by omega)),D.lt,hn,Nat.le_trans D.le hb.size⟩
theorem EncW.init {w w1 : World} {st ver : Int} {sl v : Value} {m : ByteArray} (D : Box3 w w1 (.cells #[.int .i64 st,.int .i64 ver,sl] 24) (.cells #[.string m,v] 42) (.cells #[.int .i64 0,.int .i64 0] 45)) :
  EncW w ((w1.alloc (.cells #[.int .i64 0,.int .i64 0] 45)).alloc (.cells #[.pointer none,.slice none 0 0] 103)) st ver sl m v [] (w1.heap.size + 1) := by
 have h := Go.Proofs.YtgbmnpgaddhfpaaGreatDoor.G.bld_new (w1.alloc (.cells #[.int .i64 0,.int .i64 0] 45))
 rw [size_alloc] at h
 have h3 := blk_lt D.h3
 exact ⟨blk_alloc (blk_alloc D.h1 _) _,blk_alloc (blk_alloc D.h2 _) _,blk_alloc (blk_alloc D.h3 _) _,b_l (b_l D.below _) _,by omega,h,by rw [size_alloc,size_alloc];omega⟩
theorem bytes_app (l : List UInt8) (s : ByteArray) : Lib.byteCells l ++ Lib.strCells s = Lib.byteCells (l ++ s.data.toList) := by simp [Lib.byteCells,Lib.strCells]
theorem bytes_acc (a s : ByteArray) : Lib.byteCells a.data.toList ++ Lib.strCells s = Lib.byteCells (a ++ s).data.toList := by rw [bytes_app,app_data]
theorem bytes_len (a : ByteArray) : (Lib.byteCells a.data.toList).length = a.size := by simp [Lib.byteCells,data_length]
theorem bmP_size (st : Int) (p : Int × Int) : (bmP st p).size ≤ 2000000 := by
 have h8 := fun t => str8_size t
 unfold bmP
 (repeat' split)
 ·exact hexP_size _ (by rw [str8_size];omega)
 ·rw [str8_size];omega
 ·exact hexP_size _ (by rw [app_size,str8_size,str8_size];omega)
 ·rw [app_size,str8_size,str8_size];omega
theorem typP_size (st : Int) (m : ByteArray) (hm : isMti m = true) : (typP st m).size ≤ 1000 := by
 unfold typP
 split
 ·have := (isMti_iff.1 hm).1;omega
 ·exact bcdP_size m
set_option maxHeartbeats 1000000 in
theorem groatref07_Put.at (st f n : Int) (w : World) (hst : st = 1 ∨ st = 2) (hf : f = 2 ∨ f = 3) (hn : n ≤ 4611686018427387904) :
  Calls prog 124 #[.int .i64 st,.int .i64 f,.int .i64 n] w fun e w' => e = .returned (.tuple #[.string (preP st f n).1,.int .i64 (preP st f n).2]) ∧ Below w.heap.size w w' := by
 have hwf : width f = f := by rcases hf with rfl | rfl <;> decide
 obtain ⟨r,hg⟩ : ∃ r,preP st f n = r := ⟨_,rfl⟩
 rw [hg]
 rw [preP,hwf] at hg
 have hz : Aside0 ((digP n f).1.size ≤ 1000) := ⟨by have := digP_size n f;omega⟩
 obtain ⟨u1,u2,hu⟩ : ∃ u1 u2,digP n f = (u1,u2) := ⟨_,_,rfl⟩
 obtain ⟨v1,v2,hv⟩ : ∃ v1 v2,bcdP u1 = (v1,v2) := ⟨_,_,rfl⟩
 rw [hu] at hz
 rw [hu,hv] at hg
 have HG := aS hg
 clear hg
 have e0 : (f == 0) = false := by rcases hf with rfl | rfl <;> decide
 rcases hst with rfl | rfl
 all_goals go_enter func124,ntmps124
 all_goals go_wp2_with (first | (go_at_call 152;refine (groatref07_Width.at _ _).mono ?_;rintro e w1 ⟨rfl,hw⟩;obtain rfl := hw.symm;rw [hwf]) | (go_at_call 160;refine (groatref01_Put.at _ _ _ hn).mono ?_;rintro e w2 ⟨rfl,hb2⟩;rw [hu]) | (go_at_call 123;refine (groatref03_Put.at _ _ (by have : u1.size ≤ 1000 := hz.out;omega)).mono ?_;rintro e w3 ⟨rfl,hb3⟩;rw [hv]))
 all_goals go_ret2
 all_goals obtain rfl := HG.out
 all_goals refine ⟨?_,by first | exact b_s hb2 hb3 | exact hb2⟩
 all_goals (repeat' split) <;> first | rfl | simp_all
def contV (st c : Int) (t : ByteArray) : ByteArray := if howV st c = 1 then (bcdP t).1 else if howV st c = 2 then hexP t else t
set_option maxHeartbeats 1000000 in
theorem groatref12_content.at (st c : Int) (t : ByteArray) (w : World) (hst : st = 1 ∨ st = 2) (hc : 1 ≤ c ∧ c ≤ 6) (ht : t.size ≤ 1000000) :
  Calls prog 125 #[.int .i64 st,.int .i64 c,.string t] w fun e w' => e = .returned (.string (contV st c t)) ∧ Below w.heap.size w w' := by
 have HT := aS ht
 obtain ⟨r,hg⟩ : ∃ r,contV st c t = r := ⟨_,rfl⟩
 rw [hg]
 unfold contV howV at hg
 obtain ⟨v1,v2,hv⟩ : ∃ v1 v2,bcdP t = (v1,v2) := ⟨_,_,rfl⟩
 rw [hv] at hg
 have HG := aS hg
 clear hg
 rcases hst with rfl | rfl <;> rcases (show c = 1 ∨ c = 2 ∨ c = 3 ∨ c = 4 ∨ c = 5 ∨ c = 6 by omega) with rfl | rfl | rfl | rfl | rfl | rfl
 all_goals clear hc
 all_goals go_enter func125,ntmps125
 all_goals go_wp2_with (first | (go_at_call 123;refine (groatref03_Put.at _ _ (by have := HT.out;omega)).mono ?_;rintro e w3 ⟨rfl,hb3⟩;rw [hv]) | (go_at_call 122;refine (groatref02_Put.at _ _ HT.out).mono ?_;rintro e w3 ⟨rfl,hb3⟩))
 all_goals go_ret
 all_goals obtain rfl := HG.out
 all_goals refine ⟨?_,by first | exact hb3 | exact Below.refl _ _⟩
 all_goals simp
theorem groatref17_Type.at (st : Int) (m : ByteArray) (w : World) (hst : st = 1 ∨ st = 2) (hm : m.size ≤ 1000000) :
  Calls prog 67 #[.int .i64 st,.string m] w fun e w' => e = .returned (.string (typP st m)) ∧ Below w.heap.size w w' := by
 have HM := aS hm
 clear hm
 rcases hst with rfl | rfl
 ·go_enter func67,ntmps67
  go_wp2
  go_ret
  exact ⟨rfl,Below.refl _ _⟩
 ·have HG : Aside0 (typP 2 m = (bcdP m).1) := ⟨by unfold typP;rw [if_neg (by decide)]⟩
  go_enter func67,ntmps67
  go_wp2_with (first | (go_at_call 123;refine (groatref03_Put.at _ _ (by have := HM.out;omega)).mono ?_;rintro e w3 ⟨rfl,hb3⟩))
  go_ret
  exact ⟨by rw [HG.out];rfl,hb3⟩
set_option maxHeartbeats 4000000 in
theorem groatref12_Put.at (st : Int) (x : S87) (t : ByteArray) (w : World) (hst : st = 1 ∨ st = 2) (hv : specValue x t = 0) (ht : t.size ≤ 1000000) :
  Calls prog 68 #[.int .i64 st,v87 x,.string t] w fun e w' => e = .returned (.tuple #[.string (cellP st x t),.int .i64 0]) ∧ Below w.heap.size w w' := by
 have HT := aS ht
 have HV := aS hv
 have hf := specCheck_facts (specValue_facts hv).1
 have HC : Aside0 (1 ≤ x.f1 ∧ x.f1 ≤ 6) := ⟨by omega⟩
 have HCS : Aside0 ((contV st x.f1 t).size ≤ 3000000) := ⟨by
  unfold contV
  have h2 := bcdP_size t
  have h3 := hexP_size t ht
  (repeat' split) <;> omega⟩
 have HP : Aside0 ((preP st x.f2 t.size).1.size ≤ 1000) := ⟨preP_size _ _ _⟩
 obtain ⟨cv,hcv⟩ : ∃ r,contV st x.f1 t = r := ⟨_,rfl⟩
 obtain ⟨p1,p2,hp⟩ : ∃ p1 p2,preP st x.f2 t.size = (p1,p2) := ⟨_,_,rfl⟩
 have HG : Aside0 (cellP st x t = (if x.f2 = 1 then ⟨#[]⟩ else p1) ++ cv) := ⟨by unfold cellP;rw [hp,← hcv];rfl⟩
 rw [hcv] at HCS
 rw [hp] at HP
 have hu87 := underlying87
 have c5 : (9223372036854775807 < p1.size + cv.size) = False := eq_false (by have := HCS.out;have : p1.size ≤ 1000 := HP.out;omega)
 have c6 : (9223372036854775807 < cv.size) = False := eq_false (by have := HCS.out;omega)
 have c7 : (9223372036854775807 < 0 + cv.size) = False := eq_false (by have := HCS.out;omega)
 unfold v87 at *
 rcases (show ((x.f2 != 1) = false ∧ x.f2 = 1) ∨ ((x.f2 != 1) = true ∧ (x.f2 = 2 ∨ x.f2 = 3)) by by_cases k : x.f2 = 1;exact .inl ⟨bne_eq_false_iff_eq.mpr k,k⟩;exact .inr ⟨bne_iff_ne.mpr k,by omega⟩) with ⟨e2,K⟩ | ⟨e2,K⟩
 all_goals have K2 := aS K
 all_goals clear K
 all_goals clear hf hv ht
 all_goals rcases hst with rfl | rfl
 all_goals go_enter func68,ntmps68
 all_goals go_wp2_with (first | (go_at_call 64;refine (groatref11_Value.at x _ _ HT.out).mono ?_;rintro e w2 ⟨rfl,hb1⟩;rw [HV.out];have B := aS (blk_nb hb1);have H := aS (below_a1 hb1);clear hb1;obtain ⟨k0,k1,k2,k3,k4⟩ := cells_5 B.out) | (go_at_call 124;refine (groatref07_Put.at _ _ _ _ (by first | exact .inl rfl | exact .inr rfl) K2.out (by have := HT.out;omega)).mono ?_;rintro e w3 ⟨rfl,hb1⟩;rw [hp];have B_ := aS (k_B B.out hb1);have H_ := aS (b_s H.out hb1);clear B H k0 k1 k2 k3 k4 hb1;have B := B_;have H := H_;clear B_ H_;obtain ⟨k0,k1,k2,k3,k4⟩ := cells_5 B.out) | (go_at_call 125;refine (groatref12_content.at _ _ _ _ (by first | exact .inl rfl | exact .inr rfl) HC.out HT.out).mono ?_;rintro e w4 ⟨rfl,hb1⟩;rw [hcv];have H_ := aS (b_s H.out hb1);clear B H k0 k1 k2 k3 k4 hb1;have H := H_;clear H_))
 all_goals go_ret2
 all_goals refine ⟨?_,H.out⟩
 all_goals rw [HG.out]
 all_goals first | (rw [if_pos K2.out];rfl) | (rw [if_neg (by have := K2.out;omega)];rfl)
end Go.Proofs.YtgbmnpgaddhfpaaGreatDoor.T
