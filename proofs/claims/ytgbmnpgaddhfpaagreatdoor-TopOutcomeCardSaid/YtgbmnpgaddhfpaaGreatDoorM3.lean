/- Walks and plain laws beneath the law TopOutcome. No conditions but what each statement names. -/
import Derived.Test.YtgbmnpgaddhfpaaGreatDoorM2
set_option linter.unusedVariables false
set_option linter.unusedSimpArgs false
namespace Go.Proofs.YtgbmnpgaddhfpaaGreatDoor.T
open Go.RowKit Go.Proofs.YtgbmnpgaddhfpaaGreatDoorW.PrintWords Go.Proofs.YtgbmnpgaddhfpaaGreatDoorW.PrintLast Go.Proofs.YtgbmnpgaddhfpaaGreatDoorW.PrintMore
attribute [local go_sem] max2_int min2_int max_two min_two
open Go.Proofs.YtgbmnpgaddhfpaaGreatDoor.G
open Tryz
set_option maxRecDepth 100000
def v66 (p : S66) : Value := .agg #[.string p.f0,.string p.f1]
theorem drop66 {l : List S66} {i : Nat} (h : i < l.length) : l.drop i = rd_T66 l i :: l.drop (i + 1) := by
 rw [List.drop_eq_getElem_cons h]
 simp [rd_T66,List.getD_eq_getElem?_getD,List.getElem?_eq_getElem h]
theorem at66 {A : Option Addr} {l : List S66} {w wr : World} (HR : Kd.C k66 w A l.length l) (HB : Below w.heap.size w wr) (i : Nat) (h : i < l.length) : ∃ ad,A = some ad ∧ wr.cell? (ad.add (i * 2)) = some (.string (rd_T66 l (i : Int)).f0)
  ∧ wr.cell? ⟨(ad.add (i * 2)).block,(ad.add (i * 2)).off + 1,none⟩ = some (.string (rd_T66 l (i : Int)).f1) := by
 obtain ⟨ad,rfl,h0,h1⟩ := at_T66 HR i (by omega) (by omega)
 simp only [Int.toNat_natCast] at h0 h1
 have up : ∀ {a : Addr} {v : Value},w.cell? a = some v → wr.cell? a = some v := fun hx => (HB.cell (World.block_lt_of_cell? w _ hx)).trans hx
 exact ⟨ad,rfl,up h0,up h1⟩
def headS (t : ByteArray) : List S66 → ByteArray × Bool
 | [] => (⟨#[]⟩,false)
 | p :: ps => if p.f0 = t then (p.f1,true) else headS t ps
theorem str_beq (s t : ByteArray) : (s.toList == t.toList) = decide (s = t) := by
 rw [Bool.eq_iff_iff,beq_iff_eq,decide_eq_true_eq]
 exact ⟨toL_inj,fun h => by rw [h]⟩
set_option maxHeartbeats 2000000 in
theorem xlate_head.at (A : Option Addr) (c : Nat) (l : List S66) (rs : Value) (t : ByteArray) (w : World) (hl : l.length ≤ 4611686018427387904) (hr : Kd.C k66 w A l.length l) (hc : l.length ≤ c) (B : Option Addr) (m d : Nat) (hrs : rs = .slice B m d) :
  Calls prog 40 #[.agg #[.slice A l.length c,rs],.string t] w fun e w' => e = .returned (.tuple #[.string (headS t l).1,.bool (headS t l).2]) ∧ Below w.heap.size w w' := by
 have hu28 := underlying28
 have hu66 := underlying66
 have HR := aS hr
 have HC := aS hc
 subst hrs
 clear hr hc
 go_enter func40,ntmps40
 go_wp2
 generalize hw1 : w.alloc _ = w1
 have HB1 : Aside0 (Below w.heap.size w w1) := ⟨by rw [← hw1];exact b_l (Below.refl _ _) _⟩
 clear hw1
 go_loopg [11] l.length (fun g v11 w' => ∃ i : Nat,v11 = .int .i64 i ∧ i + g = l.length ∧ Aside0 (headS t (l.drop i) = headS t l) ∧ Aside0 (Below w1.heap.size w1 w'))
 case atStart => exact ⟨0,rfl,Nat.zero_add _,⟨rfl⟩,⟨Below.refl _ _⟩⟩
 case round =>
  obtain ⟨i,rfl,hi,HF,HB⟩ := hrel
  have HBW : Aside0 (Below w.heap.size w wr) := ⟨b_s HB1.out HB.out⟩
  by_cases h : i < l.length
  ·have c0 : decide ((i : Int) < l.length) = true := d_T (by omega)
   obtain ⟨ad,rfl,hx0,hx1⟩ := at66 HR.out HBW.out i h
   have p : (0 ≤ (i : Int)) = True := eq_true (by omega)
   have q : ((i : Int) < l.length) = True := eq_true (by omega)
   have hf := HF.out
   rw [drop66 h,headS] at hf
   clear HF
   generalize rd_T66 l (i : Int) = x at *
   have e0 := str_beq x.f0 t
   by_cases e : x.f0 = t
   ·rw [d_T e] at e0
    rw [if_pos e] at hf
    have HF := aS hf
    clear hf e
    go_wp2
    go_ret2
    exact ⟨by rw [← HF.out];rfl,b_l HBW.out _⟩
   ·rw [d_F e] at e0
    rw [if_neg e] at hf
    have HF := aS hf
    clear hf e
    go_wp2
    obtain ⟨g,rfl⟩ : ∃ g,gk = g + 1 := ⟨gk - 1,by omega⟩
    go_roundg g
    case rel => exact ⟨i + 1,rfl,by omega,HF,⟨below_then HB.out HB.out.size (bO _)⟩⟩
    case measure => omega
  ·have c0 : decide ((i : Int) < l.length) = false := d_F (by omega)
   have hf := HF.out
   rw [List.drop_of_length_le (by omega),headS] at hf
   clear HF
   have HF := aS hf
   clear hf
   go_wp2
   go_ret2
   exact ⟨by rw [← HF.out];rfl,HBW.out⟩
theorem drop63 {l : List S63} {i : Nat} (h : i < l.length) : l.drop i = rd_T63 l i :: l.drop (i + 1) := by
 rw [List.drop_eq_getElem_cons h]
 simp [rd_T63,List.getD_eq_getElem?_getD,List.getElem?_eq_getElem h]
theorem at63 {A : Option Addr} {l : List S63} {w wr : World} (HR : Kd.C k63 w A l.length l) (HB : Below w.heap.size w wr) (i : Nat) (h : i < l.length) : ∃ ad,A = some ad ∧ wr.cell? (ad.add (i * 2)) = some (.int .i64 (rd_T63 l (i : Int)).f0)
  ∧ wr.cell? ⟨(ad.add (i * 2)).block,(ad.add (i * 2)).off + 1,none⟩ = some (.string (rd_T63 l (i : Int)).f1) := by
 obtain ⟨ad,rfl,h0,h1⟩ := at_T63 HR i (by omega) (by omega)
 simp only [Int.toNat_natCast] at h0 h1
 have up : ∀ {a : Addr} {v : Value},w.cell? a = some v → wr.cell? a = some v := fun hx => (HB.cell (World.block_lt_of_cell? w _ hx)).trans hx
 exact ⟨ad,rfl,up h0,up h1⟩
def getS (no : Int) : List S63 → ByteArray × Bool
 | [] => (⟨#[]⟩,false)
 | p :: ps => if p.f0 = no then (p.f1,true) else getS no ps
set_option maxHeartbeats 2000000 in
theorem msg_Get.at (m : ByteArray) (A : Option Addr) (c : Nat) (l : List S63) (no : Int) (w : World) (hl : l.length ≤ 4611686018427387904) (hr : Kd.C k63 w A l.length l) (hc : l.length ≤ c) :
  Calls prog 18 #[.agg #[.string m,.slice A l.length c],.int .i64 no] w fun e w' => e = .returned (.tuple #[.string (getS no l).1,.bool (getS no l).2]) ∧ Below w.heap.size w w' := by
 have hu42 := underlying42
 have hu63 := underlying63
 have HR := aS hr
 have HC := aS hc
 clear hr hc
 go_enter func18,ntmps18
 go_wp2
 generalize hw1 : w.alloc _ = w1
 have HB1 : Aside0 (Below w.heap.size w w1) := ⟨by rw [← hw1];exact b_l (Below.refl _ _) _⟩
 clear hw1
 go_loopg [11] l.length (fun g v11 w' => ∃ i : Nat,v11 = .int .i64 i ∧ i + g = l.length ∧ Aside0 (getS no (l.drop i) = getS no l) ∧ Aside0 (Below w1.heap.size w1 w'))
 case atStart => exact ⟨0,rfl,Nat.zero_add _,⟨rfl⟩,⟨Below.refl _ _⟩⟩
 case round =>
  obtain ⟨i,rfl,hi,HF,HB⟩ := hrel
  have HBW : Aside0 (Below w.heap.size w wr) := ⟨b_s HB1.out HB.out⟩
  by_cases h : i < l.length
  ·have c0 : decide ((i : Int) < l.length) = true := d_T (by omega)
   obtain ⟨ad,rfl,hx0,hx1⟩ := at63 HR.out HBW.out i h
   have p : (0 ≤ (i : Int)) = True := eq_true (by omega)
   have q : ((i : Int) < l.length) = True := eq_true (by omega)
   have hf := HF.out
   rw [drop63 h,getS] at hf
   clear HF
   generalize rd_T63 l (i : Int) = x at *
   by_cases e : x.f0 = no
   ·have e0 : (x.f0 == no) = true := beq_iff_eq.mpr e
    rw [if_pos e] at hf
    have HF := aS hf
    clear hf e
    go_wp2
    go_ret2
    exact ⟨by rw [← HF.out];rfl,b_l HBW.out _⟩
   ·have e0 : (x.f0 == no) = false := beq_eq_false_iff_ne.mpr e
    rw [if_neg e] at hf
    have HF := aS hf
    clear hf e
    go_wp2
    obtain ⟨g,rfl⟩ : ∃ g,gk = g + 1 := ⟨gk - 1,by omega⟩
    go_roundg g
    case rel => exact ⟨i + 1,rfl,by omega,HF,⟨below_then HB.out HB.out.size (bO _)⟩⟩
    case measure => omega
  ·have c0 : decide ((i : Int) < l.length) = false := d_F (by omega)
   have hf := HF.out
   rw [List.drop_of_length_le (by omega),getS] at hf
   clear HF
   have HF := aS hf
   clear hf
   go_wp2
   go_ret2
   exact ⟨by rw [← HF.out];rfl,HBW.out⟩
def placeS (no : Int) : List S87 → Int → Int
 | [],_ => -1
 | p :: ps,i => if p.f0 = no then i else placeS no ps (i + 1)
set_option maxHeartbeats 2000000 in
theorem groatref13_Find.at (st ver : Int) (A : Option Addr) (c : Nat) (l : List S87) (no : Int) (w : World) (hl : l.length ≤ 4611686018427387904) (hr : Kd.C k87 w A l.length l) (hc : l.length ≤ c) :
  Calls prog 56 #[.agg #[.int .i64 st,.int .i64 ver,.slice A l.length c],.int .i64 no] w fun e w' => e = .returned (.int .i64 (placeS no l 0)) ∧ Below w.heap.size w w' := by
 have hu24 := underlying24
 have hu87 := underlying87
 have HR := aS hr
 have HC := aS hc
 clear hr hc
 go_enter func56,ntmps56
 go_wp2
 generalize hw1 : w.alloc _ = w1
 have HB1 : Aside0 (Below w.heap.size w w1) := ⟨by rw [← hw1];exact b_l (Below.refl _ _) _⟩
 have HBK : Aside0 (w1.heap[w.heap.size]? = some (.cells #[.int .i64 st,.int .i64 ver,.slice A l.length c] 24 (0,0))) := ⟨by rw [← hw1];exact blk_new _ _⟩
 clear hw1
 go_loopg [5] l.length (fun g v5 w' => ∃ i : Nat,v5 = .int .i64 i ∧ i + g = l.length ∧ Aside0 (placeS no (l.drop i) i = placeS no l 0) ∧ Aside0 (Below w1.heap.size w1 w'))
 case atStart => exact ⟨0,rfl,Nat.zero_add _,⟨rfl⟩,⟨Below.refl _ _⟩⟩
 case round =>
  obtain ⟨i,rfl,hi,HF,HB⟩ := hrel
  have HBW : Aside0 (Below w.heap.size w wr) := ⟨b_s HB1.out HB.out⟩
  have HBR := aS ((HB.out.block _ (blk_lt HBK.out)).trans HBK.out)
  have hb2 : wr.cell? ⟨w.heap.size,2,none⟩ = some (.slice A l.length c) := blk_cell HBR.out 2
  by_cases h : i < l.length
  ·have c0 : decide ((i : Int) < l.length) = true := d_T (by omega)
   obtain ⟨ad,rfl,hx0,hx1,hx2,hx3,hx4⟩ := at87 HR.out HBW.out i h
   have p : (0 ≤ (i : Int)) = True := eq_true (by omega)
   have q : ((i : Int) < l.length) = True := eq_true (by omega)
   have hf := HF.out
   rw [drop87 h,placeS] at hf
   clear HF
   generalize rd_T87 l (i : Int) = x at *
   by_cases e : x.f0 = no
   ·have e0 : (x.f0 == no) = true := beq_iff_eq.mpr e
    rw [if_pos e] at hf
    have HF := aS hf
    clear hf e
    go_wp2
    go_ret
    exact ⟨by rw [← HF.out];rfl,HBW.out⟩
   ·have e0 : (x.f0 == no) = false := beq_eq_false_iff_ne.mpr e
    rw [if_neg e] at hf
    have HF := aS hf
    clear hf e
    go_wp2
    obtain ⟨g,rfl⟩ : ∃ g,gk = g + 1 := ⟨gk - 1,by omega⟩
    go_roundg g
    case rel => exact ⟨i + 1,rfl,by omega,HF,HB⟩
    case measure => omega
  ·have c0 : decide ((i : Int) < l.length) = false := d_F (by omega)
   have hf := HF.out
   rw [List.drop_of_length_le (by omega),placeS] at hf
   clear HF
   have HF := aS hf
   clear hf
   go_wp2
   go_ret
   exact ⟨by rw [← HF.out];rfl,HBW.out⟩
end Go.Proofs.YtgbmnpgaddhfpaaGreatDoor.T
namespace Go.Proofs.YtgbmnpgaddhfpaaGreatDoor.T
open Go.RowKit Go.Proofs.YtgbmnpgaddhfpaaGreatDoorW.PrintWords Go.Proofs.YtgbmnpgaddhfpaaGreatDoorW.PrintLast Go.Proofs.YtgbmnpgaddhfpaaGreatDoorW.PrintMore
attribute [local go_sem] max2_int min2_int max_two min_two
open Tryz
set_option maxRecDepth 100000
theorem far {W : World} {g : Nat} {o : Obj} (p : Addr) (u : Value) (h : W.heap[g]? = some o) (hk : g ≠ p.block) : (W.setCell p u).heap[g]? = some o := (Below.heap_setCell W p u g hk).trans h
structure Box2 (w W : World) (a b : Obj) : Prop where
 h1 : W.heap[w.heap.size]? = some a
 h2 : W.heap[w.heap.size + 1]? = some b
 below : Below w.heap.size w W
theorem Box2.init {w w1 : World} {a b : Obj} (hb : Below ((w.alloc a).alloc b).heap.size ((w.alloc a).alloc b) w1) : Box2 w w1 a b := ⟨blk_nb1 hb,blk_nb2 hb,below_a2 hb⟩
theorem Box2.start (w : World) (a b : Obj) : Box2 w ((w.alloc a).alloc b) a b := ⟨blk_alloc (blk_new w a) b,alloc2 w a b,b_l (bO _) _⟩
theorem Box2.step {w W W' : World} {a b : Obj} (D : Box2 w W a b) (hb : Below W.heap.size W W') : Box2 w W' a b := ⟨k_B D.h1 hb,k_B D.h2 hb,b_s D.below hb⟩
structure Box3 (w W : World) (a b c : Obj) : Prop where
 h1 : W.heap[w.heap.size]? = some a
 h2 : W.heap[w.heap.size + 1]? = some b
 h3 : W.heap[w.heap.size + 1 + 1]? = some c
 below : Below w.heap.size w W
theorem Box3.start (w : World) (a b c : Obj) : Box3 w (((w.alloc a).alloc b).alloc c) a b c := ⟨blk_alloc (blk_alloc (blk_new w a) b) c,blk_alloc (alloc2 w a b) c,alloc3 w a b c,b_l (bA _ _) _⟩
theorem Box3.step {w W W' : World} {a b c : Obj} (D : Box3 w W a b c) (hb : Below W.heap.size W W') : Box3 w W' a b c := ⟨k_B D.h1 hb,k_B D.h2 hb,k_B D.h3 hb,b_s D.below hb⟩
theorem Box3.init {w w1 : World} {a b c : Obj} (hb : Below (((w.alloc a).alloc b).alloc c).heap.size (((w.alloc a).alloc b).alloc c) w1) : Box3 w w1 a b c := (Box3.start w a b c).step hb
structure Box4 (w W : World) (a b c d : Obj) : Prop where
 h1 : W.heap[w.heap.size]? = some a
 h2 : W.heap[w.heap.size + 1]? = some b
 h3 : W.heap[w.heap.size + 1 + 1]? = some c
 h4 : W.heap[w.heap.size + 1 + 1 + 1]? = some d
 below : Below w.heap.size w W
theorem Box4.start (w : World) (a b c d : Obj) : Box4 w ((((w.alloc a).alloc b).alloc c).alloc d) a b c d :=
 ⟨blk_alloc (blk_alloc (blk_alloc (blk_new w a) b) c) d,blk_alloc (blk_alloc (alloc2 w a b) c) d,blk_alloc (alloc3 w a b c) d,blk_top (by rw [size_alloc,size_alloc,size_alloc]),b_l (b_l (bA _ _) _) _⟩
theorem Box4.step {w W W' : World} {a b c d : Obj} (D : Box4 w W a b c d) (hb : Below W.heap.size W W') : Box4 w W' a b c d := ⟨k_B D.h1 hb,k_B D.h2 hb,k_B D.h3 hb,k_B D.h4 hb,b_s D.below hb⟩
theorem Box4.init {w w1 : World} {a b c d : Obj} (hb : Below ((((w.alloc a).alloc b).alloc c).alloc d).heap.size ((((w.alloc a).alloc b).alloc c).alloc d) w1) : Box4 w w1 a b c d := (Box4.start w a b c d).step hb
theorem cells_5 {w : World} {g : Nat} {t : TypeId} {v0 v1 v2 v3 v4 : Value} (h : w.heap[g]? = some (.cells #[v0,v1,v2,v3,v4] t (0,0))) : w.cell? ⟨g,0,none⟩ = some v0 ∧ w.cell? ⟨g,1,none⟩ = some v1 ∧ w.cell? ⟨g,2,none⟩ = some v2 ∧ w.cell? ⟨g,3,none⟩ = some v3 ∧ w.cell? ⟨g,4,none⟩ = some v4 := ⟨blk_cell h 0,blk_cell h 1,blk_cell h 2,blk_cell h 3,blk_cell h 4⟩
theorem cells_3 {w : World} {g : Nat} {t : TypeId} {v0 v1 v2 : Value} (h : w.heap[g]? = some (.cells #[v0,v1,v2] t (0,0))) : w.cell? ⟨g,0,none⟩ = some v0 ∧ w.cell? ⟨g,1,none⟩ = some v1 ∧ w.cell? ⟨g,2,none⟩ = some v2 := ⟨blk_cell h 0,blk_cell h 1,blk_cell h 2⟩
theorem cells_2 {w : World} {g : Nat} {t : TypeId} {v0 v1 : Value} (h : w.heap[g]? = some (.cells #[v0,v1] t (0,0))) : w.cell? ⟨g,0,none⟩ = some v0 ∧ w.cell? ⟨g,1,none⟩ = some v1 := ⟨blk_cell h 0,blk_cell h 1⟩
theorem cells_2a {w : World} {g : Nat} {t : TypeId} {v0 v1 : Value} (h : w.heap[g]? = some (.cells #[v0,v1] t (0,0))) (o : Obj) : (w.alloc o).cell? ⟨g,0,none⟩ = some v0 ∧ (w.alloc o).cell? ⟨g,1,none⟩ = some v1 := cells_2 (blk_alloc h o)
theorem cells_3a {w : World} {g : Nat} {t : TypeId} {v0 v1 v2 : Value} (h : w.heap[g]? = some (.cells #[v0,v1,v2] t (0,0))) (o : Obj) : (w.alloc o).cell? ⟨g,0,none⟩ = some v0 ∧ (w.alloc o).cell? ⟨g,1,none⟩ = some v1 ∧ (w.alloc o).cell? ⟨g,2,none⟩ = some v2 := cells_3 (blk_alloc h o)
theorem cells_5a {w : World} {g : Nat} {t : TypeId} {v0 v1 v2 v3 v4 : Value} (h : w.heap[g]? = some (.cells #[v0,v1,v2,v3,v4] t (0,0))) (o : Obj) : (w.alloc o).cell? ⟨g,0,none⟩ = some v0 ∧ (w.alloc o).cell? ⟨g,1,none⟩ = some v1 ∧ (w.alloc o).cell? ⟨g,2,none⟩ = some v2 ∧ (w.alloc o).cell? ⟨g,3,none⟩ = some v3 ∧ (w.alloc o).cell? ⟨g,4,none⟩ = some v4 := cells_5 (blk_alloc h o)
theorem froz_2 {w : World} {g : Nat} {t : TypeId} {cs : Array Value} (h : w.heap[g]? = some (.cells cs t (0,0))) : w.frozen? ⟨g,0,none⟩ = false ∧ w.frozen? ⟨g,1,none⟩ = false := ⟨blk_frozen h 0,blk_frozen h 1⟩
theorem froz_2a {w : World} {g : Nat} {t : TypeId} {cs : Array Value} (h : w.heap[g]? = some (.cells cs t (0,0))) (o : Obj) : (w.alloc o).frozen? ⟨g,0,none⟩ = false ∧ (w.alloc o).frozen? ⟨g,1,none⟩ = false := froz_2 (blk_alloc h o)
def isMti (m : ByteArray) : Bool := decide (m.size = 4) && allD m
theorem isMti_iff {m : ByteArray} : isMti m = true ↔ m.size = 4 ∧ allD m = true := by unfold isMti;simp
theorem mti_Right.at (m : ByteArray) (w : World) : Calls prog 51 #[.string m] w fun e w' => e = .returned (.bool (isMti m)) ∧ Below w.heap.size w w' := by
 unfold isMti
 by_cases h : m.size = 4
 ·have c0 : ((m.size : Int) == 4) = true := beq_iff_eq.mpr (by omega)
  rw [d_T h,Bool.true_and]
  go_enter func51,ntmps51
  go_wp2_with (first | (go_at_call 109;refine (digits_All.at _ _).mono ?_;rintro e w1 ⟨rfl,hb⟩))
  go_ret
  exact ⟨rfl,hb⟩
 ·have c0 : ((m.size : Int) == 4) = false := beq_eq_false_iff_ne.mpr (by omega)
  rw [d_F h,Bool.false_and]
  go_enter func51,ntmps51
  go_wp2
  go_ret
  exact ⟨rfl,Below.refl _ _⟩
def verV (m : ByteArray) : Int × Bool := if isMti m then (bt m 0 - 48,true) else (0,false)
theorem mti_Version.at (m : ByteArray) (w : World) : Calls prog 80 #[.string m] w fun e w' => e = .returned (.tuple #[.int .i64 (verV m).1,.bool (verV m).2]) ∧ Below w.heap.size w w' := by
 unfold verV
 cases h : isMti m with
 | true =>
  have h4 := isMti_iff.1 h
  have hd := allD_at h4.2 (i := 0) (by omega)
  have hb0 := bt_get (s := m) (i := 0) (by omega)
  have p : (0 < m.size) = True := eq_true (by omega)
  have q : ((0 : Int) < m.size) = True := eq_true (by omega)
  rw [if_pos rfl]
  go_enter func80,ntmps80
  go_wp2_with (first | (go_at_call 51;refine (mti_Right.at _ _).mono ?_;rintro e w1 ⟨rfl,hb⟩;rw [h]))
  go_ret2
  exact ⟨by rw [show bt m 0 = _ from hb0];rfl,by assumption⟩
 | false =>
  rw [if_neg (by decide)]
  go_enter func80,ntmps80
  go_wp2_with (first | (go_at_call 51;refine (mti_Right.at _ _).mono ?_;rintro e w1 ⟨rfl,hb⟩;rw [h]))
  go_ret2
  exact ⟨rfl,hb⟩
def reqM (m : ByteArray) : Bool := isMti m && (decide (bt m 2 = 48) || decide (bt m 2 = 50))
theorem mti_Request.at (m : ByteArray) (w : World) : Calls prog 13 #[.string m] w fun e w' => e = .returned (.bool (reqM m)) ∧ Below w.heap.size w w' := by
 unfold reqM
 cases h : isMti m with
 | true =>
  have h4 := isMti_iff.1 h
  have hb := bt_get (s := m) (i := 2) (by omega)
  have q : ((2 : Int) < m.size) = True := eq_true (by omega)
  have q2 : (2 < m.size) = True := eq_true (by omega)
  rw [show bt m 2 = _ from hb]
  go_enter func13,ntmps13
  go_wp2_with (first | (go_at_call 51;refine (mti_Right.at _ _).mono ?_;rintro e w1 ⟨rfl,hb⟩;rw [h]))
  all_goals go_ret
  all_goals refine ⟨ret_bool ?_,by assumption⟩
  all_goals (rw [Bool.eq_iff_iff];rename_i c;simp [c])
 | false =>
  go_enter func13,ntmps13
  go_wp2_with (first | (go_at_call 51;refine (mti_Right.at _ _).mono ?_;rintro e w1 ⟨rfl,hb⟩;rw [h]))
  go_ret
  exact ⟨rfl,by assumption⟩
end Go.Proofs.YtgbmnpgaddhfpaaGreatDoor.T
namespace Go.Proofs.YtgbmnpgaddhfpaaGreatDoor.T
open Go.RowKit Go.Proofs.YtgbmnpgaddhfpaaGreatDoorW.PrintWords Go.Proofs.YtgbmnpgaddhfpaaGreatDoorW.PrintLast Go.Proofs.YtgbmnpgaddhfpaaGreatDoorW.PrintMore
attribute [local go_sem] max2_int min2_int max_two min_two
open Go.Proofs.YtgbmnpgaddhfpaaGreatDoor.G
open Tryz
set_option maxRecDepth 100000
def known (st : Int) : Bool := decide (st = 1 ∨ st = 2)
theorem cell_known.at (st : Int) (w : World) : Calls prog 86 #[.int .i64 st] w fun e w' => e = .returned (.bool (known st)) ∧ w' = w := by
 go_enter func86,ntmps86
 go_wp2
 all_goals go_ret
 all_goals refine ⟨ret_bool ?_,rfl⟩
 all_goals (unfold known;rw [Bool.eq_iff_iff];simp_all)
theorem bitmap_known.at (st : Int) (w : World) : Calls prog 81 #[.int .i64 st] w fun e w' => e = .returned (.bool (known st)) ∧ w' = w := by
 go_enter func81,ntmps81
 go_wp2
 all_goals go_ret
 all_goals refine ⟨ret_bool ?_,rfl⟩
 all_goals (unfold known;rw [Bool.eq_iff_iff];simp_all)
def bcdSize (n : Int) : Int := if n < 1 then 0 else n / 2 + n % 2
theorem bcd_Size.at (n : Int) (w : World) (hn : n ≤ 4611686018427387904) : Calls prog 78 #[.int .i64 n] w fun e w' => e = .returned (.int .i64 (bcdSize n)) ∧ w' = w := by
 by_cases h : n < 1
 ·have d : decide (n < 1) = true := d_T h
  have HT : Aside0 (bcdSize n = 0) := ⟨if_pos h⟩
  go_enter func78,ntmps78
  go_wp2
  go_ret
  exact ⟨by rw [HT.out];rfl,rfl⟩
 ·have d : decide (n < 1) = false := d_F h
  have HT : Aside0 (bcdSize n = n / 2 + n % 2) := ⟨if_neg h⟩
  have t1 : Int.tdiv n 2 = n / 2 := Int.tdiv_eq_ediv_of_nonneg (by omega)
  have t2 : Int.tmod n 2 = n % 2 := Int.tmod_eq_emod_of_nonneg (by omega)
  go_enter func78,ntmps78
  go_wp2
  go_ret
  exact ⟨by rw [HT.out];rfl,rfl⟩
def howV (st c : Int) : Int := if st = 2 ∧ c = 1 then 1 else if st = 1 ∧ (c = 5 ∨ c = 6) then 2 else 0
theorem cell_how.at (st c : Int) (w : World) : Calls prog 88 #[.int .i64 st,.int .i64 c] w fun e w' => e = .returned (.int .i64 (howV st c)) ∧ w' = w := by
 go_enter func88,ntmps88
 go_wp2
 all_goals go_ret
 all_goals refine ⟨ret_int ?_,rfl⟩
 all_goals try simp only [beq_eq_false_iff_ne,beq_iff_eq,ne_eq] at *
 all_goals (unfold howV;(repeat' split) <;> first | rfl | omega)
theorem prefix_known.at (st f : Int) (w : World) : Calls prog 136 #[.int .i64 st,.int .i64 f] w fun e w' => e = .returned (.bool (known st && decide (0 < width f))) ∧ w' = w := by
 go_enter func136,ntmps136
 go_wp2_with (first | (go_at_call 137;refine (prefix_width.at _ _).mono ?_;rintro e w1 ⟨rfl,rfl⟩))
 all_goals go_ret
 all_goals refine ⟨ret_bool ?_,rfl⟩
 all_goals (unfold known;rw [Bool.eq_iff_iff];simp_all)
theorem fields_Halves.at (p : Int × Int) (w : World) : Calls prog 104 #[vSet p] w fun e w' => e = .returned (.tuple #[.int .u64 p.1,.int .u64 p.2]) ∧ Below w.heap.size w w' := by
 have hu82 := underlying82
 unfold vSet
 go_enter func104,ntmps104
 go_wp2
 go_quiet (fail)
 go_wp2
 go_ret2
 exact ⟨rfl,below_drewN' (bO _)⟩
end Go.Proofs.YtgbmnpgaddhfpaaGreatDoor.T
namespace Go.Proofs.YtgbmnpgaddhfpaaGreatDoor.T
open Go.RowKit Go.Proofs.YtgbmnpgaddhfpaaGreatDoorW.PrintWords Go.Proofs.YtgbmnpgaddhfpaaGreatDoorW.PrintLast Go.Proofs.YtgbmnpgaddhfpaaGreatDoorW.PrintMore
attribute [local go_sem] max2_int min2_int max_two min_two
open Tryz
set_option maxRecDepth 100000
def hexa_Digit.j0 : Nat → Int → Bool → Option (Int × Bool)
 | 0,_,_ => none
 | k + 1,x0,x4 => if x4 = true then (some ((x0 - 48) % 256,true)) else (if x0 ≥ 65 then (if x0 ≤ 70 then (some (((x0 - 65) % 256) + 10,true)) else (some (0,false))) else (some (0,false)))
def hexa_Digit.f (k : Nat) (a0 : Int) : Option (Int × Bool) := if a0 ≥ 48 then (hexa_Digit.j0 k a0 (decide (a0 ≤ 57))) else (hexa_Digit.j0 k a0 false)
set_option maxHeartbeats 8000000 in
theorem hexa_Digit.calls (k : Nat) (a0 : Int) (r1 : Int) (r2 : Bool) (w : World) (h : hexa_Digit.f k a0 = some (r1,r2)) :
  Calls prog 139 #[.int .u8 a0] w fun e w' => e = .returned (.tuple #[.int .i64 r1,.bool r2]) ∧ Drawn0 w w' := by
 have H : (if a0 ≥ 48 then (hexa_Digit.j0 k a0 (decide (a0 ≤ 57))) else (hexa_Digit.j0 k a0 false)) = some (r1,r2) := h
 clear h
 have HC2 := aS H
 clear H
 go_enter func139,ntmps139
 go_upto_region 1 with (fail)
 go_cut [4] (fun v4 wc => ∃ (kq : Nat) (x4_1 : Bool),v4 = .bool x4_1 ∧ Aside0 (hexa_Digit.j0 kq a0 x4_1 = some (r1,r2)) ∧ Aside0 (kq ≤ k) ∧ Drawn0 w wc)
 case first =>
  have H := HC2.out
  clear HC2
  by_cases c3 : a0 ≥ 48
  ·rw [if_pos c3] at H
   have c3b0 : decide (48 ≤ a0) = true := d_T c3
   clear c3
   (first | rw [c3b0] | (simp only [i64_w,i32_w];rw [c3b0]) | skip)
   have H' := aS H
   clear H
   go_wp2
   go_meet
   case rel => exact ⟨_,(decide (a0 ≤ 57)),(by first | rfl | (simp;done) | (simp [*];done)),H',⟨by first | omega | exact Nat.le_refl _⟩,by repeat (first | exact Drawn0.refl _ | apply Drawn0.step)⟩
  ·rw [if_neg c3] at H
   have c3b0 : decide (48 ≤ a0) = false := d_F c3
   clear c3
   (first | rw [c3b0] | (simp only [i64_w,i32_w];rw [c3b0]) | skip)
   have H' := aS H
   clear H
   go_wp2
   go_meet
   case rel => exact ⟨_,(false),(by first | rfl | (simp;done) | (simp [*];done)),H',⟨by first | omega | exact Nat.le_refl _⟩,by repeat (first | exact Drawn0.refl _ | apply Drawn0.step)⟩
 case rest =>
  clear HC2
  try clear c1
  try clear p2
  try clear c3
  try clear c3b0
  obtain ⟨kq,x4_1,rfl,HA,HJ1,⟨mc1,rfl⟩⟩ := hcut
  cases kq with
  | zero => exact absurd HA.out (by simp [hexa_Digit.j0])
  | succ kj1 =>
   have H := HA.out
   clear HA
   simp only [hexa_Digit.j0] at H
   by_cases c4 : x4_1 = true
   ·subst c4
    have H1 : (some ((a0 - 48) % 256,true)) = some (r1,r2) := by rw [if_pos rfl] at H;exact H
    clear H
    have H := H1
    clear H1
    simp only [Option.some.injEq,Prod.mk.injEq] at H
    obtain ⟨rfl,rfl⟩ := H
    go_wp2
    go_ret2
    exact ⟨by first | rfl | (simp;done) | (simp [*];done) | (simp [wrap64];done),by repeat (first | exact Drawn0.refl _ | apply Drawn0.step)⟩
   ·replace c4 := Bool.eq_false_iff.mpr c4
    subst c4
    have H1 : (if a0 ≥ 65 then (if a0 ≤ 70 then (some (((a0 - 65) % 256) + 10,true)) else (some (0,false))) else (some (0,false))) = some (r1,r2) := by rw [if_neg (show ¬ (false = true) by decide)] at H;exact H
    clear H
    have H := H1
    clear H1
    by_cases c5 : a0 ≥ 65
    ·rw [if_pos c5] at H
     have c5b0 : decide (65 ≤ a0) = true := d_T c5
     clear c5
     by_cases c6 : a0 ≤ 70
     ·rw [if_pos c6] at H
      have c6b0 : decide (a0 ≤ 70) = true := d_T c6
      clear c6
      simp only [Option.some.injEq,Prod.mk.injEq] at H
      obtain ⟨rfl,rfl⟩ := H
      go_wp2
      go_ret2
      exact ⟨by first | rfl | (simp;done) | (simp [*];done) | (simp [wrap64];done),by repeat (first | exact Drawn0.refl _ | apply Drawn0.step)⟩
     ·rw [if_neg c6] at H
      have c6b0 : decide (a0 ≤ 70) = false := d_F c6
      clear c6
      simp only [Option.some.injEq,Prod.mk.injEq] at H
      obtain ⟨rfl,rfl⟩ := H
      go_wp2
      go_ret2
      exact ⟨by first | rfl | (simp;done) | (simp [*];done) | (simp [wrap64];done),by repeat (first | exact Drawn0.refl _ | apply Drawn0.step)⟩
    ·rw [if_neg c5] at H
     have c5b0 : decide (65 ≤ a0) = false := d_F c5
     clear c5
     simp only [Option.some.injEq,Prod.mk.injEq] at H
     obtain ⟨rfl,rfl⟩ := H
     go_wp2
     go_ret2
     exact ⟨by first | rfl | (simp;done) | (simp [*];done) | (simp [wrap64];done),by repeat (first | exact Drawn0.refl _ | apply Drawn0.step)⟩
def hexa_Get.l0 : Nat → ByteArray → List Int → Int → Int → Option (ByteArray × Int × Bool)
 | 0,_,_,_,_ => none
 | k + 1,x0,x5,x6,x7 => if x7 < (x0.size : Int) then (if 0 ≤ x7 then ((hexa_Digit.f k (bt x0 x7)).bind fun bt140 => (if bt140.2 = true then (if (Int.tmod x7 2) = 0 then (hexa_Get.l0 k x0 x5 bt140.1 (wrap64 (x7 + 1))) else (if x5.length < 140737488355328 then (hexa_Get.l0 k x0 (x5 ++ [(Go.bits .or .i64 (wrap64 (x6 * 16)) bt140.1) % 256]) x6 (wrap64 (x7 + 1))) else (none))) else (some ((⟨#[]⟩ : ByteArray),x7,false)))) else (none)) else (if ((x0.size : Int) % 2) = 0 then (some (strOfNums x5,0,true)) else (some ((⟨#[]⟩ : ByteArray),(x0.size : Int),false)))
def hexa_Get.f (k : Nat) (a0 : ByteArray) : Option (ByteArray × Int × Bool) := hexa_Get.l0 k a0 (([] : List Int)) 0 0
set_option maxHeartbeats 8000000 in
theorem hexa_Get.calls (k : Nat) (a0 : ByteArray) (r1 : ByteArray) (r2 : Int) (r3 : Bool) (w : World) (hsz : a0.size ≤ 1000000) (h : hexa_Get.f k a0 = some (r1,r2,r3)) :
  Calls prog 89 #[.string a0] w fun e w' => e = .returned (.tuple #[.string r1,.int .i64 r2,.bool r3]) ∧ Below w.heap.size w w' := by
 have HSZ := aS hsz
 clear hsz
 have HB := aS (Below.refl w.heap.size w)
 have H : (hexa_Get.l0 k a0 (([] : List Int)) 0 0) = some (r1,r2,r3) := h
 clear h
 obtain ⟨y137,hy137⟩ : ∃ y_ : List Int,y_ = (([] : List Int)) := ⟨_,rfl⟩
 replace H : (hexa_Get.l0 k a0 y137 0 0) = some (r1,r2,r3) := by first | (rw [hy137];with_reducible exact H) | (have H2_ := (Option.bind_some _ _).symm.trans H;rw [hy137];with_reducible exact H2_) | (have H2_ := (Option.bind_some _ _).symm.trans H;with_reducible exact H2_) | with_reducible exact H | (rw [hy137];exact H) | exact H
 have Ny137 := aS hy137
 clear hy137
 have H' := aS H
 clear H
 go_enter func89,ntmps89
 go_wp2_with (first | ((with_reducible refine gate_dst (N := 13) rfl ?_);refine Go.Proofs.YtgbmnpgaddhfpaaGreatDoor.G.R_make0 (Kd.int .u8) _ 5 ?hg (N := 13) ?hd 101 _ _ rfl (a0.size / 2) rfl ?hy underlying101 _ 1 info5 rfl (by decide) (by decide) (0 : Int) (ok := fun _ => True) (okp := fun _ => True) ?hzero (fun _ hk => hk) trivial ?hlen (Below.refl _ _) (Nat.le_refl _) ?_;(case hd => rfl);(case hg => rfl);(case hzero => exact rfl);(case hy => go_simp;have := HSZ.out;unfold wrap64;omega);(case hlen => have := HSZ.out;omega);intro v138 w2 ho3 hb hg_ hnew_;clear hg_ hnew_;(first | rw [← Ny137.out] at ho3 | (simp only [Int.reduceToNat] at ho3;rw [← Ny137.out] at ho3));have n0_ := aS (Kd.R_lower ho3 (below_size (by repeat (first | (with_reducible first | exact HB.out | apply b_l | apply pw_below_drewN | apply below_drew1) | exact HB.out))));have n1_ := aS (b_s (by repeat (first | (with_reducible first | exact HB.out | apply b_l | apply pw_below_drewN | apply below_drew1) | exact HB.out)) hb);clear HB;have HO139 := n0_;have HB := n1_;clear n0_ n1_;clear hb ho3))
 go_loopg [5,6,7] k (fun kq v5 v6 v7 w' => ∃ (x5_1 : List Int) (x6_1 : Int) (x7_1 : Int),v6 = .int .i64 x6_1 ∧ v7 = .int .i64 x7_1 ∧ Aside0 (hexa_Get.l0 kq a0 x5_1 x6_1 x7_1 = some (r1,r2,r3)) ∧ Aside0 (kq ≤ k) ∧ Aside0 (Kd.R (Kd.int .u8) 5 w' w.heap.size (fun _ => True) v5 x5_1) ∧ Aside0 (Below w.heap.size w w'))
 case atStart => exact ⟨(y137),(0),(0),(by first | rfl | (simp;done) | (simp [*];done)),(by first | rfl | (simp;done) | (simp [*];done)),H',⟨Nat.le_refl _⟩,⟨by (with_reducible repeat (first | apply Kd.R_alloc | apply Kd.R_drewN | apply Kd.R_drew));exact HO139.out⟩,⟨by repeat (first | (with_reducible first | exact HB.out | apply b_l | apply pw_below_drewN | apply below_drew1) | exact HB.out)⟩⟩
 case round =>
  clear H'
  try clear p2
  obtain ⟨x5_1,x6_1,x7_1,rfl,rfl,HA,HK1,HO_5,HB⟩ := hrel
  cases gk with
  | zero => exact absurd HA.out (by simp [hexa_Get.l0])
  | succ k1 =>
   have H := HA.out
   clear HA
   simp only [hexa_Get.l0] at H
   by_cases c4 : x7_1 < (a0.size : Int)
   ·rw [if_pos c4] at H
    have c4b0 : decide (x7_1 < (a0.size : Int)) = true := d_T c4
    clear c4
    by_cases c5 : 0 ≤ x7_1
    ·rw [if_pos c5] at H
     have c5b0 : decide (0 ≤ x7_1) = true := d_T c5
     clear c5
     replace H := Option.bind_eq_some_iff.mp H
     obtain ⟨⟨t140,t141⟩,A70,H⟩ := H
     replace H : (if t141 = true then (if (Int.tmod x7_1 2) = 0 then (hexa_Get.l0 k1 a0 x5_1 t140 (wrap64 (x7_1 + 1))) else (if x5_1.length < 140737488355328 then (hexa_Get.l0 k1 a0 (x5_1 ++ [(Go.bits .or .i64 (wrap64 (x6_1 * 16)) t140) % 256]) x6_1 (wrap64 (x7_1 + 1))) else (none))) else (some ((⟨#[]⟩ : ByteArray),x7_1,false))) = some (r1,r2,r3) := H
     have A7 := aS A70
     clear A70
     by_cases c8 : t141 = true
     ·subst c8
      have H1 : (if (Int.tmod x7_1 2) = 0 then (hexa_Get.l0 k1 a0 x5_1 t140 (wrap64 (x7_1 + 1))) else (if x5_1.length < 140737488355328 then (hexa_Get.l0 k1 a0 (x5_1 ++ [(Go.bits .or .i64 (wrap64 (x6_1 * 16)) t140) % 256]) x6_1 (wrap64 (x7_1 + 1))) else (none))) = some (r1,r2,r3) := by rw [if_pos rfl] at H;exact H
      clear H
      have H := H1
      clear H1
      by_cases c9 : (Int.tmod x7_1 2) = 0
      ·rw [if_pos c9] at H
       have c9b0 : ((Int.tmod x7_1 2) == 0) = true := beq_iff_eq.mpr c9
       have c9b1 : ((Int.tmod x7_1 2) != 0) = false := bne_eq_false_iff_eq.mpr c9
       clear c9
       have H' := aS H
       clear H
       have p6 : 0 ≤ (x7_1 : Int) := of_decide_eq_true (by first | (with_reducible assumption) | assumption)
       have q6 : x7_1 < (a0.size : Int) := of_decide_eq_true (by first | (with_reducible assumption) | assumption)
       have hx6 := bt_at a0 x7_1
       replace p6 := eq_true p6
       replace q6 := eq_true q6
       go_wp2_with (first | ((with_reducible refine gate_callee (f := 139) rfl ?_);refine goesL_ (some 24) rfl rfl func139 (by kernel_rfl) rfl #[.int .u8 (bt a0 x7_1)] rfl (by (try simp only [List.map_toArray,List.map_cons,List.map_nil]);first | done | rfl | (simp only [List.length_drop,List.length_take];rfl)) ?_;(with_reducible refine (hexa_Digit.calls k1 (bt a0 x7_1) t140 true _ A7.out).mono ?_);rintro e w' ⟨rfl,⟨nd,rfl⟩⟩;refine ⟨_,rfl,?_⟩))
       go_roundg k1
       case measure => have := HK1.out;omega
       case rel => exact ⟨(x5_1),(t140),(wrap64 (x7_1 + 1)),(by first | rfl | (simp;done) | (simp [*];done)),(by first | rfl | (simp;done) | (simp [*];done)),H',⟨by have := HK1.out;omega⟩,⟨by (with_reducible repeat (first | apply Kd.R_alloc | apply Kd.R_drewN | apply Kd.R_drew));exact HO_5.out⟩,⟨by repeat (first | (with_reducible first | exact HB.out | apply b_l | apply pw_below_drewN | apply below_drew1) | exact HB.out)⟩⟩
      ·rw [if_neg c9] at H
       have c9b0 : ((Int.tmod x7_1 2) == 0) = false := beq_eq_false_iff_ne.mpr c9
       have c9b1 : ((Int.tmod x7_1 2) != 0) = true := bne_iff_ne.mpr c9
       by_cases c10 : x5_1.length < 140737488355328
       ·rw [if_pos c10] at H
        have LMc10 := aS c10
        clear c10
        obtain ⟨y142,hy142⟩ : ∃ y_ : List Int,y_ = (x5_1 ++ [(Go.bits .or .i64 (wrap64 (x6_1 * 16)) t140) % 256]) := ⟨_,rfl⟩
        replace H : (hexa_Get.l0 k1 a0 y142 x6_1 (wrap64 (x7_1 + 1))) = some (r1,r2,r3) := by first | (rw [hy142];with_reducible exact H) | (have H2_ := (Option.bind_some _ _).symm.trans H;rw [hy142];with_reducible exact H2_) | (have H2_ := (Option.bind_some _ _).symm.trans H;with_reducible exact H2_) | with_reducible exact H | (rw [hy142];exact H) | exact H
        have Ny142 := aS hy142
        clear hy142
        have H' := aS H
        clear H
        have p6 : 0 ≤ (x7_1 : Int) := of_decide_eq_true (by first | (with_reducible assumption) | assumption)
        have q6 : x7_1 < (a0.size : Int) := of_decide_eq_true (by first | (with_reducible assumption) | assumption)
        have hx6 := bt_at a0 x7_1
        replace p6 := eq_true p6
        replace q6 := eq_true q6
        go_wp2_with (first | ((with_reducible refine gate_callee (f := 139) rfl ?_);refine goesL_ (some 24) rfl rfl func139 (by kernel_rfl) rfl #[.int .u8 (bt a0 x7_1)] rfl (by (try simp only [List.map_toArray,List.map_cons,List.map_nil]);first | done | rfl | (simp only [List.length_drop,List.length_take];rfl)) ?_;(with_reducible refine (hexa_Digit.calls k1 (bt a0 x7_1) t140 true _ A7.out).mono ?_);rintro e w' ⟨rfl,⟨nd,rfl⟩⟩;refine ⟨_,rfl,?_⟩) | ((with_reducible refine gate_builtin (b := .append) (xs := #[.tmp 27,.tmp 33]) rfl ?_);at_builtin;refine Kd.R_append (Kd.int .u8) (w0 := w) w.heap.size rfl (.tmp 27) (.tmp 33) 101 5 (.int .u8 0) 1 rfl underlying101 info5 rfl (by decide) (by omega) u5 x5_1 ((Go.bits .or .i64 (wrap64 (x6_1 * 16)) t140) % 256) [.int .u8 ((Go.bits .or .i64 (wrap64 (x6_1 * 16)) t140) % 256)] (fun _ => True) (fun _ => False) rfl rfl ?aP (fun _ hk => hk.elim) ?aF ?aO ?aB ?aS ?aL ?_;(case aP => exact rfl);(case aB => exact (by repeat (first | (with_reducible first | exact HB.out | apply b_l | apply pw_below_drewN | apply below_drew1) | exact HB.out)));(case aF => exact (fun _ _ => trivial));(case aO => exact (by (with_reducible repeat (first | apply Kd.R_alloc | apply Kd.R_drewN | apply Kd.R_drew));exact HO_5.out));(case aS => exact (below_size (by repeat (first | (with_reducible first | exact HB.out | apply b_l | apply pw_below_drewN | apply below_drew1) | exact HB.out))));(case aL => have := LMc10.out;omega);intro v143 w11 ho hb hg hat;rw [← Ny142.out] at ho;have n0_ := aS (hb);have n1_ := aS (ho);clear HB;clear HO_5;have HB := n0_;have HO144 := n1_;clear n0_ n1_;clear ho hb hg hat))
        go_roundg k1
        case measure => have := HK1.out;omega
        case rel => exact ⟨(y142),(x6_1),(wrap64 (x7_1 + 1)),(by first | rfl | (simp;done) | (simp [*];done)),(by first | rfl | (simp;done) | (simp [*];done)),H',⟨by have := HK1.out;omega⟩,⟨by (with_reducible repeat (first | apply Kd.R_alloc | apply Kd.R_drewN | apply Kd.R_drew));exact HO144.out⟩,⟨by repeat (first | (with_reducible first | exact HB.out | apply b_l | apply pw_below_drewN | apply below_drew1) | exact HB.out)⟩⟩
       ·rw [if_neg c10] at H
        exact absurd H (by simp)
     ·replace c8 := Bool.eq_false_iff.mpr c8
      subst c8
      have H1 : (some ((⟨#[]⟩ : ByteArray),x7_1,false)) = some (r1,r2,r3) := by rw [if_neg (show ¬ (false = true) by decide)] at H;exact H
      clear H
      have H := H1
      clear H1
      simp only [Option.some.injEq,Prod.mk.injEq] at H
      obtain ⟨rfl,rfl,rfl⟩ := H
      have p6 : 0 ≤ (x7_1 : Int) := of_decide_eq_true (by first | (with_reducible assumption) | assumption)
      have q6 : x7_1 < (a0.size : Int) := of_decide_eq_true (by first | (with_reducible assumption) | assumption)
      have hx6 := bt_at a0 x7_1
      replace p6 := eq_true p6
      replace q6 := eq_true q6
      go_wp2_with (first | ((with_reducible refine gate_callee (f := 139) rfl ?_);refine goesL_ (some 24) rfl rfl func139 (by kernel_rfl) rfl #[.int .u8 (bt a0 x7_1)] rfl (by (try simp only [List.map_toArray,List.map_cons,List.map_nil]);first | done | rfl | (simp only [List.length_drop,List.length_take];rfl)) ?_;(with_reducible refine (hexa_Digit.calls k1 (bt a0 x7_1) t140 false _ A7.out).mono ?_);rintro e w' ⟨rfl,⟨nd,rfl⟩⟩;refine ⟨_,rfl,?_⟩))
      go_ret3
      exact ⟨by first | rfl | (simp [errW_none,errW_some] <;> rfl) | (simp [*,errW_none,errW_some] <;> rfl),by repeat (first | (with_reducible first | exact HB.out | apply b_l | apply pw_below_drewN | apply below_drew1) | exact HB.out)⟩
    ·rw [if_neg c5] at H
     exact absurd H (by simp)
   ·rw [if_neg c4] at H
    have c4b0 : decide (x7_1 < (a0.size : Int)) = false := d_F c4
    clear c4
    by_cases c12 : ((a0.size : Int) % 2) = 0
    ·rw [if_pos c12] at H
     have c12b0 : (((a0.size : Int) % 2) == 0) = true := beq_iff_eq.mpr c12
     have c12b1 : (((a0.size : Int) % 2) != 0) = false := bne_eq_false_iff_eq.mpr c12
     clear c12
     simp only [Option.some.injEq,Prod.mk.injEq] at H
     obtain ⟨rfl,rfl,rfl⟩ := H
     have hcv13 := own_string (P := prog) underlying101 underlying5 underlying9 (Kd.own_of_R HO_5.out)
     go_wp2
     go_ret3
     exact ⟨by first | rfl | (simp [errW_none,errW_some] <;> rfl) | (simp [*,errW_none,errW_some] <;> rfl),by repeat (first | (with_reducible first | exact HB.out | apply b_l | apply pw_below_drewN | apply below_drew1) | exact HB.out)⟩
    ·rw [if_neg c12] at H
     have c12b0 : (((a0.size : Int) % 2) == 0) = false := beq_eq_false_iff_ne.mpr c12
     have c12b1 : (((a0.size : Int) % 2) != 0) = true := bne_iff_ne.mpr c12
     simp only [Option.some.injEq,Prod.mk.injEq] at H
     obtain ⟨rfl,rfl,rfl⟩ := H
     go_wp2
     go_ret3
     exact ⟨by first | rfl | (simp [errW_none,errW_some] <;> rfl) | (simp [*,errW_none,errW_some] <;> rfl),by repeat (first | (with_reducible first | exact HB.out | apply b_l | apply pw_below_drewN | apply below_drew1) | exact HB.out)⟩
def hexa_Put.l0 : Nat → ByteArray → List Int → Int → Option (ByteArray)
 | 0,_,_,_ => none
 | k + 1,x0,x3,x4 => if x4 < (x0.size : Int) then (if 0 ≤ x4 then (if 0 ≤ ((bt x0 x4) / 16) then (if ((bt x0 x4) / 16) < 16 then (if 0 ≤ (Go.bits .and .u8 (bt x0 x4) 15) then (if (Go.bits .and .u8 (bt x0 x4) 15) < 16 then ((some (([bt (⟨#[48,49,50,51,52,53,54,55,56,57,65,66,67,68,69,70]⟩ : ByteArray) ((bt x0 x4) / 16),bt (⟨#[48,49,50,51,52,53,54,55,56,57,65,66,67,68,69,70]⟩ : ByteArray) (Go.bits .and .u8 (bt x0 x4) 15)] : List Int) : List Int)).bind fun y348 => (if x3.length + y348.length < 140737488355328 then (hexa_Put.l0 k x0 (x3 ++ y348) (wrap64 (x4 + 1))) else (none))) else (none)) else (none)) else (none)) else (none)) else (none)) else (some (strOfNums x3))
def hexa_Put.f (k : Nat) (a0 : ByteArray) : Option (ByteArray) := hexa_Put.l0 k a0 (([] : List Int)) 0
def hexa_Put.T5 : Bool × List (List Nat × List Nat) := (true,[([],[]),([],[]),([],[]),([1,2],[1,2]),([3],[3]),([4],[4]),([],[]),([],[]),([6,7],[6,7]),([8],[8]),([9],[9]),([5,10],[5,10]),([0,11],[0,11]),([12,12,0,1,2,3,4,5,6,7,8,9,10,11,12],[0,12])])
def hexa_Put.B5 : List Nat := [0,0,0,6,14,30,0,0,192,448,960,2046,4095,8191]
theorem hexa_Put.tab5 : rtab .any (opsOf Tryz.f106 5) = hexa_Put.T5 := by kernel_rfl
theorem hexa_Put.bits5 : waitsOk hexa_Put.T5.2 hexa_Put.B5 = true := by kernel_rfl
set_option maxHeartbeats 8000000 in
theorem hexa_Put.calls (k : Nat) (a0 : ByteArray) (r : ByteArray) (w : World) (hsz : a0.size ≤ 1000000) (h : hexa_Put.f k a0 = some r) :
  Calls prog 106 #[.string a0] w fun e w' => e = .returned (.string r) ∧ Below w.heap.size w w' := by
 have HSZ := aS hsz
 clear hsz
 have HB := aS (Below.refl w.heap.size w)
 have H : (hexa_Put.l0 k a0 (([] : List Int)) 0) = some r := h
 clear h
 obtain ⟨y345,hy345⟩ : ∃ y_ : List Int,y_ = (([] : List Int)) := ⟨_,rfl⟩
 replace H : (hexa_Put.l0 k a0 y345 0) = some r := by first | (rw [hy345];with_reducible exact H) | (have H2_ := (Option.bind_some _ _).symm.trans H;rw [hy345];with_reducible exact H2_) | (have H2_ := (Option.bind_some _ _).symm.trans H;with_reducible exact H2_) | with_reducible exact H | (rw [hy345];exact H) | exact H
 have Ny345 := aS hy345
 clear hy345
 have H' := aS H
 clear H
 go_enter func106,ntmps106
 go_wp2_with (first | ((with_reducible refine gate_dst (N := 8) rfl ?_);refine Go.Proofs.YtgbmnpgaddhfpaaGreatDoor.G.R_make0 (Kd.int .u8) _ 5 ?hg (N := 8) ?hd 101 _ _ rfl (2 * a0.size) rfl ?hy underlying101 _ 1 info5 rfl (by decide) (by decide) (0 : Int) (ok := fun _ => True) (okp := fun _ => True) ?hzero (fun _ hk => hk) trivial ?hlen (Below.refl _ _) (Nat.le_refl _) ?_;(case hd => rfl);(case hg => rfl);(case hzero => exact rfl);(case hy => go_simp;have := HSZ.out;unfold wrap64;omega);(case hlen => have := HSZ.out;omega);intro v346 w2 ho3 hb hg_ hnew_;clear hg_ hnew_;(first | rw [← Ny345.out] at ho3 | (simp only [Int.reduceToNat] at ho3;rw [← Ny345.out] at ho3));have n0_ := aS (Kd.R_lower ho3 (below_size (by repeat (first | (with_reducible first | exact HB.out | apply b_l | apply pw_below_drewN | apply below_drew1) | exact HB.out))));have n1_ := aS (b_s (by repeat (first | (with_reducible first | exact HB.out | apply b_l | apply pw_below_drewN | apply below_drew1) | exact HB.out)) hb);clear HB;have HO347 := n0_;have HB := n1_;clear n0_ n1_;clear hb ho3))
 go_loopg [3,4] k (fun kq v3 v4 w' => ∃ (x3_1 : List Int) (x4_1 : Int),v4 = .int .i64 x4_1 ∧ Aside0 (hexa_Put.l0 kq a0 x3_1 x4_1 = some r) ∧ Aside0 (kq ≤ k) ∧ Aside0 (Kd.R (Kd.int .u8) 5 w' w.heap.size (fun _ => True) v3 x3_1) ∧ Aside0 (Below w.heap.size w w'))
 case atStart => exact ⟨(y345),(0),(by first | rfl | (simp;done) | (simp [*];done)),H',⟨Nat.le_refl _⟩,⟨by (with_reducible repeat (first | apply Kd.R_alloc | apply Kd.R_drewN | apply Kd.R_drew));exact HO347.out⟩,⟨by repeat (first | (with_reducible first | exact HB.out | apply b_l | apply pw_below_drewN | apply below_drew1) | exact HB.out)⟩⟩
 case round =>
  clear H'
  try clear c1
  try clear p2
  obtain ⟨x3_1,x4_1,rfl,HA,HK1,HO_3,HB⟩ := hrel
  cases gk with
  | zero => exact absurd HA.out (by simp [hexa_Put.l0])
  | succ k1 =>
   have H := HA.out
   clear HA
   simp only [hexa_Put.l0] at H
   by_cases c4 : x4_1 < (a0.size : Int)
   ·rw [if_pos c4] at H
    have c4b0 : decide (x4_1 < (a0.size : Int)) = true := d_T c4
    clear c4
    by_cases c5 : 0 ≤ x4_1
    ·rw [if_pos c5] at H
     have c5b0 : decide (0 ≤ x4_1) = true := d_T c5
     clear c5
     obtain ⟨ji7,hji7⟩ : ∃ j_ : Int,((bt a0 x4_1) / 16) = j_ := ⟨_,rfl⟩
     replace H : (if 0 ≤ (ji7) then (if (ji7) < 16 then (if 0 ≤ (Go.bits .and .u8 (bt a0 x4_1) 15) then (if (Go.bits .and .u8 (bt a0 x4_1) 15) < 16 then ((some (([bt (⟨#[48,49,50,51,52,53,54,55,56,57,65,66,67,68,69,70]⟩ : ByteArray) (ji7),bt (⟨#[48,49,50,51,52,53,54,55,56,57,65,66,67,68,69,70]⟩ : ByteArray) (Go.bits .and .u8 (bt a0 x4_1) 15)] : List Int) : List Int)).bind fun y348 => (if x3_1.length + y348.length < 140737488355328 then (hexa_Put.l0 k1 a0 (x3_1 ++ y348) (wrap64 (x4_1 + 1))) else (none))) else (none)) else (none)) else (none)) else (none)) = some r := by first | (rw [hji7] at H;exact H) | (simp only [hji7] at H ⊢;exact H)
     by_cases c8 : 0 ≤ (ji7)
     ·rw [if_pos c8] at H
      have c8b0 : decide (0 ≤ (ji7)) = true := d_T c8
      clear c8
      by_cases c9 : (ji7) < 16
      ·rw [if_pos c9] at H
       have c9b0 : decide ((ji7) < 16) = true := d_T c9
       clear c9
       by_cases c12 : 0 ≤ (Go.bits .and .u8 (bt a0 x4_1) 15)
       ·rw [if_pos c12] at H
        have c12b0 : decide (0 ≤ (Go.bits .and .u8 (bt a0 x4_1) 15)) = true := d_T c12
        clear c12
        by_cases c13 : (Go.bits .and .u8 (bt a0 x4_1) 15) < 16
        ·rw [if_pos c13] at H
         have c13b0 : decide ((Go.bits .and .u8 (bt a0 x4_1) 15) < 16) = true := d_T c13
         clear c13
         obtain ⟨y348,hy348⟩ : ∃ y_ : List Int,y_ = (([bt (⟨#[48,49,50,51,52,53,54,55,56,57,65,66,67,68,69,70]⟩ : ByteArray) (ji7),bt (⟨#[48,49,50,51,52,53,54,55,56,57,65,66,67,68,69,70]⟩ : ByteArray) (Go.bits .and .u8 (bt a0 x4_1) 15)] : List Int)) := ⟨_,rfl⟩
         replace H : (if x3_1.length + y348.length < 140737488355328 then (hexa_Put.l0 k1 a0 (x3_1 ++ y348) (wrap64 (x4_1 + 1))) else (none)) = some r := by first | (rw [hy348];with_reducible exact H) | (have H2_ := (Option.bind_some _ _).symm.trans H;rw [hy348];with_reducible exact H2_) | (have H2_ := (Option.bind_some _ _).symm.trans H;with_reducible exact H2_) | with_reducible exact H | (rw [hy348];exact H) | exact H
         have Ny348 := aS hy348
         clear hy348
         by_cases c15 : x3_1.length + y348.length < 140737488355328
         ·rw [if_pos c15] at H
          have LMc15 := aS c15
          clear c15
          obtain ⟨y351,hy351⟩ : ∃ y_ : List Int,y_ = (x3_1 ++ y348) := ⟨_,rfl⟩
          replace H : (hexa_Put.l0 k1 a0 y351 (wrap64 (x4_1 + 1))) = some r := by first | (rw [hy351];with_reducible exact H) | (have H2_ := (Option.bind_some _ _).symm.trans H;rw [hy351];with_reducible exact H2_) | (have H2_ := (Option.bind_some _ _).symm.trans H;with_reducible exact H2_) | with_reducible exact H | (rw [hy351];exact H) | exact H
          have Ny351 := aS hy351
          clear hy351
          have H' := aS H
          clear H
          try go_wp2
          have n0_ := aS (Kd.R_drew HO_3.out)
          have n1_ := aS (below_drew1 HB.out)
          clear HO_3
          clear HB
          have HO_3 := n0_
          have HB := n1_
          clear n0_ n1_
          have p6 : 0 ≤ (x4_1 : Int) := of_decide_eq_true (by first | (with_reducible assumption) | assumption)
          have q6 : x4_1 < (a0.size : Int) := of_decide_eq_true (by first | (with_reducible assumption) | assumption)
          have hx6 := bt_at a0 x4_1
          replace p6 := eq_true p6
          replace q6 := eq_true q6
          have p10 : 0 ≤ ((ji7) : Int) := of_decide_eq_true (by first | (with_reducible assumption) | assumption)
          have q10 : (ji7) < (16 : Int) := of_decide_eq_true (by first | (with_reducible assumption) | assumption)
          have hx10 := bt_at (⟨#[48,49,50,51,52,53,54,55,56,57,65,66,67,68,69,70]⟩ : ByteArray) (ji7)
          replace p10 := eq_true p10
          replace q10 := eq_true q10
          have p11 : 0 ≤ (x4_1 : Int) := of_decide_eq_true (by first | (with_reducible assumption) | assumption)
          have q11 : x4_1 < (a0.size : Int) := of_decide_eq_true (by first | (with_reducible assumption) | assumption)
          have hx11 := bt_at a0 x4_1
          replace p11 := eq_true p11
          replace q11 := eq_true q11
          have p14 : 0 ≤ ((Go.bits .and .u8 (bt a0 x4_1) 15) : Int) := of_decide_eq_true (by first | (with_reducible assumption) | assumption)
          have q14 : (Go.bits .and .u8 (bt a0 x4_1) 15) < (16 : Int) := of_decide_eq_true (by first | (with_reducible assumption) | assumption)
          have hx14 := bt_at (⟨#[48,49,50,51,52,53,54,55,56,57,65,66,67,68,69,70]⟩ : ByteArray) (Go.bits .and .u8 (bt a0 x4_1) 15)
          replace p14 := eq_true p14
          replace q14 := eq_true q14
          refine start_ (n := 14) (S := fun w' => True) (ds := []) #[false,false,false,false,false,false,false,false,false,false,false,false,false,false] (by kernel_rfl) rfl rfl trivial (fun hHeld => ?_);refine with_tabW hexa_Put.tab5 hexa_Put.bits5 (fun HT_ HW_ => ?_)
          generalize wr.drew = w16 at HO_3 HB hHeld ⊢
          refine pure_ (i := 0) (N := some 15) (v := ?_) (a' := ?_) #[true,false,false,false,false,false,false,false,false,false,false,false,false,false] rfl rfl (any_of HT_.out (by kernel_rfl)) (fun _ _ _ h => h) (Or.inl ⟨by rfl,?_⟩) ?_ ?_
          rotate_left
          ·intro w'
           go_simp
           with_reducible rfl
          rotate_left
          ·simp only [Act.put,sA,sB,sC,i64_w,i32_w]
           rfl
          refine pure_ (i := 1) (N := some 16) (v := ?_) (a' := ?_) #[true,true,false,false,false,false,false,false,false,false,false,false,false,false] rfl rfl (any_of HT_.out (by kernel_rfl)) (fun _ _ _ h => h) (Or.inl ⟨by rfl,?_⟩) ?_ ?_
          rotate_left
          ·intro w'
           go_simp
           with_reducible rfl
          rotate_left
          ·simp only [Act.put,sA,sB,sC,i64_w,i32_w]
           rfl
          refine pure_ (i := 2) (N := some 17) (v := ?_) (a' := ?_) #[true,true,true,false,false,false,false,false,false,false,false,false,false,false] rfl rfl (any_of HT_.out (by kernel_rfl)) (fun _ _ _ h => h) (Or.inl ⟨by rfl,?_⟩) ?_ ?_
          rotate_left
          ·intro w'
           go_simp
           with_reducible rfl
          rotate_left
          ·simp only [Act.put,sA,sB,sC,i64_w,i32_w]
           rfl
          refine pure_ (i := 6) (N := some 21) (v := ?_) (a' := ?_) #[true,true,true,false,false,false,true,false,false,false,false,false,false,false] rfl rfl (any_of HT_.out (by kernel_rfl)) (fun _ _ _ h => h) (Or.inl ⟨by rfl,?_⟩) ?_ ?_
          rotate_left
          ·intro w'
           go_simp
           with_reducible rfl
          rotate_left
          ·simp only [Act.put,sA,sB,sC,i64_w,i32_w]
           rfl
          refine pure_ (i := 7) (N := some 22) (v := ?_) (a' := ?_) #[true,true,true,false,false,false,true,true,false,false,false,false,false,false] rfl rfl (any_of HT_.out (by kernel_rfl)) (fun _ _ _ h => h) (Or.inl ⟨by rfl,?_⟩) ?_ ?_
          rotate_left
          ·intro w'
           go_simp
           with_reducible rfl
          rotate_left
          ·simp only [Act.put,sA,sB,sC,i64_w,i32_w]
           rfl
          refine take_ (i := 3) (N := some 18) (v := ?_) (a' := ?_) #[true,true,true,true,false,false,true,true,false,false,false,false,false,false] rfl rfl (take_ofW HT_.out HW_.out (by kernel_rfl)) (fun _ _ _ h => h) (Or.inl ⟨by rfl,?_⟩) hHeld ?_ ?_
          rotate_left
          ·intro w' _
           go_simp
           with_reducible rfl
          rotate_left
          ·simp only [Act.put,sA,sB,sC,i64_w,i32_w]
           rfl
          refine pure_ (i := 4) (N := some 19) (v := ?_) (a' := ?_) #[true,true,true,true,true,false,true,true,false,false,false,false,false,false] rfl rfl (any_of HT_.out (by kernel_rfl)) (fun _ _ _ h => h) (Or.inl ⟨by rfl,?_⟩) ?_ ?_
          rotate_left
          ·intro w'
           go_simp
           with_reducible rfl
          rotate_left
          ·simp only [Act.put,sA,sB,sC,i64_w,i32_w]
           rfl
          refine take_ (i := 5) (N := some 20) (v := ?_) (a' := ?_) #[true,true,true,true,true,true,true,true,false,false,false,false,false,false] rfl rfl (take_ofW HT_.out HW_.out (by kernel_rfl)) (fun _ _ _ h => h) (Or.inl ⟨by rfl,?_⟩) hHeld ?_ ?_
          rotate_left
          ·intro w' _
           go_simp
           with_reducible rfl
          rotate_left
          ·simp only [Act.put,sA,sB,sC,i64_w,i32_w]
           rfl
          refine take_ (i := 8) (N := some 23) (v := ?_) (a' := ?_) #[true,true,true,true,true,true,true,true,true,false,false,false,false,false] rfl rfl (take_ofW HT_.out HW_.out (by kernel_rfl)) (fun _ _ _ h => h) (Or.inl ⟨by rfl,?_⟩) hHeld ?_ ?_
          rotate_left
          ·intro w' _
           go_simp
           with_reducible rfl
          rotate_left
          ·simp only [Act.put,sA,sB,sC,i64_w,i32_w]
           rfl
          refine pure_ (i := 9) (N := some 24) (v := ?_) (a' := ?_) #[true,true,true,true,true,true,true,true,true,true,false,false,false,false] rfl rfl (any_of HT_.out (by kernel_rfl)) (fun _ _ _ h => h) (Or.inl ⟨by rfl,?_⟩) ?_ ?_
          rotate_left
          ·intro w'
           go_simp
           with_reducible rfl
          rotate_left
          ·simp only [Act.put,sA,sB,sC,i64_w,i32_w]
           rfl
          refine take_ (i := 10) (N := some 25) (v := ?_) (a' := ?_) #[true,true,true,true,true,true,true,true,true,true,true,false,false,false] rfl rfl (take_ofW HT_.out HW_.out (by kernel_rfl)) (fun _ _ _ h => h) (Or.inl ⟨by rfl,?_⟩) hHeld ?_ ?_
          rotate_left
          ·intro w' _
           go_simp
           with_reducible rfl
          rotate_left
          ·simp only [Act.put,sA,sB,sC,i64_w,i32_w]
           rfl
          refine one_ (i := 11) (N := some 26) #[true,true,true,true,true,true,true,true,true,true,true,true,false,false] rfl rfl (one_of HT_.out (by kernel_rfl)) (by decide) (fun K hK => ?_)
          refine Kd.R_lit_step (Kd.int .u8) _ 5 ?hg (N := 26) ?hd (xs := ([bt (⟨#[48,49,50,51,52,53,54,55,56,57,65,66,67,68,69,70]⟩ : ByteArray) (ji7),bt (⟨#[48,49,50,51,52,53,54,55,56,57,65,66,67,68,69,70]⟩ : ByteArray) (Go.bits .and .u8 (bt a0 x4_1) 15)] : List Int)) (inner := [.int .u8 (bt (⟨#[48,49,50,51,52,53,54,55,56,57,65,66,67,68,69,70]⟩ : ByteArray) (ji7)),.int .u8 (bt (⟨#[48,49,50,51,52,53,54,55,56,57,65,66,67,68,69,70]⟩ : ByteArray) (Go.bits .and .u8 (bt a0 x4_1) 15))]) (ok := fun _ => True) (okp := fun _ => True) ?hr ?hp (fun _ hk => hk) trivial (Below.refl _ _) (Nat.le_refl _) (by simp) ?_;(case hd => rfl);(case hg => rfl);(case hr => first | (go_simp;done) | (go_simp;rfl));(case hp => exact (Reps.one (show Kd.M (Kd.int .u8) _ _ _ (bt (⟨#[48,49,50,51,52,53,54,55,56,57,65,66,67,68,69,70]⟩ : ByteArray) (ji7)) [.int .u8 (bt (⟨#[48,49,50,51,52,53,54,55,56,57,65,66,67,68,69,70]⟩ : ByteArray) (ji7))] from rfl) (Reps.one (show Kd.M (Kd.int .u8) _ _ _ (bt (⟨#[48,49,50,51,52,53,54,55,56,57,65,66,67,68,69,70]⟩ : ByteArray) (Go.bits .and .u8 (bt a0 x4_1) 15)) [.int .u8 (bt (⟨#[48,49,50,51,52,53,54,55,56,57,65,66,67,68,69,70]⟩ : ByteArray) (Go.bits .and .u8 (bt a0 x4_1) 15))] from rfl) (Reps.none _ _))))
          intro v349 w17 ho18 hb hg_ hnew_
          clear hg_ hnew_
          (first | rw [← Ny348.out] at ho18 | (simp only [Int.reduceToNat] at ho18;rw [← Ny348.out] at ho18))
          have n0_ := aS (Kd.R_elder' (by (with_reducible repeat (first | apply Kd.R_alloc | apply Kd.R_drewN | apply Kd.R_drew));exact HO_3.out) (Kd.R_base ho18) hb)
          have n1_ := aS (Kd.R_lower (Kd.R_new' ho18 (Kd.R_lt (by (with_reducible repeat (first | apply Kd.R_alloc | apply Kd.R_drewN | apply Kd.R_drew));exact HO_3.out))) (below_size (by repeat (first | (with_reducible first | exact HB.out | apply b_l | apply pw_below_drewN | apply below_drew1) | exact HB.out))))
          have n2_ := aS (b_s (by repeat (first | (with_reducible first | exact HB.out | apply b_l | apply pw_below_drewN | apply below_drew1) | exact HB.out)) hb)
          clear HO_3
          clear HB
          have HO_3 := n0_
          have HO350 := n1_
          have HB := n2_
          clear n0_ n1_ n2_
          clear hb ho18
          obtain ⟨Ao20,co20,eo20⟩ := Kd.R_slice HO350.out
          (first | subst eo20 | (injection eo20 with f1_ f2_ f3_;have f4_ := f1_.symm;have f5_ := f3_.symm;clear f1_ f2_ f3_;subst f4_;subst f5_))
          refine hK.out _ _ trivial (fun hHeld => ?_)
          clear hK K
          refine norm_ (a' := ?_) ?_ ?_
          rotate_left
          ·show Act.put _ (some 26) _ = _
           simp only [Act.put,sA,sB,sC,i64_w,i32_w]
           rfl
          refine one_ (i := 12) (N := some 27) #[true,true,true,true,true,true,true,true,true,true,true,true,true,false] rfl rfl (one_of HT_.out (by kernel_rfl)) (by decide) (fun K hK => ?_)
          refine Kd.R_append_rows_step (Kd.int .u8) (w0 := w) w.heap.size (by rfl) (.tmp 15) (.tmp 26) 101 5 (.int .u8 0) 1 rfl underlying101 info5 rfl (by decide) (by omega) u3 x3_1 y348 _ _ _ (fun k_ => some k_ ≠ (.slice Ao20 y348.length co20 : Value).ownBlock) (fun _ => False) rfl rfl ?aO ?aR (fun _ _ h => h) (fun _ h => h.elim) ?aF ?aB ?aS ?aL ?_
          (case aR => repeat (first | exact (Kd.R_reads' HO350.out).2.2 | (with_reducible refine Kd.C_alloc ?_ _) | (with_reducible refine Kd.C_drewN ?_ _) | (with_reducible refine Kd.C_drew ?_)))
          (case aB => exact (by repeat (first | (with_reducible first | exact HB.out | apply b_l | apply pw_below_drewN | apply below_drew1) | exact HB.out)))
          (case aF => exact (fun k_ hk => Kd.fresh' (Kd.R_lt (by (with_reducible repeat (first | apply Kd.R_alloc | apply Kd.R_drewN | apply Kd.R_drew));exact HO350.out)) k_ hk))
          (case aO => exact (by (with_reducible repeat (first | apply Kd.R_alloc | apply Kd.R_drewN | apply Kd.R_drew));exact Kd.R_mono HO_3.out (fun _ hk => hk.2)))
          (case aS => exact (below_size (by repeat (first | (with_reducible first | exact HB.out | apply b_l | apply pw_below_drewN | apply below_drew1) | exact HB.out))))
          (case aL => have := LMc15.out;omega)
          intro v352 w19 ho hb hg hat
          rw [← Ny351.out] at ho
          have n0_ := aS (Kd.R_after (ok := (fun _ => True)) (by (with_reducible repeat (first | apply Kd.R_alloc | apply Kd.R_drewN | apply Kd.R_drew));exact HO350.out) hg hat)
          have n1_ := aS (hb)
          have n2_ := aS (ho)
          clear HO350
          clear HB
          clear HO_3
          have HO350 := n0_
          have HB := n1_
          have HO353 := n2_
          clear n0_ n1_ n2_
          clear ho hb hg hat
          refine hK.out _ _ trivial (fun hHeld => ?_)
          clear hK K
          refine norm_ (a' := ?_) ?_ ?_
          rotate_left
          ·show Act.put _ (some 27) _ = _
           simp only [Act.put,sA,sB,sC,i64_w,i32_w]
           rfl
          refine pure_ (i := 13) (N := some 3) (v := ?_) (a' := ?_) #[true,true,true,true,true,true,true,true,true,true,true,true,true,true] rfl rfl (any_of HT_.out (by kernel_rfl)) (fun _ _ _ h => h) (Or.inl ⟨by rfl,?_⟩) ?_ ?_
          rotate_left
          ·intro w'
           go_simp
           with_reducible rfl
          rotate_left
          ·simp only [Act.put,sA,sB,sC,i64_w,i32_w]
           rfl
          refine done_ (done_of HT_.out (by kernel_rfl)) ?_
          try go_wp2
          go_roundg k1
          case measure => have := HK1.out;omega
          case rel => exact ⟨(y351),(wrap64 (x4_1 + 1)),(by first | rfl | (simp;done) | (simp [*];done)),H',⟨by have := HK1.out;omega⟩,⟨by (with_reducible repeat (first | apply Kd.R_alloc | apply Kd.R_drewN | apply Kd.R_drew));exact Kd.R_mono HO353.out (fun _ hk => trivial)⟩,⟨by repeat (first | (with_reducible first | exact HB.out | apply b_l | apply pw_below_drewN | apply below_drew1) | exact HB.out)⟩⟩
         ·rw [if_neg c15] at H
          exact absurd H (by simp)
        ·rw [if_neg c13] at H
         exact absurd H (by simp)
       ·rw [if_neg c12] at H
        exact absurd H (by simp)
      ·rw [if_neg c9] at H
       exact absurd H (by simp)
     ·rw [if_neg c8] at H
      exact absurd H (by simp)
    ·rw [if_neg c5] at H
     exact absurd H (by simp)
   ·rw [if_neg c4] at H
    have c4b0 : decide (x4_1 < (a0.size : Int)) = false := d_F c4
    clear c4
    obtain rfl := Option.some.inj H
    have hcv21 := own_string (P := prog) underlying101 underlying5 underlying9 (Kd.own_of_R HO_3.out)
    go_wp2
    go_ret
    exact ⟨by first | rfl | (simp [errW_none,errW_some] <;> rfl) | (simp [*,errW_none,errW_some] <;> rfl),by repeat (first | (with_reducible first | exact HB.out | apply b_l | apply pw_below_drewN | apply below_drew1) | exact HB.out)⟩
mutual
def bcd_Put.j0 : Nat → ByteArray → Bool → Option (ByteArray × Bool)
 | 0,_,_ => none
 | k + 1,x0,x13 => if x13 = true then (some ((⟨#[]⟩ : ByteArray),false)) else (if ((x0.size : Int) % 2) = 0 then (bcd_Put.j1 k x0) else (if 1 + x0.size ≤ 9223372036854775807 then (bcd_Put.j1 k ((⟨#[48]⟩ : ByteArray) ++ x0)) else (none)))
def bcd_Put.j1 : Nat → ByteArray → Option (ByteArray × Bool)
 | 0,_ => none
 | k + 1,x0 => if x0.size ≤ 1000000 then bcd_Put.l0 k x0 (([] : List Int)) 0 else none
def bcd_Put.l0 : Nat → ByteArray → List Int → Int → Option (ByteArray × Bool)
 | 0,_,_,_ => none
 | k + 1,x0,x4,x5 => if x5 < (x0.size : Int) then (if 0 ≤ x5 then (if 0 ≤ (wrap64 (x5 + 1)) then (if (wrap64 (x5 + 1)) < (x0.size : Int) then (if x4.length < 140737488355328 then (bcd_Put.l0 k x0 (x4 ++ [Go.bits .or .u8 (((((bt x0 x5) - 48) % 256) * 16) % 256) (((bt x0 (wrap64 (x5 + 1))) - 48) % 256)]) (wrap64 (x5 + 2))) else (none)) else (none)) else (none)) else (none)) else (some (strOfNums x4,true))
end
def bcd_Put.f (k : Nat) (a0 : ByteArray) : Option (ByteArray × Bool) := if (a0.size : Int) > 999 then (bcd_Put.j0 k a0 true) else ((digits_All.f a0).bind fun t329 => (bcd_Put.j0 k a0 (!t329)))
def bcd_Put.T9 : Bool × List (List Nat × List Nat) := (true,[([],[]),([],[]),([],[]),([1,2],[1,2]),([3],[3]),([4],[4]),([],[]),([],[]),([7],[7]),([6,8],[6,8]),([9],[9]),([5,10],[5,10]),([11],[11]),([0,12],[0,12]),([13,13,0,1,2,3,4,5,6,7,8,9,10,11,12,13],[0,13])])
def bcd_Put.B9 : List Nat := [0,0,0,6,14,30,0,0,128,448,960,2046,4094,8191,16383]
theorem bcd_Put.tab9 : rtab .any (opsOf Tryz.f102 9) = bcd_Put.T9 := by kernel_rfl
theorem bcd_Put.bits9 : waitsOk bcd_Put.T9.2 bcd_Put.B9 = true := by kernel_rfl
set_option maxHeartbeats 8000000 in
theorem bcd_Put.calls (k : Nat) (a0 : ByteArray) (r1 : ByteArray) (r2 : Bool) (w : World) (h : bcd_Put.f k a0 = some (r1,r2)) :
  Calls prog 102 #[.string a0] w fun e w' => e = .returned (.tuple #[.string r1,.bool r2]) ∧ Below w.heap.size w w' := by
 have HB := aS (Below.refl w.heap.size w)
 have H : (if (a0.size : Int) > 999 then (bcd_Put.j0 k a0 true) else ((digits_All.f a0).bind fun t329 => (bcd_Put.j0 k a0 (!t329)))) = some (r1,r2) := h
 clear h
 have HC2 := aS H
 clear H
 go_enter func102,ntmps102
 go_upto_region 1 with (fail)
 go_cut [13] (fun v13 wc => ∃ (kq : Nat) (x13_1 : Bool),v13 = .bool x13_1 ∧ Aside0 (bcd_Put.j0 kq a0 x13_1 = some (r1,r2)) ∧ Aside0 (kq ≤ k) ∧ Aside0 (Below w.heap.size w wc))
 case first =>
  have H := HC2.out
  clear HC2
  by_cases c3 : (a0.size : Int) > 999
  ·rw [if_pos c3] at H
   have c3b0 : decide (999 < (a0.size : Int)) = true := d_T c3
   have c3b1 : decide (999 < a0.size) = true := d_T (by omega)
   clear c3
   (first | rw [c3b0] | (simp only [i64_w,i32_w];rw [c3b0]) | skip)
   have H' := aS H
   clear H
   go_wp2
   go_meet
   case rel => exact ⟨_,(true),(by first | rfl | (simp;done) | (simp [*];done)),H',⟨by first | omega | exact Nat.le_refl _⟩,⟨by repeat (first | (with_reducible first | exact HB.out | apply b_l | apply pw_below_drewN | apply below_drew1) | exact HB.out)⟩⟩
  ·rw [if_neg c3] at H
   have c3b0 : decide (999 < (a0.size : Int)) = false := d_F c3
   have c3b1 : decide (999 < a0.size) = false := d_F (by omega)
   clear c3
   (first | rw [c3b0] | (simp only [i64_w,i32_w];rw [c3b0]) | skip)
   replace H := Option.bind_eq_some_iff.mp H
   obtain ⟨t329,A40,H⟩ := H
   replace H : (bcd_Put.j0 k a0 (!t329)) = some (r1,r2) := H
   have A4 := aS A40
   clear A40
   have H' := aS H
   clear H
   go_wp2_with (first | (go_at_call 109;(with_reducible refine (digits_All.calls a0 t329 _ A4.out).mono ?_);rintro e w5 ⟨rfl,hb⟩;have n0_ := aS (b_s (by repeat (first | (with_reducible first | exact HB.out | apply b_l | apply pw_below_drewN | apply below_drew1) | exact HB.out)) hb);clear HB;have HB := n0_;clear n0_;(try clear hb);(try clear hb2);(try clear hk);(try clear hi)))
   go_meet
   case rel => exact ⟨_,(!t329),(by first | rfl | (simp;done) | (simp [*];done)),H',⟨by first | omega | exact Nat.le_refl _⟩,⟨by repeat (first | (with_reducible first | exact HB.out | apply b_l | apply pw_below_drewN | apply below_drew1) | exact HB.out)⟩⟩
 case rest =>
  clear HC2
  try clear c1
  try clear p2
  try clear c3
  try clear c3b0
  try clear c3b1
  obtain ⟨kq,x13_1,rfl,HA,HJ1,HB⟩ := hcut
  cases kq with
  | zero => exact absurd HA.out (by simp [bcd_Put.j0])
  | succ kj1 =>
   have H := HA.out
   clear HA
   simp only [bcd_Put.j0] at H
   by_cases c6 : x13_1 = true
   ·subst c6
    have H1 : (some ((⟨#[]⟩ : ByteArray),false)) = some (r1,r2) := by rw [if_pos rfl] at H;exact H
    clear H
    have H := H1
    clear H1
    simp only [Option.some.injEq,Prod.mk.injEq] at H
    obtain ⟨rfl,rfl⟩ := H
    go_wp2
    go_ret2
    exact ⟨by first | rfl | (simp [errW_none,errW_some] <;> rfl) | (simp [*,errW_none,errW_some] <;> rfl),by repeat (first | (with_reducible first | exact HB.out | apply b_l | apply pw_below_drewN | apply below_drew1) | exact HB.out)⟩
   ·replace c6 := Bool.eq_false_iff.mpr c6
    subst c6
    have H1 : (if ((a0.size : Int) % 2) = 0 then (bcd_Put.j1 kj1 a0) else (if 1 + a0.size ≤ 9223372036854775807 then (bcd_Put.j1 kj1 ((⟨#[48]⟩ : ByteArray) ++ a0)) else (none))) = some (r1,r2) := by rw [if_neg (show ¬ (false = true) by decide)] at H;exact H
    clear H
    have H := H1
    clear H1
    have HC7 := aS H
    clear H
    go_upto_if 17 with (fail)
    go_cut [0] (fun v0 wc => ∃ (kq : Nat) (x0_6 : ByteArray),v0 = .string x0_6 ∧ Aside0 (bcd_Put.j1 kq x0_6 = some (r1,r2)) ∧ Aside0 (kq ≤ kj1) ∧ Aside0 (Below w.heap.size w wc))
    case first =>
     have H := HC7.out
     clear HC7
     by_cases c8 : ((a0.size : Int) % 2) = 0
     ·rw [if_pos c8] at H
      have c8b0 : (((a0.size : Int) % 2) == 0) = true := beq_iff_eq.mpr c8
      have c8b1 : (((a0.size : Int) % 2) != 0) = false := bne_eq_false_iff_eq.mpr c8
      clear c8
      (first | rw [c8b0] | (simp only [i64_w,i32_w];rw [c8b0]) | skip)
      have H' := aS H
      clear H
      go_wp2
      go_meet
      case rel => exact ⟨_,(a0),(by first | rfl | (simp;done) | (simp [*];done)),H',⟨by have := HJ1.out;first | omega | exact Nat.le_refl _⟩,⟨by repeat (first | (with_reducible first | exact HB.out | apply b_l | apply pw_below_drewN | apply below_drew1) | exact HB.out)⟩⟩
     ·rw [if_neg c8] at H
      have c8b0 : (((a0.size : Int) % 2) == 0) = false := beq_eq_false_iff_ne.mpr c8
      have c8b1 : (((a0.size : Int) % 2) != 0) = true := bne_iff_ne.mpr c8
      (first | rw [c8b0] | (simp only [i64_w,i32_w];rw [c8b0]) | skip)
      by_cases c9 : 1 + a0.size ≤ 9223372036854775807
      ·rw [if_pos c9] at H
       have c9b0 := eq_true c9
       have c9b1 : decide (1 + a0.size ≤ 9223372036854775807) = true := d_T c9
       try have c9b2 : (9223372036854775807 < 1 + a0.size) = False := eq_false (Nat.not_lt.2 c9)
       have H' := aS H
       clear H
       go_wp2
       go_meet
       case rel => exact ⟨_,((⟨#[48]⟩ : ByteArray) ++ a0),(by first | rfl | (simp;done) | (simp [*];done)),H',⟨by have := HJ1.out;first | omega | exact Nat.le_refl _⟩,⟨by repeat (first | (with_reducible first | exact HB.out | apply b_l | apply pw_below_drewN | apply below_drew1) | exact HB.out)⟩⟩
      ·rw [if_neg c9] at H
       exact absurd H (by simp)
    case rest =>
     clear HC7
     try clear c1
     try clear p2
     try clear c3
     try clear c3b0
     try clear c3b1
     try clear c6
     try clear c8
     try clear c8b0
     try clear c8b1
     try clear c9
     try clear c9b0
     try clear c9b1
     try clear c9b2
     try clear p2
     obtain ⟨kq,x0_6,rfl,HA,HJ6,HB⟩ := hcut
     cases kq with
     | zero => exact absurd HA.out (by simp [bcd_Put.j1])
     | succ kj6 =>
      have H := HA.out
      clear HA
      simp only [bcd_Put.j1] at H
      have hsz : x0_6.size ≤ 1000000 := by
       by_cases c : x0_6.size ≤ 1000000
       ·exact c
       ·rw [if_neg c] at H
        exact absurd H (by simp)
      rw [if_pos hsz] at H
      have HSZ := aS hsz
      clear hsz
      obtain ⟨y330,hy330⟩ : ∃ y_ : List Int,y_ = (([] : List Int)) := ⟨_,rfl⟩
      replace H : (bcd_Put.l0 kj6 x0_6 y330 0) = some (r1,r2) := by first | (rw [hy330];with_reducible exact H) | (have H2_ := (Option.bind_some _ _).symm.trans H;rw [hy330];with_reducible exact H2_) | (have H2_ := (Option.bind_some _ _).symm.trans H;with_reducible exact H2_) | with_reducible exact H | (rw [hy330];exact H) | exact H
      have Ny330 := aS hy330
      clear hy330
      have H' := aS H
      clear H
      go_wp2_with (first | ((with_reducible refine gate_dst (N := 23) rfl ?_);refine Go.Proofs.YtgbmnpgaddhfpaaGreatDoor.G.R_make0 (Kd.int .u8) _ 5 ?hg (N := 23) ?hd 101 _ _ rfl (x0_6.size / 2) rfl ?hy underlying101 _ 1 info5 rfl (by decide) (by decide) (0 : Int) (ok := fun _ => True) (okp := fun _ => True) ?hzero (fun _ hk => hk) trivial ?hlen (Below.refl _ _) (Nat.le_refl _) ?_;(case hd => rfl);(case hg => rfl);(case hzero => exact rfl);(case hy => go_simp;have := HSZ.out;unfold wrap64;omega);(case hlen => have := HSZ.out;omega);intro v331 w10 ho11 hb hg_ hnew_;clear hg_ hnew_;(first | rw [← Ny330.out] at ho11 | (simp only [Int.reduceToNat] at ho11;rw [← Ny330.out] at ho11));have n0_ := aS (Kd.R_lower ho11 (below_size (by repeat (first | (with_reducible first | exact HB.out | apply b_l | apply pw_below_drewN | apply below_drew1) | exact HB.out))));have n1_ := aS (b_s (by repeat (first | (with_reducible first | exact HB.out | apply b_l | apply pw_below_drewN | apply below_drew1) | exact HB.out)) hb);clear HB;have HO332 := n0_;have HB := n1_;clear n0_ n1_;clear hb ho11))
      go_loopg [4,5] kj6 (fun kq v4 v5 w' => ∃ (x4_3 : List Int) (x5_3 : Int),v5 = .int .i64 x5_3 ∧ Aside0 (bcd_Put.l0 kq x0_6 x4_3 x5_3 = some (r1,r2)) ∧ Aside0 (kq ≤ kj6) ∧ Aside0 (Kd.R (Kd.int .u8) 5 w' w.heap.size (fun _ => True) v4 x4_3) ∧ Aside0 (Below w.heap.size w w'))
      case atStart => exact ⟨(y330),(0),(by first | rfl | (simp;done) | (simp [*];done)),H',⟨Nat.le_refl _⟩,⟨by (with_reducible repeat (first | apply Kd.R_alloc | apply Kd.R_drewN | apply Kd.R_drew));exact HO332.out⟩,⟨by repeat (first | (with_reducible first | exact HB.out | apply b_l | apply pw_below_drewN | apply below_drew1) | exact HB.out)⟩⟩
      case round =>
       clear H'
       try clear c1
       try clear p2
       try clear c3
       try clear c3b0
       try clear c3b1
       try clear c6
       try clear c8
       try clear c8b0
       try clear c8b1
       try clear c9
       try clear c9b0
       try clear c9b1
       try clear c9b2
       try clear c10
       try clear p2
       obtain ⟨x4_3,x5_3,rfl,HA,HK3,HO_4,HB⟩ := hrel
       cases gk with
       | zero => exact absurd HA.out (by simp [bcd_Put.l0])
       | succ k3 =>
        have H := HA.out
        clear HA
        simp only [bcd_Put.l0] at H
        by_cases c12 : x5_3 < (x0_6.size : Int)
        ·rw [if_pos c12] at H
         have c12b0 : decide (x5_3 < (x0_6.size : Int)) = true := d_T c12
         clear c12
         by_cases c13 : 0 ≤ x5_3
         ·rw [if_pos c13] at H
          have c13b0 : decide (0 ≤ x5_3) = true := d_T c13
          clear c13
          obtain ⟨ji15,hji15⟩ : ∃ j_ : Int,(wrap64 (x5_3 + 1)) = j_ := ⟨_,rfl⟩
          replace H : (if 0 ≤ (ji15) then (if (ji15) < (x0_6.size : Int) then (if x4_3.length < 140737488355328 then (bcd_Put.l0 k3 x0_6 (x4_3 ++ [Go.bits .or .u8 (((((bt x0_6 x5_3) - 48) % 256) * 16) % 256) (((bt x0_6 (ji15)) - 48) % 256)]) (wrap64 (x5_3 + 2))) else (none)) else (none)) else (none)) = some (r1,r2) := by first | (rw [hji15] at H;exact H) | (simp only [hji15] at H ⊢;exact H)
          have hji15w : (IntKind.i64.wrap (x5_3 + 1)) = ji15 := (i64_w _).trans hji15
          by_cases c16 : 0 ≤ (ji15)
          ·rw [if_pos c16] at H
           have c16b0 : decide (0 ≤ (ji15)) = true := d_T c16
           clear c16
           by_cases c17 : (ji15) < (x0_6.size : Int)
           ·rw [if_pos c17] at H
            have c17b0 : decide ((ji15) < (x0_6.size : Int)) = true := d_T c17
            clear c17
            by_cases c19 : x4_3.length < 140737488355328
            ·rw [if_pos c19] at H
             have LMc19 := aS c19
             clear c19
             obtain ⟨y333,hy333⟩ : ∃ y_ : List Int,y_ = (x4_3 ++ [Go.bits .or .u8 (((((bt x0_6 x5_3) - 48) % 256) * 16) % 256) (((bt x0_6 (ji15)) - 48) % 256)]) := ⟨_,rfl⟩
             replace H : (bcd_Put.l0 k3 x0_6 y333 (wrap64 (x5_3 + 2))) = some (r1,r2) := by first | (rw [hy333];with_reducible exact H) | (have H2_ := (Option.bind_some _ _).symm.trans H;rw [hy333];with_reducible exact H2_) | (have H2_ := (Option.bind_some _ _).symm.trans H;with_reducible exact H2_) | with_reducible exact H | (rw [hy333];exact H) | exact H
             have Ny333 := aS hy333
             clear hy333
             have H' := aS H
             clear H
             try go_wp2
             have n0_ := aS (Kd.R_drew HO_4.out)
             have n1_ := aS (below_drew1 HB.out)
             clear HO_4
             clear HB
             have HO_4 := n0_
             have HB := n1_
             clear n0_ n1_
             have p14 : 0 ≤ (x5_3 : Int) := of_decide_eq_true (by first | (with_reducible assumption) | assumption)
             have q14 : x5_3 < (x0_6.size : Int) := of_decide_eq_true (by first | (with_reducible assumption) | assumption)
             have hx14 := bt_at x0_6 x5_3
             replace p14 := eq_true p14
             replace q14 := eq_true q14
             have p18 : 0 ≤ ((ji15) : Int) := of_decide_eq_true (by first | (with_reducible assumption) | assumption)
             have q18 : (ji15) < (x0_6.size : Int) := of_decide_eq_true (by first | (with_reducible assumption) | assumption)
             have hx18 := bt_at x0_6 (ji15)
             replace p18 := eq_true p18
             replace q18 := eq_true q18
             refine start_ (n := 15) (S := fun w' => True) (ds := []) #[false,false,false,false,false,false,false,false,false,false,false,false,false,false,false] (by kernel_rfl) rfl rfl trivial (fun hHeld => ?_);refine with_tabW bcd_Put.tab9 bcd_Put.bits9 (fun HT_ HW_ => ?_)
             generalize wr.drew = w20 at HO_4 HB hHeld ⊢
             refine pure_ (i := 0) (N := some 30) (v := ?_) (a' := ?_) #[true,false,false,false,false,false,false,false,false,false,false,false,false,false,false] rfl rfl (any_of HT_.out (by kernel_rfl)) (fun _ _ _ h => h) (Or.inl ⟨by rfl,?_⟩) ?_ ?_
             rotate_left
             ·intro w'
              go_simp
              with_reducible rfl
             rotate_left
             ·simp only [Act.put,sA,sB,sC,i64_w,i32_w]
              rfl
             refine pure_ (i := 1) (N := some 31) (v := ?_) (a' := ?_) #[true,true,false,false,false,false,false,false,false,false,false,false,false,false,false] rfl rfl (any_of HT_.out (by kernel_rfl)) (fun _ _ _ h => h) (Or.inl ⟨by rfl,?_⟩) ?_ ?_
             rotate_left
             ·intro w'
              go_simp
              with_reducible rfl
             rotate_left
             ·simp only [Act.put,sA,sB,sC,i64_w,i32_w]
              rfl
             refine pure_ (i := 2) (N := some 32) (v := ?_) (a' := ?_) #[true,true,true,false,false,false,false,false,false,false,false,false,false,false,false] rfl rfl (any_of HT_.out (by kernel_rfl)) (fun _ _ _ h => h) (Or.inl ⟨by rfl,?_⟩) ?_ ?_
             rotate_left
             ·intro w'
              go_simp
              with_reducible rfl
             rotate_left
             ·simp only [Act.put,sA,sB,sC,i64_w,i32_w]
              rfl
             refine pure_ (i := 6) (N := some 36) (v := ?_) (a' := ?_) #[true,true,true,false,false,false,true,false,false,false,false,false,false,false,false] rfl rfl (any_of HT_.out (by kernel_rfl)) (fun _ _ _ h => h) (Or.inl ⟨by rfl,?_⟩) ?_ ?_
             rotate_left
             ·intro w'
              go_simp
              with_reducible rfl
             rotate_left
             ·simp only [Act.put,sA,sB,sC,i64_w,i32_w]
              rfl
             refine pure_ (i := 7) (N := some 37) (v := ?_) (a' := ?_) #[true,true,true,false,false,false,true,true,false,false,false,false,false,false,false] rfl rfl (any_of HT_.out (by kernel_rfl)) (fun _ _ _ h => h) (Or.inl ⟨by rfl,?_⟩) ?_ ?_
             rotate_left
             ·intro w'
              go_simp
              with_reducible rfl
             rotate_left
             ·simp only [Act.put,sA,sB,sC,i64_w,i32_w]
              rfl
             refine pure_ (i := 8) (N := some 38) (v := ?_) (a' := ?_) #[true,true,true,false,false,false,true,true,true,false,false,false,false,false,false] rfl rfl (any_of HT_.out (by kernel_rfl)) (fun _ _ _ h => h) (Or.inl ⟨by rfl,?_⟩) ?_ ?_
             rotate_left
             ·intro w'
              go_simp
              with_reducible rfl
             rotate_left
             ·simp only [Act.put,sA,sB,sC,i64_w,i32_w]
              rfl
             refine take_ (i := 3) (N := some 33) (v := ?_) (a' := ?_) #[true,true,true,true,false,false,true,true,true,false,false,false,false,false,false] rfl rfl (take_ofW HT_.out HW_.out (by kernel_rfl)) (fun _ _ _ h => h) (Or.inl ⟨by rfl,?_⟩) hHeld ?_ ?_
             rotate_left
             ·intro w' _
              go_simp
              with_reducible rfl
             rotate_left
             ·simp only [Act.put,sA,sB,sC,i64_w,i32_w]
              rfl
             refine pure_ (i := 4) (N := some 34) (v := ?_) (a' := ?_) #[true,true,true,true,true,false,true,true,true,false,false,false,false,false,false] rfl rfl (any_of HT_.out (by kernel_rfl)) (fun _ _ _ h => h) (Or.inl ⟨by rfl,?_⟩) ?_ ?_
             rotate_left
             ·intro w'
              go_simp
              with_reducible rfl
             rotate_left
             ·simp only [Act.put,sA,sB,sC,i64_w,i32_w]
              rfl
             refine pure_ (i := 5) (N := some 35) (v := ?_) (a' := ?_) #[true,true,true,true,true,true,true,true,true,false,false,false,false,false,false] rfl rfl (any_of HT_.out (by kernel_rfl)) (fun _ _ _ h => h) (Or.inl ⟨by rfl,?_⟩) ?_ ?_
             rotate_left
             ·intro w'
              go_simp
              with_reducible rfl
             rotate_left
             ·simp only [Act.put,sA,sB,sC,i64_w,i32_w]
              rfl
             refine take_ (i := 9) (N := some 39) (v := ?_) (a' := ?_) #[true,true,true,true,true,true,true,true,true,true,false,false,false,false,false] rfl rfl (take_ofW HT_.out HW_.out (by kernel_rfl)) (fun _ _ _ h => h) (Or.inl ⟨by rfl,?_⟩) hHeld ?_ ?_
             rotate_left
             ·intro w' _
              go_simp
              with_reducible rfl
             rotate_left
             ·simp only [Act.put,sA,sB,sC,i64_w,i32_w]
              rfl
             refine pure_ (i := 10) (N := some 40) (v := ?_) (a' := ?_) #[true,true,true,true,true,true,true,true,true,true,true,false,false,false,false] rfl rfl (any_of HT_.out (by kernel_rfl)) (fun _ _ _ h => h) (Or.inl ⟨by rfl,?_⟩) ?_ ?_
             rotate_left
             ·intro w'
              go_simp
              with_reducible rfl
             rotate_left
             ·simp only [Act.put,sA,sB,sC,i64_w,i32_w]
              rfl
             refine pure_ (i := 11) (N := some 41) (v := ?_) (a' := ?_) #[true,true,true,true,true,true,true,true,true,true,true,true,false,false,false] rfl rfl (any_of HT_.out (by kernel_rfl)) (fun _ _ _ h => h) (Or.inl ⟨by rfl,?_⟩) ?_ ?_
             rotate_left
             ·intro w'
              go_simp
              with_reducible rfl
             rotate_left
             ·simp only [Act.put,sA,sB,sC,i64_w,i32_w]
              rfl
             refine one_ (i := 12) (N := some 42) #[true,true,true,true,true,true,true,true,true,true,true,true,true,false,false] rfl rfl (one_of HT_.out (by kernel_rfl)) (by decide) (fun K hK => ?_)
             refine value_ (w1 := ?_) (v := ?_) (by rfl) rfl ?_ ?_
             rotate_left 2
             ·go_simp
              constructor
              ·rfl
              ·rfl
             refine hK.out _ _ trivial (fun hHeld => ?_)
             clear hK K
             refine norm_ (a' := ?_) ?_ ?_
             rotate_left
             ·show Act.put _ (some 42) _ = _
              simp only [Act.put,sA,sB,sC,i64_w,i32_w]
              rfl
             refine one_ (i := 13) (N := some 43) #[true,true,true,true,true,true,true,true,true,true,true,true,true,true,false] rfl rfl (one_of HT_.out (by kernel_rfl)) (by decide) (fun K hK => ?_)
             refine Kd.R_append_step (Kd.int .u8) (w0 := w) w.heap.size (by rfl) (.tmp 30) (.tmp 42) 101 5 (.int .u8 0) 1 rfl underlying101 info5 rfl (by decide) (by omega) u4 x4_3 (Go.bits .or .u8 (((((bt x0_6 x5_3) - 48) % 256) * 16) % 256) (((bt x0_6 (ji15)) - 48) % 256)) [.int .u8 (Go.bits .or .u8 (((((bt x0_6 x5_3) - 48) % 256) * 16) % 256) (((bt x0_6 (ji15)) - 48) % 256))] (fun _ => True) (fun _ => False) rfl rfl ?aP (fun _ hk => hk.elim) ?aF ?aO ?aB ?aS ?aL ?_
             (case aP => exact rfl)
             (case aB => exact (by repeat (first | (with_reducible first | exact HB.out | apply b_l | apply pw_below_drewN | apply below_drew1) | exact HB.out)))
             (case aF => exact (fun _ _ => trivial))
             (case aO => exact (by (with_reducible repeat (first | apply Kd.R_alloc | apply Kd.R_drewN | apply Kd.R_drew));exact HO_4.out))
             (case aS => exact (below_size (by repeat (first | (with_reducible first | exact HB.out | apply b_l | apply pw_below_drewN | apply below_drew1) | exact HB.out))))
             (case aL => have := LMc19.out;omega)
             intro v334 w21 ho hb hg hat
             rw [← Ny333.out] at ho
             have n0_ := aS (hb)
             have n1_ := aS (ho)
             clear HB
             clear HO_4
             have HB := n0_
             have HO335 := n1_
             clear n0_ n1_
             clear ho hb hg hat
             refine hK.out _ _ trivial (fun hHeld => ?_)
             clear hK K
             refine norm_ (a' := ?_) ?_ ?_
             rotate_left
             ·show Act.put _ (some 43) _ = _
              simp only [Act.put,sA,sB,sC,i64_w,i32_w]
              rfl
             refine pure_ (i := 14) (N := some 4) (v := ?_) (a' := ?_) #[true,true,true,true,true,true,true,true,true,true,true,true,true,true,true] rfl rfl (any_of HT_.out (by kernel_rfl)) (fun _ _ _ h => h) (Or.inl ⟨by rfl,?_⟩) ?_ ?_
             rotate_left
             ·intro w'
              go_simp
              with_reducible rfl
             rotate_left
             ·simp only [Act.put,sA,sB,sC,i64_w,i32_w]
              rfl
             refine done_ (done_of HT_.out (by kernel_rfl)) ?_
             try go_wp2
             go_roundg k3
             case measure => have := HJ1.out;have := HJ6.out;have := HK3.out;omega
             case rel => exact ⟨(y333),(wrap64 (x5_3 + 2)),(by first | rfl | (simp;done) | (simp [*];done)),H',⟨by have := HJ1.out;have := HJ6.out;have := HK3.out;omega⟩,⟨by (with_reducible repeat (first | apply Kd.R_alloc | apply Kd.R_drewN | apply Kd.R_drew));exact HO335.out⟩,⟨by repeat (first | (with_reducible first | exact HB.out | apply b_l | apply pw_below_drewN | apply below_drew1) | exact HB.out)⟩⟩
            ·rw [if_neg c19] at H
             exact absurd H (by simp)
           ·rw [if_neg c17] at H
            exact absurd H (by simp)
          ·rw [if_neg c16] at H
           exact absurd H (by simp)
         ·rw [if_neg c13] at H
          exact absurd H (by simp)
        ·rw [if_neg c12] at H
         have c12b0 : decide (x5_3 < (x0_6.size : Int)) = false := d_F c12
         clear c12
         simp only [Option.some.injEq,Prod.mk.injEq] at H
         obtain ⟨rfl,rfl⟩ := H
         have hcv22 := own_string (P := prog) underlying101 underlying5 underlying9 (Kd.own_of_R HO_4.out)
         go_wp2
         go_ret2
         exact ⟨by first | rfl | (simp [errW_none,errW_some] <;> rfl) | (simp [*,errW_none,errW_some] <;> rfl),by repeat (first | (with_reducible first | exact HB.out | apply b_l | apply pw_below_drewN | apply below_drew1) | exact HB.out)⟩
mutual
def digits_Put.j0 : Nat → Int → Int → Bool → Option (ByteArray × Bool)
 | 0,_,_,_ => none
 | k + 1,x0,x1,x17 => if x17 = true then (some ((⟨#[]⟩ : ByteArray),false)) else (if 0 ≤ x1 then (if (x1 : Int).toNat ≤ 281474976710656 then (digits_Put.l0 k x0 (List.replicate (x1 : Int).toNat 0) (wrap64 (x1 - 1))) else (none)) else (none))
def digits_Put.l0 : Nat → Int → List Int → Int → Option (ByteArray × Bool)
 | 0,_,_,_ => none
 | k + 1,x0,x6,x7 => if x7 ≥ 0 then (if 0 ≤ x7 then (if x7 < (x6.length : Int) then (digits_Put.l0 k (wrap64 (Int.tdiv x0 10)) (x6.set (x7 : Int).toNat ((wrap64 (48 + (Int.tmod x0 10))) % 256)) (wrap64 (x7 - 1))) else (none)) else (none)) else (if x0 > 0 then (some ((⟨#[]⟩ : ByteArray),false)) else (some (strOfNums x6,true)))
end
def digits_Put.f (k : Nat) (a0 : Int) (a1 : Int) : Option (ByteArray × Bool) := if a0 < 0 then (digits_Put.j0 k a0 a1 true) else (if a1 < 1 then (digits_Put.j0 k a0 a1 true) else (digits_Put.j0 k a0 a1 (decide (a1 > 18))))
set_option maxHeartbeats 8000000 in
theorem digits_Put.calls (k : Nat) (a0 : Int) (a1 : Int) (r1 : ByteArray) (r2 : Bool) (w : World) (h : digits_Put.f k a0 a1 = some (r1,r2)) :
  Calls prog 150 #[.int .i64 a0,.int .i64 a1] w fun e w' => e = .returned (.tuple #[.string r1,.bool r2]) ∧ Below w.heap.size w w' := by
 have HB := aS (Below.refl w.heap.size w)
 have H : (if a0 < 0 then (digits_Put.j0 k a0 a1 true) else (if a1 < 1 then (digits_Put.j0 k a0 a1 true) else (digits_Put.j0 k a0 a1 (decide (a1 > 18))))) = some (r1,r2) := h
 clear h
 have HC3 := aS H
 clear H
 go_enter func150,ntmps150
 go_upto_region 1 with (fail)
 go_cut [17] (fun v17 wc => ∃ (kq : Nat) (x17_2 : Bool),v17 = .bool x17_2 ∧ Aside0 (digits_Put.j0 kq a0 a1 x17_2 = some (r1,r2)) ∧ Aside0 (kq ≤ k) ∧ Aside0 (Below w.heap.size w wc))
 case first =>
  have H := HC3.out
  clear HC3
  by_cases c4 : a0 < 0
  ·rw [if_pos c4] at H
   have c4b0 : decide (a0 < 0) = true := d_T c4
   clear c4
   (first | rw [c4b0] | (simp only [i64_w,i32_w];rw [c4b0]) | skip)
   have H' := aS H
   clear H
   go_wp2
   go_meet
   case rel => exact ⟨_,(true),(by first | rfl | (simp;done) | (simp [*];done)),H',⟨by first | omega | exact Nat.le_refl _⟩,⟨by repeat (first | (with_reducible first | exact HB.out | apply b_l | apply pw_below_drewN | apply below_drew1) | exact HB.out)⟩⟩
  ·rw [if_neg c4] at H
   have c4b0 : decide (a0 < 0) = false := d_F c4
   clear c4
   (first | rw [c4b0] | (simp only [i64_w,i32_w];rw [c4b0]) | skip)
   by_cases c5 : a1 < 1
   ·rw [if_pos c5] at H
    have c5b0 : decide (a1 < 1) = true := d_T c5
    clear c5
    have H' := aS H
    clear H
    go_wp2
    go_meet
    case rel => exact ⟨_,(true),(by first | rfl | (simp;done) | (simp [*];done)),H',⟨by first | omega | exact Nat.le_refl _⟩,⟨by repeat (first | (with_reducible first | exact HB.out | apply b_l | apply pw_below_drewN | apply below_drew1) | exact HB.out)⟩⟩
   ·rw [if_neg c5] at H
    have c5b0 : decide (a1 < 1) = false := d_F c5
    clear c5
    have H' := aS H
    clear H
    go_wp2
    go_meet
    case rel => exact ⟨_,(decide (a1 > 18)),(by first | rfl | (simp;done) | (simp [*];done)),H',⟨by first | omega | exact Nat.le_refl _⟩,⟨by repeat (first | (with_reducible first | exact HB.out | apply b_l | apply pw_below_drewN | apply below_drew1) | exact HB.out)⟩⟩
 case rest =>
  clear HC3
  try clear c1
  try clear p2
  try clear c4
  try clear c4b0
  try clear c5
  try clear c5b0
  obtain ⟨kq,x17_2,rfl,HA,HJ2,HB⟩ := hcut
  cases kq with
  | zero => exact absurd HA.out (by simp [digits_Put.j0])
  | succ kj2 =>
   have H := HA.out
   clear HA
   simp only [digits_Put.j0] at H
   by_cases c6 : x17_2 = true
   ·subst c6
    have H1 : (some ((⟨#[]⟩ : ByteArray),false)) = some (r1,r2) := by rw [if_pos rfl] at H;exact H
    clear H
    have H := H1
    clear H1
    simp only [Option.some.injEq,Prod.mk.injEq] at H
    obtain ⟨rfl,rfl⟩ := H
    go_wp2
    go_ret2
    exact ⟨by first | rfl | (simp [errW_none,errW_some] <;> rfl) | (simp [*,errW_none,errW_some] <;> rfl),by repeat (first | (with_reducible first | exact HB.out | apply b_l | apply pw_below_drewN | apply below_drew1) | exact HB.out)⟩
   ·replace c6 := Bool.eq_false_iff.mpr c6
    subst c6
    have H1 : (if 0 ≤ a1 then (if (a1 : Int).toNat ≤ 281474976710656 then (digits_Put.l0 kj2 a0 (List.replicate (a1 : Int).toNat 0) (wrap64 (a1 - 1))) else (none)) else (none)) = some (r1,r2) := by rw [if_neg (show ¬ (false = true) by decide)] at H;exact H
    clear H
    have H := H1
    clear H1
    by_cases c7 : 0 ≤ a1
    ·rw [if_pos c7] at H
     have c7b0 := eq_true c7
     have c7b1 : decide (0 ≤ a1) = true := d_T c7
     clear c7
     by_cases c8 : (a1 : Int).toNat ≤ 281474976710656
     ·rw [if_pos c8] at H
      have c8b0 := eq_true c8
      have c8b1 : decide ((a1 : Int).toNat ≤ 281474976710656) = true := d_T c8
      clear c8
      obtain ⟨y366,hy366⟩ : ∃ y_ : List Int,y_ = (List.replicate (a1 : Int).toNat 0) := ⟨_,rfl⟩
      replace H : (digits_Put.l0 kj2 a0 y366 (wrap64 (a1 - 1))) = some (r1,r2) := by first | (rw [hy366];with_reducible exact H) | (have H2_ := (Option.bind_some _ _).symm.trans H;rw [hy366];with_reducible exact H2_) | (have H2_ := (Option.bind_some _ _).symm.trans H;with_reducible exact H2_) | with_reducible exact H | (rw [hy366];exact H) | exact H
      have Ny366 := aS hy366
      clear hy366
      have H' := aS H
      clear H
      go_wp2_with (first | ((with_reducible refine gate_dst (N := 19) rfl ?_);refine Kd.R_make (Kd.int .u8) _ 5 rfl (N := 19) rfl 101 _ _ rfl a1 rfl rfl underlying101 (.int .u8 0) 1 info5 rfl (by decide) (by omega) 0 (ok := fun _ => True) (okp := fun _ => True) rfl (fun _ hk => hk) trivial (of_decide_eq_true (by first | (with_reducible assumption) | assumption)) (Nat.le_trans (Nat.mul_le_mul_right _ (of_decide_eq_true (by first | (with_reducible assumption) | assumption) : a1.toNat ≤ 281474976710656)) (by omega)) (Below.refl _ _) (Nat.le_refl _) ?_;intro v367 w9 ho10 hb hg_ hnew_;clear hg_ hnew_;(first | rw [← Ny366.out] at ho10 | (simp only [Int.reduceToNat] at ho10;rw [← Ny366.out] at ho10));have n0_ := aS (Kd.R_lower ho10 (below_size (by repeat (first | (with_reducible first | exact HB.out | apply b_l | apply pw_below_drewN | apply below_drew1) | exact HB.out))));have n1_ := aS (b_s (by repeat (first | (with_reducible first | exact HB.out | apply b_l | apply pw_below_drewN | apply below_drew1) | exact HB.out)) hb);clear HB;have HO368 := n0_;have HB := n1_;clear n0_ n1_;clear hb ho10))
      go_loopg [0,7] kj2 (fun kq v0 v7 w' => ∃ (x0_2 : Int) (x6_2 : List Int) (x7_2 : Int),v0 = .int .i64 x0_2 ∧ v7 = .int .i64 x7_2 ∧ Aside0 (digits_Put.l0 kq x0_2 x6_2 x7_2 = some (r1,r2)) ∧ Aside0 (kq ≤ kj2) ∧ Aside0 (Kd.R (Kd.int .u8) 5 w' w.heap.size (fun _ => True) v367 x6_2) ∧ Aside0 (Below w.heap.size w w'))
      case atStart => exact ⟨(a0),(y366),(wrap64 (a1 - 1)),(by first | rfl | (simp;done) | (simp [*];done)),(by first | rfl | (simp;done) | (simp [*];done)),H',⟨Nat.le_refl _⟩,⟨by (with_reducible repeat (first | apply Kd.R_alloc | apply Kd.R_drewN | apply Kd.R_drew));exact HO368.out⟩,⟨by repeat (first | (with_reducible first | exact HB.out | apply b_l | apply pw_below_drewN | apply below_drew1) | exact HB.out)⟩⟩
      case round =>
       clear H'
       try clear c1
       try clear p2
       try clear c4
       try clear c4b0
       try clear c5
       try clear c5b0
       try clear c6
       try clear p6
       try clear c7
       try clear c7b0
       try clear c7b1
       try clear c8
       try clear c8b0
       try clear c8b1
       try clear p2
       obtain ⟨x0_2,x6_2,x7_2,rfl,rfl,HA,HK2,HO_6,HB⟩ := hrel
       cases gk with
       | zero => exact absurd HA.out (by simp [digits_Put.l0])
       | succ k2 =>
        have H := HA.out
        clear HA
        simp only [digits_Put.l0] at H
        by_cases c11 : x7_2 ≥ 0
        ·rw [if_pos c11] at H
         have c11b0 : decide (0 ≤ x7_2) = true := d_T c11
         clear c11
         by_cases c12 : 0 ≤ x7_2
         ·rw [if_pos c12] at H
          have c12b0 : decide (0 ≤ x7_2) = true := d_T c12
          clear c12
          by_cases c13 : x7_2 < (x6_2.length : Int)
          ·rw [if_pos c13] at H
           have c13b0 : decide (x7_2 < (x6_2.length : Int)) = true := d_T c13
           clear c13
           obtain ⟨y369,hy369⟩ : ∃ y_ : List Int,y_ = (x6_2.set (x7_2 : Int).toNat ((wrap64 (48 + (Int.tmod x0_2 10))) % 256)) := ⟨_,rfl⟩
           replace H : (digits_Put.l0 k2 (wrap64 (Int.tdiv x0_2 10)) y369 (wrap64 (x7_2 - 1))) = some (r1,r2) := by first | (rw [hy369];with_reducible exact H) | (have H2_ := (Option.bind_some _ _).symm.trans H;rw [hy369];with_reducible exact H2_) | (have H2_ := (Option.bind_some _ _).symm.trans H;with_reducible exact H2_) | with_reducible exact H | (rw [hy369];exact H) | exact H
           have Ny369 := aS hy369
           clear hy369
           have H' := aS H
           clear H
           have p14 : 0 ≤ (x7_2 : Int) := of_decide_eq_true (by first | (with_reducible assumption) | assumption)
           have q14 : (x7_2 : Int) < ((x6_2.length : Int) : Int) := of_decide_eq_true (by first | (with_reducible assumption) | assumption)
           obtain ⟨go14,co14,eo14,gb14,gl14,cl14,HG14⟩ := Kd.R_form HO_6.out (by omega)
           (first | cases eo14 | (injection eo14 with ea_ en_ ec_;(first | subst ea_ | (injection ea_ with ea_;subst ea_));subst ec_;clear en_))
           have GB14 := aS gb14
           have GG14 := aS HG14
           clear gb14 gl14 HG14
           obtain ⟨hx14_0,hf14_0⟩ := Kd.R_celln 0 HO_6.out (x7_2 : Int) p14 q14
           replace p14 := eq_true p14
           replace q14 := eq_true q14
           have HP15 := Kd.R_putg HO_6.out (x7_2 : Int) ((wrap64 (48 + (Int.tmod x0_2 10))) % 256)
           go_wp2_with (first | ((with_reducible refine gate_store (t := 5) (p := 32) rfl ?_);refine store_event (t := 5) (p := 32) (v := ?vo_w16) (w1 := (wr.setCell ⟨go14,(x7_2 : Int).toNat,none⟩ (.int .u8 ((wrap64 (48 + (Int.tmod x0_2 10))) % 256)))) ?hg ?ho ?hn ?hr ?_;(case ho => rfl);(case hg => rfl);(case hn => rfl);(case hr => first | (go_simp;done) | (go_simp;rfl));intro w16 hw;have hg : wr.grownBy w16 (some go14) := (by rw [hw];exact HP15.2);have hp_ : Kd.R (Kd.int .u8) 5 w16 w.heap.size (fun _ => True) (.slice (some ⟨go14,0,none⟩) x6_2.length co14) y369 := (by rw [hw,Ny369.out];exact HP15.1);clear HP15;have n0_ := aS (hp_);have n1_ := aS ((by rw [hw];exact below_set (HB.out) GB14.out : Below w.heap.size w w16));clear HO_6;clear HB;have HO_6 := n0_;have HB := n1_;clear n0_ n1_;clear hg hw hp_))
           go_roundg k2
           case measure => have := HJ2.out;have := HK2.out;omega
           case rel => exact ⟨(wrap64 (Int.tdiv x0_2 10)),(y369),(wrap64 (x7_2 - 1)),(by first | rfl | (simp;done) | (simp [*];done)),(by first | rfl | (simp;done) | (simp [*];done)),H',⟨by have := HJ2.out;have := HK2.out;omega⟩,⟨by (with_reducible repeat (first | apply Kd.R_alloc | apply Kd.R_drewN | apply Kd.R_drew));exact HO_6.out⟩,⟨by repeat (first | (with_reducible first | exact HB.out | apply b_l | apply pw_below_drewN | apply below_drew1) | exact HB.out)⟩⟩
          ·rw [if_neg c13] at H
           exact absurd H (by simp)
         ·rw [if_neg c12] at H
          exact absurd H (by simp)
        ·rw [if_neg c11] at H
         have c11b0 : decide (0 ≤ x7_2) = false := d_F c11
         clear c11
         by_cases c17 : x0_2 > 0
         ·rw [if_pos c17] at H
          have c17b0 : decide (0 < x0_2) = true := d_T c17
          clear c17
          simp only [Option.some.injEq,Prod.mk.injEq] at H
          obtain ⟨rfl,rfl⟩ := H
          go_wp2
          go_ret2
          exact ⟨by first | rfl | (simp [errW_none,errW_some] <;> rfl) | (simp [*,errW_none,errW_some] <;> rfl),by repeat (first | (with_reducible first | exact HB.out | apply b_l | apply pw_below_drewN | apply below_drew1) | exact HB.out)⟩
         ·rw [if_neg c17] at H
          have c17b0 : decide (0 < x0_2) = false := d_F c17
          clear c17
          simp only [Option.some.injEq,Prod.mk.injEq] at H
          obtain ⟨rfl,rfl⟩ := H
          have hcv18 := own_string (P := prog) underlying101 underlying5 underlying9 (Kd.own_of_R HO_6.out)
          go_wp2
          go_ret2
          exact ⟨by first | rfl | (simp [errW_none,errW_some] <;> rfl) | (simp [*,errW_none,errW_some] <;> rfl),by repeat (first | (with_reducible first | exact HB.out | apply b_l | apply pw_below_drewN | apply below_drew1) | exact HB.out)⟩
     ·rw [if_neg c8] at H
      exact absurd H (by simp)
    ·rw [if_neg c7] at H
     exact absurd H (by simp)
end Go.Proofs.YtgbmnpgaddhfpaaGreatDoor.T
