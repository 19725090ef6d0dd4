/- Walks and plain laws beneath the law TopBuilt. No conditions but what each statement names. -/
import Derived.Laws.CopyOwn
import Derived.Lib.BitFns
import Derived.Lib.BufferWrite
import Derived.Test.YtgbmnpgaddhfpaaGreatDoorB2
import Derived.Test.YtgbmnpgaddhfpaaGreatDoorB3
set_option linter.unusedVariables false
set_option linter.unusedSimpArgs false
namespace Go.Proofs.YtgbmnpgaddhfpaaGreatDoor.T
open Go.RowKit Go.Proofs.YtgbmnpgaddhfpaaGreatDoorW.PrintWords Go.Proofs.YtgbmnpgaddhfpaaGreatDoorW.PrintLast Go.Proofs.YtgbmnpgaddhfpaaGreatDoorW.PrintMore
attribute [local go_sem] max2_int min2_int max_two min_two
open Go.Proofs.YtgbmnpgaddhfpaaGreatDoor.G
open Tryz
set_option maxRecDepth 100000
def v66 (p : S66) : Value := .agg #[.string p.f0,.string p.f1]
theorem drop66 {l : List S66} {i : Nat} (h : i < l.length) : l.drop i = rd_T66 l i :: l.drop (i + 1) := by
 rw [List.drop_eq_getElem_cons h]
 simp [rd_T66,List.getD_eq_getElem?_getD,List.getElem?_eq_getElem h]
theorem at66 {A : Option Addr} {l : List S66} {w wr : World} (HR : Kd.C k66 w A l.length l) (HB : Below w.heap.size w wr) (i : Nat) (h : i < l.length) : ∃ ad,A = some ad ∧ wr.cell? (ad.add (i * 2)) = some (.string (rd_T66 l (i : Int)).f0)
  ∧ wr.cell? ⟨(ad.add (i * 2)).block,(ad.add (i * 2)).off + 1,none⟩ = some (.string (rd_T66 l (i : Int)).f1) := by
 obtain ⟨ad,rfl,h0,h1⟩ := at_T66 HR i (by omega) (by omega)
 simp only [Int.toNat_natCast] at h0 h1
 have up : ∀ {a : Addr} {v : Value},w.cell? a = some v → wr.cell? a = some v := fun hx => (HB.cell (World.block_lt_of_cell? w _ hx)).trans hx
 exact ⟨ad,rfl,up h0,up h1⟩
def headS (t : ByteArray) : List S66 → ByteArray × Bool
 | [] => (⟨#[]⟩,false)
 | p :: ps => if p.f0 = t then (p.f1,true) else headS t ps
theorem str_beq (s t : ByteArray) : (s.toList == t.toList) = decide (s = t) := by
 rw [Bool.eq_iff_iff,beq_iff_eq,decide_eq_true_eq]
 exact ⟨toL_inj,fun h => by rw [h]⟩
set_option maxHeartbeats 2000000 in
theorem xlate_head.at (A : Option Addr) (c : Nat) (l : List S66) (rs : Value) (t : ByteArray) (w : World) (hl : l.length ≤ 4611686018427387904) (hr : Kd.C k66 w A l.length l) (hc : l.length ≤ c) (B : Option Addr) (m d : Nat) (hrs : rs = .slice B m d) :
  Calls prog 40 #[.agg #[.slice A l.length c,rs],.string t] w fun e w' => e = .returned (.tuple #[.string (headS t l).1,.bool (headS t l).2]) ∧ Below w.heap.size w w' := by
 have hu28 := underlying28
 have hu66 := underlying66
 have HR := aS hr
 have HC := aS hc
 subst hrs
 clear hr hc
 go_enter func40,ntmps40
 go_wp2
 generalize hw1 : w.alloc _ = w1
 have HB1 : Aside0 (Below w.heap.size w w1) := ⟨by rw [← hw1];exact b_l (Below.refl _ _) _⟩
 clear hw1
 go_loopg [11] l.length (fun g v11 w' => ∃ i : Nat,v11 = .int .i64 i ∧ i + g = l.length ∧ Aside0 (headS t (l.drop i) = headS t l) ∧ Aside0 (Below w1.heap.size w1 w'))
 case atStart => exact ⟨0,rfl,Nat.zero_add _,⟨rfl⟩,⟨Below.refl _ _⟩⟩
 case round =>
  obtain ⟨i,rfl,hi,HF,HB⟩ := hrel
  have HBW : Aside0 (Below w.heap.size w wr) := ⟨b_s HB1.out HB.out⟩
  by_cases h : i < l.length
  ·have c0 : decide ((i : Int) < l.length) = true := d_T (by omega)
   obtain ⟨ad,rfl,hx0,hx1⟩ := at66 HR.out HBW.out i h
   have p : (0 ≤ (i : Int)) = True := eq_true (by omega)
   have q : ((i : Int) < l.length) = True := eq_true (by omega)
   have hf := HF.out
   rw [drop66 h,headS] at hf
   clear HF
   generalize rd_T66 l (i : Int) = x at *
   have e0 := str_beq x.f0 t
   by_cases e : x.f0 = t
   ·rw [d_T e] at e0
    rw [if_pos e] at hf
    have HF := aS hf
    clear hf e
    go_wp2
    go_ret2
    exact ⟨by rw [← HF.out];rfl,b_l HBW.out _⟩
   ·rw [d_F e] at e0
    rw [if_neg e] at hf
    have HF := aS hf
    clear hf e
    go_wp2
    obtain ⟨g,rfl⟩ : ∃ g,gk = g + 1 := ⟨gk - 1,by omega⟩
    go_roundg g
    case rel => exact ⟨i + 1,rfl,by omega,HF,⟨below_then HB.out HB.out.size (bO _)⟩⟩
    case measure => omega
  ·have c0 : decide ((i : Int) < l.length) = false := d_F (by omega)
   have hf := HF.out
   rw [List.drop_of_length_le (by omega),headS] at hf
   clear HF
   have HF := aS hf
   clear hf
   go_wp2
   go_ret2
   exact ⟨by rw [← HF.out];rfl,HBW.out⟩
theorem drop63 {l : List S63} {i : Nat} (h : i < l.length) : l.drop i = rd_T63 l i :: l.drop (i + 1) := by
 rw [List.drop_eq_getElem_cons h]
 simp [rd_T63,List.getD_eq_getElem?_getD,List.getElem?_eq_getElem h]
theorem at63 {A : Option Addr} {l : List S63} {w wr : World} (HR : Kd.C k63 w A l.length l) (HB : Below w.heap.size w wr) (i : Nat) (h : i < l.length) : ∃ ad,A = some ad ∧ wr.cell? (ad.add (i * 2)) = some (.int .i64 (rd_T63 l (i : Int)).f0)
  ∧ wr.cell? ⟨(ad.add (i * 2)).block,(ad.add (i * 2)).off + 1,none⟩ = some (.string (rd_T63 l (i : Int)).f1) := by
 obtain ⟨ad,rfl,h0,h1⟩ := at_T63 HR i (by omega) (by omega)
 simp only [Int.toNat_natCast] at h0 h1
 have up : ∀ {a : Addr} {v : Value},w.cell? a = some v → wr.cell? a = some v := fun hx => (HB.cell (World.block_lt_of_cell? w _ hx)).trans hx
 exact ⟨ad,rfl,up h0,up h1⟩
def getS (no : Int) : List S63 → ByteArray × Bool
 | [] => (⟨#[]⟩,false)
 | p :: ps => if p.f0 = no then (p.f1,true) else getS no ps
set_option maxHeartbeats 2000000 in
theorem msg_Get.at (m : ByteArray) (A : Option Addr) (c : Nat) (l : List S63) (no : Int) (w : World) (hl : l.length ≤ 4611686018427387904) (hr : Kd.C k63 w A l.length l) (hc : l.length ≤ c) :
  Calls prog 18 #[.agg #[.string m,.slice A l.length c],.int .i64 no] w fun e w' => e = .returned (.tuple #[.string (getS no l).1,.bool (getS no l).2]) ∧ Below w.heap.size w w' := by
 have hu42 := underlying42
 have hu63 := underlying63
 have HR := aS hr
 have HC := aS hc
 clear hr hc
 go_enter func18,ntmps18
 go_wp2
 generalize hw1 : w.alloc _ = w1
 have HB1 : Aside0 (Below w.heap.size w w1) := ⟨by rw [← hw1];exact b_l (Below.refl _ _) _⟩
 clear hw1
 go_loopg [11] l.length (fun g v11 w' => ∃ i : Nat,v11 = .int .i64 i ∧ i + g = l.length ∧ Aside0 (getS no (l.drop i) = getS no l) ∧ Aside0 (Below w1.heap.size w1 w'))
 case atStart => exact ⟨0,rfl,Nat.zero_add _,⟨rfl⟩,⟨Below.refl _ _⟩⟩
 case round =>
  obtain ⟨i,rfl,hi,HF,HB⟩ := hrel
  have HBW : Aside0 (Below w.heap.size w wr) := ⟨b_s HB1.out HB.out⟩
  by_cases h : i < l.length
  ·have c0 : decide ((i : Int) < l.length) = true := d_T (by omega)
   obtain ⟨ad,rfl,hx0,hx1⟩ := at63 HR.out HBW.out i h
   have p : (0 ≤ (i : Int)) = True := eq_true (by omega)
   have q : ((i : Int) < l.length) = True := eq_true (by omega)
   have hf := HF.out
   rw [drop63 h,getS] at hf
   clear HF
   generalize rd_T63 l (i : Int) = x at *
   by_cases e : x.f0 = no
   ·have e0 : (x.f0 == no) = true := beq_iff_eq.mpr e
    rw [if_pos e] at hf
    have HF := aS hf
    clear hf e
    go_wp2
    go_ret2
    exact ⟨by rw [← HF.out];rfl,b_l HBW.out _⟩
   ·have e0 : (x.f0 == no) = false := beq_eq_false_iff_ne.mpr e
    rw [if_neg e] at hf
    have HF := aS hf
    clear hf e
    go_wp2
    obtain ⟨g,rfl⟩ : ∃ g,gk = g + 1 := ⟨gk - 1,by omega⟩
    go_roundg g
    case rel => exact ⟨i + 1,rfl,by omega,HF,⟨below_then HB.out HB.out.size (bO _)⟩⟩
    case measure => omega
  ·have c0 : decide ((i : Int) < l.length) = false := d_F (by omega)
   have hf := HF.out
   rw [List.drop_of_length_le (by omega),getS] at hf
   clear HF
   have HF := aS hf
   clear hf
   go_wp2
   go_ret2
   exact ⟨by rw [← HF.out];rfl,HBW.out⟩
def placeS (no : Int) : List S87 → Int → Int
 | [],_ => -1
 | p :: ps,i => if p.f0 = no then i else placeS no ps (i + 1)
set_option maxHeartbeats 2000000 in
theorem groatref13_Find.at (st ver : Int) (A : Option Addr) (c : Nat) (l : List S87) (no : Int) (w : World) (hl : l.length ≤ 4611686018427387904) (hr : Kd.C k87 w A l.length l) (hc : l.length ≤ c) :
  Calls prog 56 #[.agg #[.int .i64 st,.int .i64 ver,.slice A l.length c],.int .i64 no] w fun e w' => e = .returned (.int .i64 (placeS no l 0)) ∧ Below w.heap.size w w' := by
 have hu24 := underlying24
 have hu87 := underlying87
 have HR := aS hr
 have HC := aS hc
 clear hr hc
 go_enter func56,ntmps56
 go_wp2
 generalize hw1 : w.alloc _ = w1
 have HB1 : Aside0 (Below w.heap.size w w1) := ⟨by rw [← hw1];exact b_l (Below.refl _ _) _⟩
 have HBK : Aside0 (w1.heap[w.heap.size]? = some (.cells #[.int .i64 st,.int .i64 ver,.slice A l.length c] 24 (0,0))) := ⟨by rw [← hw1];exact blk_new _ _⟩
 clear hw1
 go_loopg [5] l.length (fun g v5 w' => ∃ i : Nat,v5 = .int .i64 i ∧ i + g = l.length ∧ Aside0 (placeS no (l.drop i) i = placeS no l 0) ∧ Aside0 (Below w1.heap.size w1 w'))
 case atStart => exact ⟨0,rfl,Nat.zero_add _,⟨rfl⟩,⟨Below.refl _ _⟩⟩
 case round =>
  obtain ⟨i,rfl,hi,HF,HB⟩ := hrel
  have HBW : Aside0 (Below w.heap.size w wr) := ⟨b_s HB1.out HB.out⟩
  have HBR := aS ((HB.out.block _ (blk_lt HBK.out)).trans HBK.out)
  have hb2 : wr.cell? ⟨w.heap.size,2,none⟩ = some (.slice A l.length c) := blk_cell HBR.out 2
  by_cases h : i < l.length
  ·have c0 : decide ((i : Int) < l.length) = true := d_T (by omega)
   obtain ⟨ad,rfl,hx0,hx1,hx2,hx3,hx4⟩ := at87 HR.out HBW.out i h
   have p : (0 ≤ (i : Int)) = True := eq_true (by omega)
   have q : ((i : Int) < l.length) = True := eq_true (by omega)
   have hf := HF.out
   rw [drop87 h,placeS] at hf
   clear HF
   generalize rd_T87 l (i : Int) = x at *
   by_cases e : x.f0 = no
   ·have e0 : (x.f0 == no) = true := beq_iff_eq.mpr e
    rw [if_pos e] at hf
    have HF := aS hf
    clear hf e
    go_wp2
    go_ret
    exact ⟨by rw [← HF.out];rfl,HBW.out⟩
   ·have e0 : (x.f0 == no) = false := beq_eq_false_iff_ne.mpr e
    rw [if_neg e] at hf
    have HF := aS hf
    clear hf e
    go_wp2
    obtain ⟨g,rfl⟩ : ∃ g,gk = g + 1 := ⟨gk - 1,by omega⟩
    go_roundg g
    case rel => exact ⟨i + 1,rfl,by omega,HF,HB⟩
    case measure => omega
  ·have c0 : decide ((i : Int) < l.length) = false := d_F (by omega)
   have hf := HF.out
   rw [List.drop_of_length_le (by omega),placeS] at hf
   clear HF
   have HF := aS hf
   clear hf
   go_wp2
   go_ret
   exact ⟨by rw [← HF.out];rfl,HBW.out⟩
end Go.Proofs.YtgbmnpgaddhfpaaGreatDoor.T
namespace Go.Proofs.YtgbmnpgaddhfpaaGreatDoor.T
open Go.RowKit Go.Proofs.YtgbmnpgaddhfpaaGreatDoorW.PrintWords Go.Proofs.YtgbmnpgaddhfpaaGreatDoorW.PrintLast Go.Proofs.YtgbmnpgaddhfpaaGreatDoorW.PrintMore
attribute [local go_sem] max2_int min2_int max_two min_two
open Tryz
set_option maxRecDepth 100000
theorem far {W : World} {g : Nat} {o : Obj} (p : Addr) (u : Value) (h : W.heap[g]? = some o) (hk : g ≠ p.block) : (W.setCell p u).heap[g]? = some o := (Below.heap_setCell W p u g hk).trans h
structure Box2 (w W : World) (a b : Obj) : Prop where
 h1 : W.heap[w.heap.size]? = some a
 h2 : W.heap[w.heap.size + 1]? = some b
 below : Below w.heap.size w W
theorem Box2.init {w w1 : World} {a b : Obj} (hb : Below ((w.alloc a).alloc b).heap.size ((w.alloc a).alloc b) w1) : Box2 w w1 a b := ⟨blk_nb1 hb,blk_nb2 hb,below_a2 hb⟩
theorem Box2.start (w : World) (a b : Obj) : Box2 w ((w.alloc a).alloc b) a b := ⟨blk_alloc (blk_new w a) b,alloc2 w a b,b_l (bO _) _⟩
theorem Box2.step {w W W' : World} {a b : Obj} (D : Box2 w W a b) (hb : Below W.heap.size W W') : Box2 w W' a b := ⟨k_B D.h1 hb,k_B D.h2 hb,b_s D.below hb⟩
structure Box3 (w W : World) (a b c : Obj) : Prop where
 h1 : W.heap[w.heap.size]? = some a
 h2 : W.heap[w.heap.size + 1]? = some b
 h3 : W.heap[w.heap.size + 1 + 1]? = some c
 below : Below w.heap.size w W
theorem Box3.start (w : World) (a b c : Obj) : Box3 w (((w.alloc a).alloc b).alloc c) a b c := ⟨blk_alloc (blk_alloc (blk_new w a) b) c,blk_alloc (alloc2 w a b) c,alloc3 w a b c,b_l (bA _ _) _⟩
theorem Box3.step {w W W' : World} {a b c : Obj} (D : Box3 w W a b c) (hb : Below W.heap.size W W') : Box3 w W' a b c := ⟨k_B D.h1 hb,k_B D.h2 hb,k_B D.h3 hb,b_s D.below hb⟩
theorem Box3.init {w w1 : World} {a b c : Obj} (hb : Below (((w.alloc a).alloc b).alloc c).heap.size (((w.alloc a).alloc b).alloc c) w1) : Box3 w w1 a b c := (Box3.start w a b c).step hb
structure Box4 (w W : World) (a b c d : Obj) : Prop where
 h1 : W.heap[w.heap.size]? = some a
 h2 : W.heap[w.heap.size + 1]? = some b
 h3 : W.heap[w.heap.size + 1 + 1]? = some c
 h4 : W.heap[w.heap.size + 1 + 1 + 1]? = some d
 below : Below w.heap.size w W
theorem Box4.start (w : World) (a b c d : Obj) : Box4 w ((((w.alloc a).alloc b).alloc c).alloc d) a b c d :=
 ⟨blk_alloc (blk_alloc (blk_alloc (blk_new w a) b) c) d,blk_alloc (blk_alloc (alloc2 w a b) c) d,blk_alloc (alloc3 w a b c) d,blk_top (by rw [size_alloc,size_alloc,size_alloc]),b_l (b_l (bA _ _) _) _⟩
theorem Box4.step {w W W' : World} {a b c d : Obj} (D : Box4 w W a b c d) (hb : Below W.heap.size W W') : Box4 w W' a b c d := ⟨k_B D.h1 hb,k_B D.h2 hb,k_B D.h3 hb,k_B D.h4 hb,b_s D.below hb⟩
theorem Box4.init {w w1 : World} {a b c d : Obj} (hb : Below ((((w.alloc a).alloc b).alloc c).alloc d).heap.size ((((w.alloc a).alloc b).alloc c).alloc d) w1) : Box4 w w1 a b c d := (Box4.start w a b c d).step hb
theorem cells_5 {w : World} {g : Nat} {t : TypeId} {v0 v1 v2 v3 v4 : Value} (h : w.heap[g]? = some (.cells #[v0,v1,v2,v3,v4] t (0,0))) : w.cell? ⟨g,0,none⟩ = some v0 ∧ w.cell? ⟨g,1,none⟩ = some v1 ∧ w.cell? ⟨g,2,none⟩ = some v2 ∧ w.cell? ⟨g,3,none⟩ = some v3 ∧ w.cell? ⟨g,4,none⟩ = some v4 := ⟨blk_cell h 0,blk_cell h 1,blk_cell h 2,blk_cell h 3,blk_cell h 4⟩
theorem cells_3 {w : World} {g : Nat} {t : TypeId} {v0 v1 v2 : Value} (h : w.heap[g]? = some (.cells #[v0,v1,v2] t (0,0))) : w.cell? ⟨g,0,none⟩ = some v0 ∧ w.cell? ⟨g,1,none⟩ = some v1 ∧ w.cell? ⟨g,2,none⟩ = some v2 := ⟨blk_cell h 0,blk_cell h 1,blk_cell h 2⟩
theorem cells_2 {w : World} {g : Nat} {t : TypeId} {v0 v1 : Value} (h : w.heap[g]? = some (.cells #[v0,v1] t (0,0))) : w.cell? ⟨g,0,none⟩ = some v0 ∧ w.cell? ⟨g,1,none⟩ = some v1 := ⟨blk_cell h 0,blk_cell h 1⟩
theorem cells_2a {w : World} {g : Nat} {t : TypeId} {v0 v1 : Value} (h : w.heap[g]? = some (.cells #[v0,v1] t (0,0))) (o : Obj) : (w.alloc o).cell? ⟨g,0,none⟩ = some v0 ∧ (w.alloc o).cell? ⟨g,1,none⟩ = some v1 := cells_2 (blk_alloc h o)
theorem cells_3a {w : World} {g : Nat} {t : TypeId} {v0 v1 v2 : Value} (h : w.heap[g]? = some (.cells #[v0,v1,v2] t (0,0))) (o : Obj) : (w.alloc o).cell? ⟨g,0,none⟩ = some v0 ∧ (w.alloc o).cell? ⟨g,1,none⟩ = some v1 ∧ (w.alloc o).cell? ⟨g,2,none⟩ = some v2 := cells_3 (blk_alloc h o)
theorem cells_5a {w : World} {g : Nat} {t : TypeId} {v0 v1 v2 v3 v4 : Value} (h : w.heap[g]? = some (.cells #[v0,v1,v2,v3,v4] t (0,0))) (o : Obj) : (w.alloc o).cell? ⟨g,0,none⟩ = some v0 ∧ (w.alloc o).cell? ⟨g,1,none⟩ = some v1 ∧ (w.alloc o).cell? ⟨g,2,none⟩ = some v2 ∧ (w.alloc o).cell? ⟨g,3,none⟩ = some v3 ∧ (w.alloc o).cell? ⟨g,4,none⟩ = some v4 := cells_5 (blk_alloc h o)
theorem froz_2 {w : World} {g : Nat} {t : TypeId} {cs : Array Value} (h : w.heap[g]? = some (.cells cs t (0,0))) : w.frozen? ⟨g,0,none⟩ = false ∧ w.frozen? ⟨g,1,none⟩ = false := ⟨blk_frozen h 0,blk_frozen h 1⟩
theorem froz_2a {w : World} {g : Nat} {t : TypeId} {cs : Array Value} (h : w.heap[g]? = some (.cells cs t (0,0))) (o : Obj) : (w.alloc o).frozen? ⟨g,0,none⟩ = false ∧ (w.alloc o).frozen? ⟨g,1,none⟩ = false := froz_2 (blk_alloc h o)
def isMti (m : ByteArray) : Bool := decide (m.size = 4) && allD m
theorem isMti_iff {m : ByteArray} : isMti m = true ↔ m.size = 4 ∧ allD m = true := by unfold isMti;simp
theorem mti_Right.at (m : ByteArray) (w : World) : Calls prog 51 #[.string m] w fun e w' => e = .returned (.bool (isMti m)) ∧ Below w.heap.size w w' := by
 unfold isMti
 by_cases h : m.size = 4
 ·have c0 : ((m.size : Int) == 4) = true := beq_iff_eq.mpr (by omega)
  rw [d_T h,Bool.true_and]
  go_enter func51,ntmps51
  go_wp2_with (first | (go_at_call 109;refine (digits_All.at _ _).mono ?_;rintro e w1 ⟨rfl,hb⟩))
  go_ret
  exact ⟨rfl,hb⟩
 ·have c0 : ((m.size : Int) == 4) = false := beq_eq_false_iff_ne.mpr (by omega)
  rw [d_F h,Bool.false_and]
  go_enter func51,ntmps51
  go_wp2
  go_ret
  exact ⟨rfl,Below.refl _ _⟩
def verV (m : ByteArray) : Int × Bool := if isMti m then (bt m 0 - 48,true) else (0,false)
theorem mti_Version.at (m : ByteArray) (w : World) : Calls prog 80 #[.string m] w fun e w' => e = .returned (.tuple #[.int .i64 (verV m).1,.bool (verV m).2]) ∧ Below w.heap.size w w' := by
 unfold verV
 cases h : isMti m with
 | true =>
  have h4 := isMti_iff.1 h
  have hd := allD_at h4.2 (i := 0) (by omega)
  have hb0 := bt_get (s := m) (i := 0) (by omega)
  have p : (0 < m.size) = True := eq_true (by omega)
  have q : ((0 : Int) < m.size) = True := eq_true (by omega)
  rw [if_pos rfl]
  go_enter func80,ntmps80
  go_wp2_with (first | (go_at_call 51;refine (mti_Right.at _ _).mono ?_;rintro e w1 ⟨rfl,hb⟩;rw [h]))
  go_ret2
  exact ⟨by rw [show bt m 0 = _ from hb0];rfl,by assumption⟩
 | false =>
  rw [if_neg (by decide)]
  go_enter func80,ntmps80
  go_wp2_with (first | (go_at_call 51;refine (mti_Right.at _ _).mono ?_;rintro e w1 ⟨rfl,hb⟩;rw [h]))
  go_ret2
  exact ⟨rfl,hb⟩
def reqM (m : ByteArray) : Bool := isMti m && (decide (bt m 2 = 48) || decide (bt m 2 = 50))
theorem mti_Request.at (m : ByteArray) (w : World) : Calls prog 13 #[.string m] w fun e w' => e = .returned (.bool (reqM m)) ∧ Below w.heap.size w w' := by
 unfold reqM
 cases h : isMti m with
 | true =>
  have h4 := isMti_iff.1 h
  have hb := bt_get (s := m) (i := 2) (by omega)
  have q : ((2 : Int) < m.size) = True := eq_true (by omega)
  have q2 : (2 < m.size) = True := eq_true (by omega)
  rw [show bt m 2 = _ from hb]
  go_enter func13,ntmps13
  go_wp2_with (first | (go_at_call 51;refine (mti_Right.at _ _).mono ?_;rintro e w1 ⟨rfl,hb⟩;rw [h]))
  all_goals go_ret
  all_goals refine ⟨ret_bool ?_,by assumption⟩
  all_goals (rw [Bool.eq_iff_iff];rename_i c;simp [c])
 | false =>
  go_enter func13,ntmps13
  go_wp2_with (first | (go_at_call 51;refine (mti_Right.at _ _).mono ?_;rintro e w1 ⟨rfl,hb⟩;rw [h]))
  go_ret
  exact ⟨rfl,by assumption⟩
end Go.Proofs.YtgbmnpgaddhfpaaGreatDoor.T
namespace Go.Proofs.YtgbmnpgaddhfpaaGreatDoor.T
open Go.RowKit Go.Proofs.YtgbmnpgaddhfpaaGreatDoorW.PrintWords Go.Proofs.YtgbmnpgaddhfpaaGreatDoorW.PrintLast Go.Proofs.YtgbmnpgaddhfpaaGreatDoorW.PrintMore
attribute [local go_sem] max2_int min2_int max_two min_two
open Go.Proofs.YtgbmnpgaddhfpaaGreatDoor.G
open Tryz
set_option maxRecDepth 100000
def known (st : Int) : Bool := decide (st = 1 ∨ st = 2)
theorem cell_known.at (st : Int) (w : World) : Calls prog 86 #[.int .i64 st] w fun e w' => e = .returned (.bool (known st)) ∧ w' = w := by
 go_enter func86,ntmps86
 go_wp2
 all_goals go_ret
 all_goals refine ⟨ret_bool ?_,rfl⟩
 all_goals (unfold known;rw [Bool.eq_iff_iff];simp_all)
theorem bitmap_known.at (st : Int) (w : World) : Calls prog 81 #[.int .i64 st] w fun e w' => e = .returned (.bool (known st)) ∧ w' = w := by
 go_enter func81,ntmps81
 go_wp2
 all_goals go_ret
 all_goals refine ⟨ret_bool ?_,rfl⟩
 all_goals (unfold known;rw [Bool.eq_iff_iff];simp_all)
def bcdSize (n : Int) : Int := if n < 1 then 0 else n / 2 + n % 2
theorem bcd_Size.at (n : Int) (w : World) (hn : n ≤ 4611686018427387904) : Calls prog 78 #[.int .i64 n] w fun e w' => e = .returned (.int .i64 (bcdSize n)) ∧ w' = w := by
 by_cases h : n < 1
 ·have d : decide (n < 1) = true := d_T h
  have HT : Aside0 (bcdSize n = 0) := ⟨if_pos h⟩
  go_enter func78,ntmps78
  go_wp2
  go_ret
  exact ⟨by rw [HT.out];rfl,rfl⟩
 ·have d : decide (n < 1) = false := d_F h
  have HT : Aside0 (bcdSize n = n / 2 + n % 2) := ⟨if_neg h⟩
  have t1 : Int.tdiv n 2 = n / 2 := Int.tdiv_eq_ediv_of_nonneg (by omega)
  have t2 : Int.tmod n 2 = n % 2 := Int.tmod_eq_emod_of_nonneg (by omega)
  go_enter func78,ntmps78
  go_wp2
  go_ret
  exact ⟨by rw [HT.out];rfl,rfl⟩
def howV (st c : Int) : Int := if st = 2 ∧ c = 1 then 1 else if st = 1 ∧ (c = 5 ∨ c = 6) then 2 else 0
theorem cell_how.at (st c : Int) (w : World) : Calls prog 88 #[.int .i64 st,.int .i64 c] w fun e w' => e = .returned (.int .i64 (howV st c)) ∧ w' = w := by
 go_enter func88,ntmps88
 go_wp2
 all_goals go_ret
 all_goals refine ⟨ret_int ?_,rfl⟩
 all_goals try simp only [beq_eq_false_iff_ne,beq_iff_eq,ne_eq] at *
 all_goals (unfold howV;(repeat' split) <;> first | rfl | omega)
theorem prefix_known.at (st f : Int) (w : World) : Calls prog 136 #[.int .i64 st,.int .i64 f] w fun e w' => e = .returned (.bool (known st && decide (0 < width f))) ∧ w' = w := by
 go_enter func136,ntmps136
 go_wp2_with (first | (go_at_call 137;refine (prefix_width.at _ _).mono ?_;rintro e w1 ⟨rfl,rfl⟩))
 all_goals go_ret
 all_goals refine ⟨ret_bool ?_,rfl⟩
 all_goals (unfold known;rw [Bool.eq_iff_iff];simp_all)
theorem fields_Halves.at (p : Int × Int) (w : World) : Calls prog 104 #[vSet p] w fun e w' => e = .returned (.tuple #[.int .u64 p.1,.int .u64 p.2]) ∧ Below w.heap.size w w' := by
 have hu82 := underlying82
 unfold vSet
 go_enter func104,ntmps104
 go_wp2
 go_quiet (fail)
 go_wp2
 go_ret2
 exact ⟨rfl,below_drewN' (bO _)⟩
theorem law3 : Go.Maps.Keyed prog 3 := Go.Maps.int_keyed underlying3
theorem zero4 (w : World) : (zeroValue 4).run prog w = .ok (.bool false) w := by kernel_rfl
def AskedI (P : Program) (K E : TypeId) (w : World) (b n : Nat) (seen : List Int) : Prop := ∃ f : Lit → Bool,Go.Proofs.YtgbmnpgaddhfpaaGreatDoor.G.Seen P K E w b n f ∧ ∀ s : Int,f (.int .i64 s) = decide (s ∈ seen)
theorem AskedI.made (P : Program) (K E : TypeId) (w : World) : AskedI P K E (w.alloc (.map #[] 0)) w.heap.size 0 [] := ⟨_,Go.Proofs.YtgbmnpgaddhfpaaGreatDoor.G.Seen.made P K E w,fun s => by simp⟩
def pg (b : ByteArray) : Nat → Int → List S225 → List S225 × Int × Int
 | 0,_,_ => ([],0,0)
 | d + 1,i,out => if i < b.size then
   if (getTag b i).2.2 = 0 then
    if (getLen b (getTag b i).2.1).2.2 = 0 then
     if (b.size : Int) - (getLen b (getTag b i).2.1).2.1 < (getLen b (getTag b i).2.1).1 then ([],2,b.size)
     else if (getTag b i).1 ∈ out.map S225.f0 then ([],10,i)
     else pg b d ((getLen b (getTag b i).2.1).2.1 + (getLen b (getTag b i).2.1).1) (out ++ [⟨(getTag b i).1,b.extract (getLen b (getTag b i).2.1).2.1.toNat ((getLen b (getTag b i).2.1).2.1 + (getLen b (getTag b i).2.1).1).toNat⟩])
    else ([],(getLen b (getTag b i).2.1).2.2,(getTag b i).2.1)
   else ([],(getTag b i).2.2,i)
  else (out,0,0)
theorem tag_ok {s : ByteArray} {i : Int} (h : (getTag s i).2.2 = 0) : (0 < (getTag s i).1 ∧ (getTag s i).1 ≤ 65535) ∧ i < (getTag s i).2.1 ∧ (getTag s i).2.1 ≤ s.size := by
 unfold getTag at h ⊢
 have hb := bt_range s i
 have hc := bt_range s (i + 1)
 (repeat' split at h) <;> first | cases h | skip
 ·rename_i h0 h1 h2 h3
  have hf := of_decide_eq_true (show isFirst (bt s i) = true by simpa using h2)
  rw [if_neg h0,if_neg h1,if_neg h2,if_pos h3]
  exact ⟨⟨hf.1,by show bt s i ≤ 65535;omega⟩,by show i < i + 1;omega,by show i + 1 ≤ (s.size : Int);omega⟩
 ·rename_i h0 h1 h2 h3 h4 h5
  have ht := of_decide_eq_true h5
  rw [if_neg h0,if_neg h1,if_neg h2,if_neg h3,if_neg h4,if_pos h5]
  exact ⟨⟨by show 0 < bt s i * 256 + bt s (i + 1);omega,by show bt s i * 256 + bt s (i + 1) ≤ 65535;omega⟩,by show i < i + 2;omega,by show i + 2 ≤ (s.size : Int);omega⟩
theorem len_ok {s : ByteArray} {i : Int} (h : (getLen s i).2.2 = 0) : 0 ≤ (getLen s i).1 ∧ (getLen s i).1 ≤ 65535 ∧ i < (getLen s i).2.1 ∧ (getLen s i).2.1 ≤ s.size := by
 have hb := bt_range s i
 have hc := bt_range s (i + 1)
 have hd := bt_range s (i + 2)
 have fin : ∀ a b c : Int,0 ≤ a → a ≤ 65535 → i < b → b ≤ s.size → (0 ≤ (a,b,c).1 ∧ (a,b,c).1 ≤ 65535 ∧ i < (a,b,c).2.1 ∧ (a,b,c).2.1 ≤ s.size) := fun a b c h1 h2 h3 h4 => ⟨h1,h2,h3,h4⟩
 unfold getLen at h ⊢
 (repeat' split at h) <;> first | cases h | skip
 ·rename_i h0 h1 h2
  rw [if_neg h0,if_neg h1,if_pos h2]
  exact fin _ _ _ (by omega) (by omega) (by omega) (by omega)
 ·rename_i h0 h1 h2 h3 h4 h5
  rw [if_neg h0,if_neg h1,if_neg h2,if_pos h3,if_neg h4,if_neg h5]
  exact fin _ _ _ (by omega) (by omega) (by omega) (by omega)
 ·rename_i h0 h1 h2 h3 h4 h5 h6
  rw [if_neg h0,if_neg h1,if_neg h2,if_neg h3,if_pos h4,if_neg h5,if_neg h6]
  exact fin _ _ _ (by omega) (by omega) (by omega) (by omega)
theorem wf_tag {x : Int} (h0 : 0 < x) (h1 : x ≤ 65535) : (Lit.int .i64 x).wf = true := by
 simp [Lit.wf]
 rw [show IntKind.i64.min = -9223372036854775808 by decide]
 omega
set_option maxHeartbeats 4000000 in
theorem tlv_Get.at (s : ByteArray) (w : World) (hs : s.size ≤ 1000000) :
  Calls prog 141 #[.string s] w fun e w' => (∃ v0 : Value,e = .returned (.tuple #[v0,.int .i64 (pg s (s.size + 1) 0 []).2.1,.int .i64 (pg s (s.size + 1) 0 []).2.2])) ∧ Below w.heap.size w w' := by
 have hmm := @run_makeMap prog
 have hs0 : s.size ≤ 4611686018427387904 := by omega
 go_enter func141,ntmps141
 go_wp2
 have HM0 := aS (AskedI.made prog 3 4 w)
 have HB0 : Aside0 (Below w.heap.size w (w.alloc (.map #[] 0))) := ⟨b_l (Below.refl _ _) (.map #[] 0)⟩
 go_loopg [5,7] (s.size + 1) (fun g v5 v7 w' => ∃ (xs : List S225) (i : Nat),v7 = .int .i64 i ∧ i ≤ s.size ∧ s.size - i < g ∧ xs.length + g ≤ s.size + 1 ∧ Aside0 (pg s g i xs = pg s (s.size + 1) 0 []) ∧ Aside0 (Kd.R k225 225 w' w.heap.size (fun k_ => k_ ≠ w.heap.size) v5 xs) ∧ Aside0 (Below w.heap.size w w') ∧ Aside0 (AskedI prog 3 4 w' w.heap.size xs.length (xs.map S225.f0)) ∧ Aside0 (∀ p ∈ xs,(Lit.int .i64 p.f0).wf = true))
 case atStart => exact ⟨[],0,rfl,Nat.zero_le _,by omega,by simp,⟨rfl⟩,⟨Kd.R_nil _ _ _ _ _⟩,HB0,HM0,⟨fun p hp => by cases hp⟩⟩
 case round =>
  clear HM0 HB0 hmm
  obtain ⟨xs,i,rfl,hi,hg0,hg1,HF,HO,HB,HS,HW⟩ := hrel
  obtain ⟨g,rfl⟩ : ∃ g,gk = g + 1 := ⟨gk - 1,by omega⟩
  have hf := HF.out
  rw [pg] at hf
  clear HF
  have HR := aS hf
  clear hf
  by_cases h : i < s.size
  ·have c0 : decide ((i : Int) < s.size) = true := d_T (by omega)
   have hf := HR.out
   rw [if_pos (by omega)] at hf
   clear HR
   have HT := aS (fun h => @tag_ok s i h)
   generalize hT : getTag s i = T at *
   by_cases h1 : T.2.2 = 0
   ·rw [if_pos h1] at hf
    have e1 : (T.2.2 != 0) = false := bne_eq_false_iff_eq.mpr h1
    obtain ⟨t1,t2,t3⟩ := HT.out h1
    have HL := aS (fun h => @len_ok s T.2.1 h)
    generalize hL : getLen s T.2.1 = L at *
    by_cases h2 : L.2.2 = 0
    ·rw [if_pos h2] at hf
     have e2 : (L.2.2 != 0) = false := bne_eq_false_iff_eq.mpr h2
     obtain ⟨l1,l2,l3,l4⟩ := HL.out h2
     by_cases h3 : (s.size : Int) - L.2.1 < L.1
     ·have e3 : decide ((s.size : Int) - L.2.1 < L.1) = true := d_T h3
      rw [if_pos h3] at hf
      have HR := aS hf
      clear hf
      go_wp2_with (first | (go_at_call 168;refine (tag_Get.at _ _ _ hs0).mono ?_;rintro e w1 ⟨rfl,rfl⟩;rw [hT]) | (go_at_call 169;refine (ber_Get.at _ _ _ hs0).mono ?_;rintro e w1 ⟨rfl,rfl⟩;rw [hL]))
      go_ret3
      exact ⟨⟨_,by rw [← HR.out];rfl⟩,HB.out⟩
     ·have e3 : decide ((s.size : Int) - L.2.1 < L.1) = false := d_F h3
      rw [if_neg h3] at hf
      obtain ⟨f,hm,hmem⟩ := HS.out
      have HFm := aS hm
      have HA1 := aS hmem
      have HWF : Aside0 ((Lit.int .i64 T.1).wf = true) := ⟨wf_tag t1.1 t1.2⟩
      have HKY : Aside0 (keyOf prog 3 (.int .i64 T.1) = some (Lit.int .i64 T.1)) := ⟨Go.Maps.keyOf_int_mk underlying3 HWF.out⟩
      have hl := HFm.out.lookup law3 underlying229 underlying4 (zero4 _) HKY.out
      clear hm hmem
      by_cases h4 : T.1 ∈ xs.map S225.f0
      ·rw [if_pos h4] at hf
       rw [HA1.out T.1,d_T h4] at hl
       have HR := aS hf
       clear hf h4
       go_wp2_with (first | (go_at_call 168;refine (tag_Get.at _ _ _ hs0).mono ?_;rintro e w1 ⟨rfl,rfl⟩;rw [hT]) | (go_at_call 169;refine (ber_Get.at _ _ _ hs0).mono ?_;rintro e w1 ⟨rfl,rfl⟩;rw [hL]))
       go_ret3
       exact ⟨⟨_,by rw [← HR.out];rfl⟩,HB.out⟩
      ·rw [if_neg h4] at hf
       rw [HA1.out T.1,d_F h4] at hl
       have HR := aS hf
       have H4 := aS h4
       clear hf h4
       have p1 : (0 ≤ L.2.1) = True := eq_true (by omega)
       have p2 : (L.2.1 ≤ L.2.1 + L.1) = True := eq_true (by omega)
       have p3 : (L.2.1 + L.1 ≤ (s.size : Int)) = True := eq_true (by omega)
       have HX : Aside0 (xs.length < maxLen) := ⟨by unfold maxLen;omega⟩
       have HY : Aside0 (xs.length < 5864062014805) := ⟨by omega⟩
       go_wp2_with (first | (go_at_call 168;refine (tag_Get.at _ _ _ hs0).mono ?_;rintro e w1 ⟨rfl,rfl⟩;rw [hT]) | (go_at_call 169;refine (ber_Get.at _ _ _ hs0).mono ?_;rintro e w1 ⟨rfl,rfl⟩;rw [hL]) | (at_mapUpdate;refine Go.Proofs.YtgbmnpgaddhfpaaGreatDoor.G.wp_seen_put (P := prog) (K := 3) (E := 4) _ rfl _ _ _ 229 rfl law3 underlying229 underlying4 _ xs.length f rfl HFm.out HX.out _ _ rfl rfl HKY.out (by exact trivial) ?_;intro wm hs1 hgr;have n0_ := aS (Below.grown HB.out hgr (below_size HB.out) (fun k hk => by cases hk;exact Nat.le_refl _));have n1_ := aS (Kd.R_grown HO.out hgr (fun k hk e => hk (by injection e)));have HS1 := aS hs1;clear HB HO;have HB := n0_;have HO := n1_;clear n0_ n1_ hs1 hgr) | ((with_reducible refine gate_builtin (b := .append) (xs := #[.tmp 57,.tmp 66]) rfl ?_);at_builtin;refine Kd.R_append k225 (w0 := w) w.heap.size rfl (.tmp 57) (.tmp 66) 191 225 (.agg #[(.int .i64 0),(.string ⟨#[]⟩)]) 24 rfl underlying191 info225 rfl (by decide) (by omega) u5 xs (⟨T.1,s.extract L.2.1.toNat (L.2.1 + L.1).toNat⟩ : S225) [.int .i64 T.1,.string (s.extract L.2.1.toNat (L.2.1 + L.1).toNat)] (fun k_ => k_ ≠ w.heap.size) (fun _ => False) rfl rfl ?aP (fun _ hk => hk.elim) ?aF ?aO ?aB ?aS ?aL ?_;(case aP => exact k225_mkM _ _ _ (⟨T.1,s.extract L.2.1.toNat (L.2.1 + L.1).toNat⟩ : S225));(case aB => exact (by repeat (first | exact HB.out | apply b_l)));(case aF => exact (fun k_ hk_ => by have := HS1.out.lt;omega));(case aO => exact (by (with_reducible repeat (first | apply Kd.R_alloc | apply Kd.R_drewN | apply Kd.R_drew));exact HO.out));(case aS => exact (below_size (by repeat (first | exact HB.out | apply b_l))));(case aL => have := HY.out;omega);intro v130 w13 ho hb hgr hat;have n0_ := aS (hb);have n1_ := aS (ho);have n2_ := aS (Go.Proofs.YtgbmnpgaddhfpaaGreatDoor.G.Seen.grown HS1.out hgr (Kd.R_away HO.out (fun k hk => hk)));clear HB;clear HO;have HB := n0_;have HO2 := n1_;have HS2 := n2_;clear n0_ n1_ n2_;clear ho hb hgr hat))
       go_roundg g
       case measure => omega
       case rel =>
        refine ⟨xs ++ [⟨T.1,s.extract L.2.1.toNat (L.2.1 + L.1).toNat⟩],(L.2.1 + L.1).toNat,?_,by omega,by omega,by rw [List.length_append,List.length_singleton];omega,⟨?_⟩,HO2,HB,⟨?_⟩,⟨?_⟩⟩
        ·rw [Int.toNat_of_nonneg (by omega)]
        ·rw [Int.toNat_of_nonneg (by omega)]
         exact HR.out
        ·refine ⟨Go.Proofs.YtgbmnpgaddhfpaaGreatDoor.G.more (Lit.int .i64 T.1) f,?_,fun y => ?_⟩
         ·rw [List.length_append];exact HS2.out
         ·by_cases e : y = T.1
          ·subst e
           rw [Go.Proofs.YtgbmnpgaddhfpaaGreatDoor.G.more_same]
           simp
          ·rw [Go.Proofs.YtgbmnpgaddhfpaaGreatDoor.G.more_other _ (by intro c;cases c;exact e rfl),HA1.out y]
           simp [e]
        ·intro p hp
         rcases List.mem_append.1 hp with hp | hp
         ·exact HW.out p hp
         ·rw [List.mem_singleton.1 hp]
          exact HWF.out
    ·rw [if_neg h2] at hf
     have e2 : (L.2.2 != 0) = true := bne_iff_ne.mpr h2
     have HR := aS hf
     clear hf
     go_wp2_with (first | (go_at_call 168;refine (tag_Get.at _ _ _ hs0).mono ?_;rintro e w1 ⟨rfl,rfl⟩;rw [hT]) | (go_at_call 169;refine (ber_Get.at _ _ _ hs0).mono ?_;rintro e w1 ⟨rfl,rfl⟩;rw [hL]))
     go_ret3
     exact ⟨⟨_,by rw [← HR.out];rfl⟩,HB.out⟩
   ·have e1 : (T.2.2 != 0) = true := bne_iff_ne.mpr h1
    rw [if_neg h1] at hf
    have HR := aS hf
    clear hf
    go_wp2_with (first | (go_at_call 168;refine (tag_Get.at _ _ _ hs0).mono ?_;rintro e w1 ⟨rfl,rfl⟩;rw [hT]))
    go_ret3
    exact ⟨⟨_,by rw [← HR.out];rfl⟩,HB.out⟩
  ·have c0 : decide ((i : Int) < s.size) = false := d_F (by omega)
   have hf := HR.out
   rw [if_neg (by omega)] at hf
   clear HR
   have HR := aS hf
   clear hf
   go_wp2
   go_ret3
   exact ⟨⟨_,by rw [← HR.out];rfl⟩,HB.out⟩
end Go.Proofs.YtgbmnpgaddhfpaaGreatDoor.T
namespace Go.Proofs.YtgbmnpgaddhfpaaGreatDoor.T
open Go.RowKit Go.Proofs.YtgbmnpgaddhfpaaGreatDoorW.PrintWords Go.Proofs.YtgbmnpgaddhfpaaGreatDoorW.PrintLast Go.Proofs.YtgbmnpgaddhfpaaGreatDoorW.PrintMore
attribute [local go_sem] max2_int min2_int max_two min_two
open Tryz
set_option maxRecDepth 100000
def scF : List S87 → Int → Int → Int × Int
 | [],_,_ => (0,0)
 | x :: xs,prev,i => if specCheck x ≠ 0 then (specCheck x,i) else if 0 < i ∧ x.f0 ≤ prev then (11,i) else scF xs x.f0 (i + 1)
def schemaCheck (st ver : Int) (l : List S87) : Int × Int := if st ≠ 1 ∧ st ≠ 2 then (1,-1) else if ver < 0 ∨ ver > 9 then (7,-1) else scF l 0 0
def prevNo (l : List S87) (i : Nat) : Int := if i = 0 then 0 else (rd_T87 l ((i - 1 : Nat) : Int)).f0
set_option maxHeartbeats 2000000 in
theorem schema_Check.at (st ver : Int) (A : Option Addr) (c : Nat) (l : List S87) (w : World) (hl : l.length ≤ 4611686018427387904) (hr : Kd.C k87 w A l.length l) (hc : l.length ≤ c) :
  Calls prog 32 #[.agg #[.int .i64 st,.int .i64 ver,.slice A l.length c]] w fun e w' => e = .returned (.tuple #[.int .i64 (schemaCheck st ver l).1,.int .i64 (schemaCheck st ver l).2]) ∧ Below w.heap.size w w' := by
 have hu24 := underlying24
 have hu87 := underlying87
 have HR := aS hr
 have HC := aS hc
 clear hr hc
 unfold schemaCheck
 by_cases c1 : st ≠ 1 ∧ st ≠ 2
 ·rw [if_pos c1]
  have d1 : (st != 1) = true := bne_iff_ne.mpr c1.1
  have d2 : (st != 2) = true := bne_iff_ne.mpr c1.2
  go_enter func32,ntmps32
  go_wp2
  go_ret2
  exact ⟨rfl,b_l (Below.refl _ _) _⟩
 rw [if_neg c1]
 have hst : st = 1 ∨ st = 2 := by omega
 clear c1
 by_cases c2 : ver < 0 ∨ ver > 9
 ·rw [if_pos c2]
  have hv : (decide (ver < 0) = true) ∨ (decide (ver < 0) = false ∧ decide (9 < ver) = true) := by simp only [decide_eq_true_eq,decide_eq_false_iff_not];omega
  rcases hst with rfl | rfl
  all_goals rcases hv with v1 | ⟨v1,v2⟩
  all_goals clear c2
  all_goals go_enter func32,ntmps32
  all_goals go_wp2
  all_goals go_ret2
  all_goals exact ⟨rfl,b_l (Below.refl _ _) _⟩
 rw [if_neg c2]
 have v1 : decide (ver < 0) = false := d_F (by omega)
 have v2 : decide (9 < ver) = false := d_F (by omega)
 clear c2
 rcases hst with rfl | rfl
 all_goals
  go_enter func32,ntmps32
  go_wp2
  generalize hw1 : w.alloc _ = w1
  have HB1 : Aside0 (Below w.heap.size w w1) := ⟨by rw [← hw1];exact b_l (Below.refl _ _) _⟩
  have HBK : Aside0 (∃ s,w1.heap[w.heap.size]? = some (.cells #[.int .i64 s,.int .i64 ver,.slice A l.length c] 24 (0,0))) := ⟨⟨_,by rw [← hw1];exact blk_new _ _⟩⟩
  clear hw1
  go_loopg [28] l.length (fun g v28 w' => ∃ i : Nat,v28 = .int .i64 i ∧ i + g = l.length ∧ Aside0 (scF (l.drop i) (prevNo l i) i = scF l 0 0) ∧ Aside0 (Below w1.heap.size w1 w'))
  case atStart => exact ⟨0,rfl,Nat.zero_add _,⟨rfl⟩,⟨Below.refl _ _⟩⟩
  case round =>
   obtain ⟨i,rfl,hi,HF,HB⟩ := hrel
   have HBW : Aside0 (Below w.heap.size w wr) := ⟨b_s HB1.out HB.out⟩
   obtain ⟨sv,hbk⟩ := HBK.out
   have HBR := aS ((HB.out.block _ (blk_lt hbk)).trans hbk)
   clear hbk
   by_cases h : i < l.length
   ·have c0 : decide ((i : Int) < l.length) = true := d_T (by omega)
    obtain ⟨ad,rfl,hx0,hx1,hx2,hx3,hx4⟩ := at87 HR.out HBW.out i h
    have p : (0 ≤ (i : Int)) = True := eq_true (by omega)
    have q : ((i : Int) < l.length) = True := eq_true (by omega)
    have hf := HF.out
    rw [drop87 h,scF] at hf
    have HP : Aside0 (prevNo l (i + 1) = (rd_T87 l (i : Int)).f0) := ⟨by unfold prevNo;rw [if_neg (Nat.succ_ne_zero i)];rfl⟩
    have hy : 0 < i → ∀ o,(wr.alloc o).cell? (ad.add ((i - 1) * 5)) = some (.int .i64 (prevNo l i)) := fun hi o => by
     obtain ⟨ad',h,h0,_⟩ := at87 HR.out (b_l HBW.out o) (i - 1) (by omega)
     cases h
     rw [h0,prevNo,if_neg (by omega)]
    clear HF
    generalize rd_T87 l (i : Int) = x at *
    by_cases e : specCheck x = 0
    ·rw [if_neg (by rw [e];decide)] at hf
     have e0 : (specCheck x != 0) = false := bne_eq_false_iff_eq.mpr e
     by_cases hz : i = 0
     ·have d1 : decide (0 < i) = false := d_F (by omega)
      rw [if_neg (by omega)] at hf
      have HF := aS hf
      clear hf hz hy
      go_wp2_with (first | (go_at_call 77;refine (spec_Check.at x _).mono ?_;rintro e w2 ⟨rfl,hb⟩;have hc := below_cells hb))
      go_quiet (fail)
      go_wp2
      obtain ⟨g,rfl⟩ : ∃ g,gk = g + 1 := ⟨gk - 1,by omega⟩
      go_roundg g
      case rel => exact ⟨i + 1,rfl,by omega,⟨by rw [HP.out];exact HF.out⟩,⟨below_drewN' (below_then HB.out HB.out.size (b_s (bO _) hb))⟩⟩
      case measure => omega
     obtain ⟨j,rfl⟩ : ∃ j,i = j + 1 := ⟨i - 1,by omega⟩
     replace hy := hy (Nat.succ_pos j)
     simp only [Nat.add_sub_cancel] at hy
     have p2 : (0 ≤ (j : Int)) = True := eq_true (by omega)
     have q2 : ((j : Int) < l.length) = True := eq_true (by omega)
     have d1 : decide (0 < j + 1) = true := d_T (by omega)
     have hbx : ∀ o,(wr.alloc o).cell? ⟨w.heap.size,2,none⟩ = some (.slice (some ad) l.length c) := fun o => blk_cell (blk_alloc HBR.out o) 2
     have d3 : decide (0 < (j : Int) + 1) = true := d_T (by omega)
     generalize prevNo l (j + 1) = y at *
     clear hz
     by_cases o : x.f0 ≤ y
     ·rw [if_pos ⟨by omega,o⟩] at hf
      have HF := aS hf
      clear hf
      have o1 : decide (x.f0 ≤ y) = true := d_T o
      go_wp2_with (first | (go_at_call 77;refine (spec_Check.at x _).mono ?_;rintro e w2 ⟨rfl,hb⟩;have hc := below_cells hb))
      go_quiet (fail)
      go_wp2
      go_ret2
      exact ⟨by rw [← HF.out];rfl,below_drewN' (b_s (b_l HBW.out _) hb)⟩
     ·rw [if_neg (fun c => o c.2)] at hf
      have HF := aS hf
      clear hf
      have o1 : decide (x.f0 ≤ y) = false := d_F o
      go_wp2_with (first | (go_at_call 77;refine (spec_Check.at x _).mono ?_;rintro e w2 ⟨rfl,hb⟩;have hc := below_cells hb))
      go_quiet (fail)
      go_wp2
      obtain ⟨g,rfl⟩ : ∃ g,gk = g + 1 := ⟨gk - 1,by omega⟩
      go_roundg g
      case rel => exact ⟨j + 1 + 1,rfl,by omega,⟨by rw [HP.out];exact HF.out⟩,⟨below_drewN' (below_then HB.out HB.out.size (b_s (bO _) hb))⟩⟩
      case measure => omega
    ·rw [if_pos e] at hf
     have HF := aS hf
     clear hf hy
     have e0 : (specCheck x != 0) = true := bne_iff_ne.mpr e
     go_wp2_with (first | (go_at_call 77;refine (spec_Check.at x _).mono ?_;rintro e w2 ⟨rfl,hb⟩;have hc := below_cells hb))
     go_ret2
     exact ⟨by rw [← HF.out];rfl,b_s (b_l HBW.out _) hb⟩
   ·have c0 : decide ((i : Int) < l.length) = false := d_F (by omega)
    have hf := HF.out
    rw [List.drop_of_length_le (by omega),scF] at hf
    clear HF
    have HF := aS hf
    clear hf
    go_wp2
    go_ret2
    exact ⟨by rw [← HF.out];rfl,HBW.out⟩
end Go.Proofs.YtgbmnpgaddhfpaaGreatDoor.T
namespace Go.Proofs.YtgbmnpgaddhfpaaGreatDoor.T
open Go.RowKit Go.Proofs.YtgbmnpgaddhfpaaGreatDoorW.PrintWords Go.Proofs.YtgbmnpgaddhfpaaGreatDoorW.PrintLast Go.Proofs.YtgbmnpgaddhfpaaGreatDoorW.PrintMore
attribute [local go_sem] max2_int min2_int max_two min_two
open Go.Proofs.YtgbmnpgaddhfpaaGreatDoor.G
open Tryz
set_option maxRecDepth 100000
def cells8 (t : ByteArray) : Array Value := #[.int .u8 (bt t 0),.int .u8 (bt t 1),.int .u8 (bt t 2),.int .u8 (bt t 3),.int .u8 (bt t 4),.int .u8 (bt t 5),.int .u8 (bt t 6),.int .u8 (bt t 7)]
def orB (x b : Int) : Int := Go.bits .or .u64 (IntKind.u64.wrap (x * 256)) b
def bitsAt (t : ByteArray) (i : Nat) : Int := (([0,1,2,3,4,5,6,7] : List Int).take i).foldl (fun x j => orB x (bt t j)) 0
theorem idx8_0 (t : ByteArray) (W : World) : (Instr.index 154 (.agg (cells8 t)) (.int .i64 0)).run prog W = .ok (.int .u8 (bt t 0)) W := by kernel_rfl
theorem idx8_1 (t : ByteArray) (W : World) : (Instr.index 154 (.agg (cells8 t)) (.int .i64 1)).run prog W = .ok (.int .u8 (bt t 1)) W := by kernel_rfl
theorem idx8_2 (t : ByteArray) (W : World) : (Instr.index 154 (.agg (cells8 t)) (.int .i64 2)).run prog W = .ok (.int .u8 (bt t 2)) W := by kernel_rfl
theorem idx8_3 (t : ByteArray) (W : World) : (Instr.index 154 (.agg (cells8 t)) (.int .i64 3)).run prog W = .ok (.int .u8 (bt t 3)) W := by kernel_rfl
theorem idx8_4 (t : ByteArray) (W : World) : (Instr.index 154 (.agg (cells8 t)) (.int .i64 4)).run prog W = .ok (.int .u8 (bt t 4)) W := by kernel_rfl
theorem idx8_5 (t : ByteArray) (W : World) : (Instr.index 154 (.agg (cells8 t)) (.int .i64 5)).run prog W = .ok (.int .u8 (bt t 5)) W := by kernel_rfl
theorem idx8_6 (t : ByteArray) (W : World) : (Instr.index 154 (.agg (cells8 t)) (.int .i64 6)).run prog W = .ok (.int .u8 (bt t 6)) W := by kernel_rfl
theorem idx8_7 (t : ByteArray) (W : World) : (Instr.index 154 (.agg (cells8 t)) (.int .i64 7)).run prog W = .ok (.int .u8 (bt t 7)) W := by kernel_rfl
set_option maxHeartbeats 1000000 in
theorem bitmap_bits.at (t : ByteArray) (w : World) : Calls prog 83 #[.agg (cells8 t)] w fun e w' => e = .returned (.int .u64 (bitsAt t 8)) ∧ Below w.heap.size w w' := by
 have hu := underlying154
 have x0 := idx8_0 t
 have x1 := idx8_1 t
 have x2 := idx8_2 t
 have x3 := idx8_3 t
 have x4 := idx8_4 t
 have x5 := idx8_5 t
 have x6 := idx8_6 t
 have x7 := idx8_7 t
 unfold cells8
 unfold cells8 at x0 x1 x2 x3 x4 x5 x6 x7
 go_enter func83,ntmps83
 go_wp2
 go_loopg [3,7] 8 (fun g v3 v7 w' => ∃ i : Nat,v7 = .int .i64 i ∧ i + g = 8 ∧ v3 = .int .u64 (bitsAt t i) ∧ Below w.heap.size w w')
 case atStart => exact ⟨0,rfl,rfl,rfl,b_l (Below.refl _ _) _⟩
 case round =>
  obtain ⟨i,rfl,hi,rfl,HB⟩ := hrel
  replace HB := aS HB
  by_cases h : i < 8
  ·obtain ⟨g,rfl⟩ : ∃ g,gk = g + 1 := ⟨gk - 1,by omega⟩
   obtain ⟨y,hy⟩ : ∃ y,bitsAt t i = y := ⟨_,rfl⟩
   rw [hy]
   rcases (show i = 0 ∨ i = 1 ∨ i = 2 ∨ i = 3 ∨ i = 4 ∨ i = 5 ∨ i = 6 ∨ i = 7 by omega) with rfl | rfl | rfl | rfl | rfl | rfl | rfl | rfl
   ·have hs : Aside0 (bitsAt t (0 + 1) = orB y (bt t 0)) := ⟨by rw [← hy];rfl⟩
    have hr := bt_range t 0
    have e1 : IntKind.u64.wrap (bt t 0) = bt t 0 := by rw [IntKind.wrap_u64];omega
    clear hy
    go_wp2
    go_roundg g
    case rel => exact ⟨0 + 1,rfl,by omega,by rw [hs.out];rfl,HB.out⟩
    case measure => omega
   ·have hs : Aside0 (bitsAt t (1 + 1) = orB y (bt t 1)) := ⟨by rw [← hy];rfl⟩
    have hr := bt_range t 1
    have e1 : IntKind.u64.wrap (bt t 1) = bt t 1 := by rw [IntKind.wrap_u64];omega
    clear hy
    go_wp2
    go_roundg g
    case rel => exact ⟨1 + 1,rfl,by omega,by rw [hs.out];rfl,HB.out⟩
    case measure => omega
   ·have hs : Aside0 (bitsAt t (2 + 1) = orB y (bt t 2)) := ⟨by rw [← hy];rfl⟩
    have hr := bt_range t 2
    have e1 : IntKind.u64.wrap (bt t 2) = bt t 2 := by rw [IntKind.wrap_u64];omega
    clear hy
    go_wp2
    go_roundg g
    case rel => exact ⟨2 + 1,rfl,by omega,by rw [hs.out];rfl,HB.out⟩
    case measure => omega
   ·have hs : Aside0 (bitsAt t (3 + 1) = orB y (bt t 3)) := ⟨by rw [← hy];rfl⟩
    have hr := bt_range t 3
    have e1 : IntKind.u64.wrap (bt t 3) = bt t 3 := by rw [IntKind.wrap_u64];omega
    clear hy
    go_wp2
    go_roundg g
    case rel => exact ⟨3 + 1,rfl,by omega,by rw [hs.out];rfl,HB.out⟩
    case measure => omega
   ·have hs : Aside0 (bitsAt t (4 + 1) = orB y (bt t 4)) := ⟨by rw [← hy];rfl⟩
    have hr := bt_range t 4
    have e1 : IntKind.u64.wrap (bt t 4) = bt t 4 := by rw [IntKind.wrap_u64];omega
    clear hy
    go_wp2
    go_roundg g
    case rel => exact ⟨4 + 1,rfl,by omega,by rw [hs.out];rfl,HB.out⟩
    case measure => omega
   ·have hs : Aside0 (bitsAt t (5 + 1) = orB y (bt t 5)) := ⟨by rw [← hy];rfl⟩
    have hr := bt_range t 5
    have e1 : IntKind.u64.wrap (bt t 5) = bt t 5 := by rw [IntKind.wrap_u64];omega
    clear hy
    go_wp2
    go_roundg g
    case rel => exact ⟨5 + 1,rfl,by omega,by rw [hs.out];rfl,HB.out⟩
    case measure => omega
   ·have hs : Aside0 (bitsAt t (6 + 1) = orB y (bt t 6)) := ⟨by rw [← hy];rfl⟩
    have hr := bt_range t 6
    have e1 : IntKind.u64.wrap (bt t 6) = bt t 6 := by rw [IntKind.wrap_u64];omega
    clear hy
    go_wp2
    go_roundg g
    case rel => exact ⟨6 + 1,rfl,by omega,by rw [hs.out];rfl,HB.out⟩
    case measure => omega
   ·have hs : Aside0 (bitsAt t (7 + 1) = orB y (bt t 7)) := ⟨by rw [← hy];rfl⟩
    have hr := bt_range t 7
    have e1 : IntKind.u64.wrap (bt t 7) = bt t 7 := by rw [IntKind.wrap_u64];omega
    clear hy
    go_wp2
    go_roundg g
    case rel => exact ⟨7 + 1,rfl,by omega,by rw [hs.out];rfl,HB.out⟩
    case measure => omega
  ·obtain rfl : i = 8 := by omega
   go_wp2
   go_ret
   exact ⟨rfl,HB.out⟩
theorem list8 {t : ByteArray} (h : t.size = 8) : t.data.toList.map (fun x => Value.int .u8 (x.toNat : Int)) = (cells8 t).toList := by
 have hl : t.data.toList.length = 8 := by rw [data_length];exact h
 obtain ⟨a0,a1,a2,a3,a4,a5,a6,a7,e⟩ : ∃ a0 a1 a2 a3 a4 a5 a6 a7,t.data.toList = [a0,a1,a2,a3,a4,a5,a6,a7] := by
  revert hl
  generalize t.data.toList = l
  intro hl
  match l,hl with
  | [a0,a1,a2,a3,a4,a5,a6,a7],_ => exact ⟨a0,a1,a2,a3,a4,a5,a6,a7,rfl⟩
 have hb : ∀ i : Nat,bt t (i : Int) = ((t.data.toList[i]?.getD 0).toNat : Int) := bt_data t
 have h0 := hb 0
 have h1 := hb 1
 have h2 := hb 2
 have h3 := hb 3
 have h4 := hb 4
 have h5 := hb 5
 have h6 := hb 6
 have h7 := hb 7
 rw [e] at h0 h1 h2 h3 h4 h5 h6 h7
 rw [e]
 show _ = [Value.int .u8 (bt t ((0 : Nat) : Int)),.int .u8 (bt t ((1 : Nat) : Int)),.int .u8 (bt t ((2 : Nat) : Int)),.int .u8 (bt t ((3 : Nat) : Int)),.int .u8 (bt t ((4 : Nat) : Int)),.int .u8 (bt t ((5 : Nat) : Int)),.int .u8 (bt t ((6 : Nat) : Int)),.int .u8 (bt t ((7 : Nat) : Int))]
 rw [h0,h1,h2,h3,h4,h5,h6,h7]
 rfl
theorem wp_copy8 {ops : Array Oper} {rest : List Oper} {o : Oper} {a : Act} {Q : Exit → Act → World → Prop} {w w0 : World} {B : Nat} (hgd : o.guard = none) (d s : Operand) (ho : o.op = .call { callee := .builtin .copy,args := #[d,s],argTypes := #[101,9] })
  (g : Nat) (hd : a.eval d = .slice (some ⟨g,0,none⟩) 8 8) (t : ByteArray) (hs : a.eval s = .string t) (hsz : t.size = 8) (cur : Array Value) (hcur : cur.size = 8) (hg : w.heap[g]? = some (.cells cur 154 (0,0))) (hb : Below B w0 w) (hBg : B ≤ g)
  (h : ∀ w',w'.heap[g]? = some (.cells (cells8 t) 154 (0,0)) → (∀ k,k ≠ g → w'.heap[k]? = w.heap[k]?) → Below B w0 w' → wpList prog ops Q rest (a.put o.dst (goInt 8)) w') : wpList prog ops Q (o :: rest) a w := by
 refine wpList_plain hgd fun K hK => ?_
 have hrun := Go.Lib.run_copy_row_string (P := prog) w 101 9 o.type 5 g 0 8 8 t cur 154 underlying101 (by kernel_rfl) hg (by omega) (by omega)
 have hcells : (cur.toList.take 0 ++ Go.Lib.byteCells t.data.toList ++ cur.toList.drop (0 + t.size)).toArray = cells8 t := by
  rw [List.take_zero,List.nil_append,List.drop_of_length_le (by rw [Array.length_toList];omega),List.append_nil]
  have := list8 hsz
  unfold Go.Lib.byteCells
  rw [this]
 rw [hcells,hsz] at hrun
 unfold Oper.wp
 simp [execOp,ho,resolve,invoke,builtin,hd,hs,hrun,Result.andThen]
 exact hK _ _ (h _ (setRow_heap w g _ _ 154 _ hg) (fun k hk => setRow_other w g k _ hk) (below_setRow hb hBg _))
theorem put8 {w : World} {g : Nat} {t : TypeId} {u0 u1 u2 u3 u4 u5 u6 u7 v0 v1 v2 v3 v4 v5 v6 v7 : Value} (h : w.heap[g]? = some (.cells #[u0,u1,u2,u3,u4,u5,u6,u7] t (0,0))) :
  ((((((((w.setCell ⟨g,0,none⟩ v0).setCell ⟨g,1,none⟩ v1).setCell ⟨g,2,none⟩ v2).setCell ⟨g,3,none⟩ v3).setCell ⟨g,4,none⟩ v4).setCell ⟨g,5,none⟩ v5).setCell ⟨g,6,none⟩ v6).setCell ⟨g,7,none⟩ v7).heap[g]? = some (.cells #[v0,v1,v2,v3,v4,v5,v6,v7] t (0,0)) := by
 have h0 : (w.setCell ⟨g,0,none⟩ v0).heap[g]? = some (.cells #[v0,u1,u2,u3,u4,u5,u6,u7] t (0,0)) := blk_put h 0 _ rfl
 have h1 : ((w.setCell ⟨g,0,none⟩ v0).setCell ⟨g,1,none⟩ v1).heap[g]? = some (.cells #[v0,v1,u2,u3,u4,u5,u6,u7] t (0,0)) := blk_put h0 1 _ rfl
 have h2 : (((w.setCell ⟨g,0,none⟩ v0).setCell ⟨g,1,none⟩ v1).setCell ⟨g,2,none⟩ v2).heap[g]? = some (.cells #[v0,v1,v2,u3,u4,u5,u6,u7] t (0,0)) := blk_put h1 2 _ rfl
 have h3 : ((((w.setCell ⟨g,0,none⟩ v0).setCell ⟨g,1,none⟩ v1).setCell ⟨g,2,none⟩ v2).setCell ⟨g,3,none⟩ v3).heap[g]? = some (.cells #[v0,v1,v2,v3,u4,u5,u6,u7] t (0,0)) := blk_put h2 3 _ rfl
 have h4 : (((((w.setCell ⟨g,0,none⟩ v0).setCell ⟨g,1,none⟩ v1).setCell ⟨g,2,none⟩ v2).setCell ⟨g,3,none⟩ v3).setCell ⟨g,4,none⟩ v4).heap[g]? = some (.cells #[v0,v1,v2,v3,v4,u5,u6,u7] t (0,0)) := blk_put h3 4 _ rfl
 have h5 : ((((((w.setCell ⟨g,0,none⟩ v0).setCell ⟨g,1,none⟩ v1).setCell ⟨g,2,none⟩ v2).setCell ⟨g,3,none⟩ v3).setCell ⟨g,4,none⟩ v4).setCell ⟨g,5,none⟩ v5).heap[g]? = some (.cells #[v0,v1,v2,v3,v4,v5,u6,u7] t (0,0)) := blk_put h4 5 _ rfl
 have h6 : (((((((w.setCell ⟨g,0,none⟩ v0).setCell ⟨g,1,none⟩ v1).setCell ⟨g,2,none⟩ v2).setCell ⟨g,3,none⟩ v3).setCell ⟨g,4,none⟩ v4).setCell ⟨g,5,none⟩ v5).setCell ⟨g,6,none⟩ v6).heap[g]? = some (.cells #[v0,v1,v2,v3,v4,v5,v6,u7] t (0,0)) := blk_put h5 6 _ rfl
 have h7 : ((((((((w.setCell ⟨g,0,none⟩ v0).setCell ⟨g,1,none⟩ v1).setCell ⟨g,2,none⟩ v2).setCell ⟨g,3,none⟩ v3).setCell ⟨g,4,none⟩ v4).setCell ⟨g,5,none⟩ v5).setCell ⟨g,6,none⟩ v6).setCell ⟨g,7,none⟩ v7).heap[g]? = some (.cells #[v0,v1,v2,v3,v4,v5,v6,v7] t (0,0)) := blk_put h6 7 _ rfl
 exact h7
theorem below8 {B : Nat} {w0 w : World} {g : Nat} {v0 v1 v2 v3 v4 v5 v6 v7 : Value} (h : Below B w0 w) (hg : B ≤ g) :
  Below B w0 ((((((((w.setCell ⟨g,0,none⟩ v0).setCell ⟨g,1,none⟩ v1).setCell ⟨g,2,none⟩ v2).setCell ⟨g,3,none⟩ v3).setCell ⟨g,4,none⟩ v4).setCell ⟨g,5,none⟩ v5).setCell ⟨g,6,none⟩ v6).setCell ⟨g,7,none⟩ v7) :=
 (((((((h.setCell (p := ⟨g,0,none⟩) hg _).setCell (p := ⟨g,1,none⟩) hg _).setCell (p := ⟨g,2,none⟩) hg _).setCell (p := ⟨g,3,none⟩) hg _).setCell (p := ⟨g,4,none⟩) hg _).setCell (p := ⟨g,5,none⟩) hg _).setCell (p := ⟨g,6,none⟩) hg _).setCell (p := ⟨g,7,none⟩) hg _
theorem cells_8 {w : World} {g : Nat} {t : TypeId} {v0 v1 v2 v3 v4 v5 v6 v7 : Value} (h : w.heap[g]? = some (.cells #[v0,v1,v2,v3,v4,v5,v6,v7] t (0,0))) : w.cell? ⟨g,0,none⟩ = some v0 ∧ w.cell? ⟨g,1,none⟩ = some v1 ∧ w.cell? ⟨g,2,none⟩ = some v2 ∧ w.cell? ⟨g,3,none⟩ = some v3 ∧ w.cell? ⟨g,4,none⟩ = some v4 ∧ w.cell? ⟨g,5,none⟩ = some v5 ∧ w.cell? ⟨g,6,none⟩ = some v6 ∧ w.cell? ⟨g,7,none⟩ = some v7 :=
 ⟨blk_cell h 0,blk_cell h 1,blk_cell h 2,blk_cell h 3,blk_cell h 4,blk_cell h 5,blk_cell h 6,blk_cell h 7⟩
theorem frozen_8 {w : World} {g : Nat} {t : TypeId} {cs : Array Value} (h : w.heap[g]? = some (.cells cs t (0,0))) : w.frozen? ⟨g,0,none⟩ = false ∧ w.frozen? ⟨g,1,none⟩ = false ∧ w.frozen? ⟨g,2,none⟩ = false ∧ w.frozen? ⟨g,3,none⟩ = false ∧ w.frozen? ⟨g,4,none⟩ = false ∧ w.frozen? ⟨g,5,none⟩ = false ∧ w.frozen? ⟨g,6,none⟩ = false ∧ w.frozen? ⟨g,7,none⟩ = false :=
 ⟨blk_frozen h 0,blk_frozen h 1,blk_frozen h 2,blk_frozen h 3,blk_frozen h 4,blk_frozen h 5,blk_frozen h 6,blk_frozen h 7⟩
theorem zero8 : (#[.int .u8 0,.int .u8 0,.int .u8 0,.int .u8 0,.int .u8 0,.int .u8 0,.int .u8 0,.int .u8 0] : Array Value) = cells8 ⟨#[]⟩ := by kernel_rfl
def shU (a : Int) (n : Int) : Int := IntKind.u64.wrap (a * 2 ^ n.toNat)
def lzS (m y : Int) : Int := m + (64 - (Lib.bitLen y.toNat : Int)) + 1
def nextS (p : Int × Int) (n : Int) : Int :=
 if n < 64 then if shU p.1 n ≠ 0 then lzS n (shU p.1 n) else if shU p.2 0 ≠ 0 then lzS 64 (shU p.2 0) else 0
 else if shU p.2 (n - 64) ≠ 0 then lzS n (shU p.2 (n - 64)) else 0
theorem bitLen_le64 (x : Nat) : Lib.bitLen x ≤ 64 := by
 have h : ∀ f y,Lib.bitLenAux f y ≤ f := by
  intro f
  induction f with
  | zero => intro y;simp [Lib.bitLenAux]
  | succ f ih =>
   intro y
   rw [Lib.bitLenAux]
   split
   ·omega
   ·have := ih (y / 2);omega
 exact h 64 x
theorem bitLen_pow : ∀ (k x : Nat),2 ^ k ≤ x → x < 2 ^ 64 → k + 1 ≤ Lib.bitLen x
 | 0,x,h,hx => by
  rw [Lib.bitLen_half x (by omega) hx]
  omega
 | k + 1,x,h,hx => by
  have h1 : 0 < 2 ^ k := Nat.pow_pos (by decide)
  rw [Nat.pow_succ] at h
  rw [Lib.bitLen_half x (by omega) hx]
  have := bitLen_pow k (x / 2) (by omega) (by omega)
  omega
theorem shU_eq (a n : Int) : shU a n = (a * 2 ^ n.toNat) % 18446744073709551616 := by
 unfold shU
 rw [IntKind.wrap_u64]
theorem shU_range (a n : Int) : 0 ≤ shU a n ∧ shU a n < 18446744073709551616 := by
 rw [shU_eq]
 omega
theorem shU_low {a : Int} {n : Nat} (hn : n ≤ 64) (h : shU a n ≠ 0) : 2 ^ n ≤ (shU a n).toNat := by
 have hr := shU_range a n
 have hd : (2 ^ n : Int) ∣ shU a n := by
  rw [shU_eq,Int.toNat_natCast]
  have h64 : (18446744073709551616 : Int) = 2 ^ n * 2 ^ (64 - n) := by rw [← Int.pow_add,show n + (64 - n) = 64 by omega];decide
  rw [Int.emod_def,h64,Int.mul_assoc]
  exact Int.dvd_sub (Int.dvd_mul_left _ _) (Int.dvd_mul_right _ _)
 have hle := Int.le_of_dvd (by omega) hd
 have : ((2 ^ n : Nat) : Int) = (2 ^ n : Int) := by simp
 omega
theorem nextS_range (p : Int × Int) (n : Int) (h0 : 0 ≤ n) (h1 : n ≤ 128) : nextS p n = 0 ∨ n < nextS p n ∧ nextS p n ≤ 128 := by
 unfold nextS lzS
 obtain ⟨m,rfl⟩ := Int.eq_ofNat_of_zero_le h0
 split
 ·split
  ·rename_i a b
   have h2 := bitLen_pow m _ (shU_low (by omega) b) (by have := shU_range p.1 m;omega)
   have h3 := bitLen_le64 (shU p.1 m).toNat
   exact .inr ⟨by omega,by omega⟩
  ·split
   ·rename_i a b c
    have h2 := bitLen_pow 0 _ (shU_low (n := 0) (by omega) c) (by have := shU_range p.2 (0 : Nat);omega)
    have h3 := bitLen_le64 (shU p.2 (0 : Nat)).toNat
    rw [show ((0 : Nat) : Int) = 0 from rfl] at h2 h3
    exact .inr ⟨by omega,by omega⟩
   ·exact .inl rfl
 ·split
  ·rename_i a b
   have e : ((m : Int) - 64) = ((m - 64 : Nat) : Int) := by omega
   rw [e] at b ⊢
   have h2 := bitLen_pow (m - 64) _ (shU_low (by omega) b) (by have := shU_range p.2 (m - 64 : Nat);omega)
   have h3 := bitLen_le64 (shU p.2 (m - 64 : Nat)).toNat
   exact .inr ⟨by omega,by omega⟩
  ·exact .inl rfl
set_option maxHeartbeats 1000000 in
theorem fields_Next.at (p : Int × Int) (n : Int) (w : World) (h0 : 0 ≤ n) (h1 : n ≤ 128) : Calls prog 35 #[vSet p,.int .i64 n] w fun e w' => e = .returned (.int .i64 (nextS p n)) ∧ Below w.heap.size w w' := by
 have hu82 := underlying82
 unfold vSet
 obtain ⟨r,hg⟩ : ∃ r,nextS p n = r := ⟨_,rfl⟩
 rw [hg]
 rw [nextS] at hg
 have m1 : (if n < 0 then 0 else n) = n := if_neg (by omega)
 have d0 : decide (n < 0) = false := d_F (by omega)
 by_cases c : n < 64
 ·have d1 : decide (n < 64) = true := d_T c
  rw [if_pos c] at hg
  obtain ⟨y,hy⟩ : ∃ y,shU p.1 n = y := ⟨_,rfl⟩
  obtain ⟨z,hz⟩ : ∃ z,shU p.2 0 = z := ⟨_,rfl⟩
  rw [hy,hz] at hg
  have hyr := shU_range p.1 n
  have hzr := shU_range p.2 0
  rw [hy] at hyr
  rw [hz] at hzr
  have y1 : IntKind.u64.wrap (p.1 * 2 ^ min n.toNat 64) = y := by rw [← hy,shU,Nat.min_eq_left (by omega)]
  have y2 : IntKind.u64.wrap (p.1 * 2 ^ n.toNat) = y := hy
  have z1 : IntKind.u64.wrap p.2 = z := by rw [← hz,shU];simp
  have by1 := bitLen_le64 y.toNat
  have bz1 := bitLen_le64 z.toNat
  have HG := aS hg
  clear hg hy hz c
  go_enter func35,ntmps35
  go_wp2_with (first | (go_at_call 85;refine (Tryz.bits_LeadingZeros64 _ _ (by omega) (by omega)).mono ?_;rintro e w1 ⟨rfl,rfl⟩))
  all_goals go_ret
  all_goals obtain rfl := HG.out
  all_goals refine ⟨ret_int ?_,b_l (Below.refl _ _) _⟩
  all_goals (repeat' split) <;> first | rfl | simp_all
 ·have d1 : decide (n < 64) = false := d_F c
  rw [if_neg c] at hg
  obtain ⟨y,hy⟩ : ∃ y,shU p.2 (n - 64) = y := ⟨_,rfl⟩
  rw [hy] at hg
  have hyr := shU_range p.2 (n - 64)
  rw [hy] at hyr
  have m2 : (if 64 < n - 64 then 64 else n - 64) = n - 64 := if_neg (by omega)
  have m3 : min (n - 64) 64 = n - 64 := by omega
  have d2 : decide (64 < n - 64) = false := d_F (by omega)
  have w1 : wrap64 (n - 64) = n - 64 := by unfold wrap64;omega
  have y1 : IntKind.u64.wrap (p.2 * 2 ^ min (n - 64).toNat 64) = y := by rw [← hy,shU,Nat.min_eq_left (by omega)]
  have y2 : IntKind.u64.wrap (p.2 * 2 ^ (n - 64).toNat) = y := hy
  have by1 := bitLen_le64 y.toNat
  have h2 : 0 ≤ n - 64 := by omega
  have h3 : 64 ≤ n := by omega
  have d3 : decide (n - 64 < 0) = false := d_F (by omega)
  have HG := aS hg
  clear hg hy c
  go_enter func35,ntmps35
  go_wp2_with (first | (go_at_call 85;refine (Tryz.bits_LeadingZeros64 _ _ (by omega) (by omega)).mono ?_;rintro e w1 ⟨rfl,rfl⟩))
  all_goals go_ret
  all_goals obtain rfl := HG.out
  all_goals refine ⟨ret_int ?_,b_l (Below.refl _ _) _⟩
  all_goals (repeat' split) <;> first | rfl | simp_all
def padS (t : ByteArray) (n : Int) : ByteArray × Bool :=
 if (t.size : Int) ≤ n then ((⟨(Lib.repeatL [48] (n - t.size).toNat).toArray⟩ : ByteArray) ++ t,true) else
 if (Lib.trimB (t.extract 0 ((t.size : Int) - n).toNat).data.toList 48) = [] then (t.extract ((t.size : Int) - n).toNat t.size,true) else (⟨#[]⟩,false)
theorem repeat_size (n : Nat) : (Lib.repeatL ([48] : List UInt8) n).length = n := by
 induction n with
 | zero => rfl
 | succ n ih => simp [Lib.repeatL,ih]
set_option maxHeartbeats 2000000 in
theorem digits_Pad.at (t : ByteArray) (n : Int) (w : World) (h1 : 1 ≤ t.size) (h2 : t.size ≤ 999) (hd : allD t = true) (hn : 1 ≤ n ∧ n ≤ 999) :
  Calls prog 99 #[.string t,.int .i64 n] w fun e w' => e = .returned (.tuple #[.string (padS t n).1,.bool (padS t n).2]) ∧ Below w.heap.size w w' := by
 have e0 : (t.toList == ([] : List UInt8)) = false := by
  rw [beq_eq_false_iff_ne,ne_eq,ByteArray.toList_eq,← List.length_eq_zero_iff,Array.length_toList]
  intro c
  have : t.size = t.data.size := rfl
  omega
 have e1 : decide (999 < (t.size : Int)) = false := d_F (by omega)
 have e2 : decide (n < 1) = false := d_F (by omega)
 have e3 : decide (999 < n) = false := d_F (by omega)
 obtain ⟨r,hg⟩ : ∃ r,padS t n = r := ⟨_,rfl⟩
 rw [hg]
 rw [padS] at hg
 by_cases c : (t.size : Int) ≤ n
 ·have e4 : decide ((t.size : Int) ≤ n) = true := d_T c
  obtain ⟨k,hk⟩ : ∃ k : Nat,n - t.size = (k : Int) := ⟨(n - t.size).toNat,by omega⟩
  rw [if_pos c,hk,Int.toNat_natCast] at hg
  have hk9 : k ≤ 999 := by omega
  have hz : (⟨(Lib.repeatL [48] k).toArray⟩ : ByteArray).size = k := by
   have := data_length (⟨(Lib.repeatL [48] k).toArray⟩ : ByteArray)
   rw [show (⟨(Lib.repeatL [48] k).toArray⟩ : ByteArray).data.toList = Lib.repeatL [48] k by simp,repeat_size] at this
   exact this.symm
  have HG := aS hg
  clear hg c
  go_enter func99,ntmps99
  go_wp2_with (first | (go_at_call 109;refine (digits_All.at _ _).mono ?_;rintro e w1 ⟨rfl,hb1⟩;rw [hd]) | (go_at_call 146;refine (Tryz.strings_Repeat ⟨#[48]⟩ k _ (by omega) (by show 1 * k ≤ _;omega)).mono ?_;rintro e w2 ⟨rfl,hb2⟩))
  go_ret2
  obtain rfl := HG.out
  exact ⟨rfl,b_s hb1 hb2⟩
 ·have e4 : decide ((t.size : Int) ≤ n) = false := d_F c
  obtain ⟨k,hk⟩ : ∃ k : Nat,(t.size : Int) - n = (k : Int) := ⟨((t.size : Int) - n).toNat,by omega⟩
  rw [if_neg c,hk,Int.toNat_natCast] at hg
  have p1 : ((k : Int) ≤ (t.size : Int)) = True := eq_true (by omega)
  have p2 : (k ≤ t.size) = True := eq_true (by omega)
  have p3 : (0 ≤ (k : Int)) = True := eq_true (by omega)
  have HZ : Aside0 ((t.extract 0 k).size ≤ 9223372036854775807) := ⟨by rw [ByteArray.size_extract];omega⟩
  obtain ⟨q,hq⟩ : ∃ q,Lib.trimB (t.extract 0 k).data.toList 48 = q := ⟨_,rfl⟩
  rw [hq] at hg
  have HG := aS hg
  clear hg c
  by_cases c2 : q = []
  ·have hnil : q.isEmpty = true := by rw [c2];rfl
   have HC2 := aS c2
   clear c2
   go_enter func99,ntmps99
   go_wp2_with (first | (go_at_call 109;refine (digits_All.at _ _).mono ?_;rintro e w1 ⟨rfl,hb1⟩;rw [hd]) | (go_at_call 147;refine (Tryz.strings_Trim_one _ 48 (by decide) _ HZ.out).mono ?_;rintro e w2 ⟨rfl,hb2⟩;rw [hq]))
   go_ret2
   have hr := HG.out
   rw [if_pos HC2.out] at hr
   obtain rfl := hr
   refine ⟨rfl,?_⟩
   rcases hb2 with rfl | rfl
   ·exact hb1
   ·exact below_drew1 hb1
  ·have hnil : q.isEmpty = false := by rw [Bool.eq_false_iff,ne_eq,List.isEmpty_iff];exact c2
   have HC2 := aS c2
   clear c2
   go_enter func99,ntmps99
   go_wp2_with (first | (go_at_call 109;refine (digits_All.at _ _).mono ?_;rintro e w1 ⟨rfl,hb1⟩;rw [hd]) | (go_at_call 147;refine (Tryz.strings_Trim_one _ 48 (by decide) _ HZ.out).mono ?_;rintro e w2 ⟨rfl,hb2⟩;rw [hq]))
   go_ret2
   have hr := HG.out
   rw [if_neg HC2.out] at hr
   obtain rfl := hr
   refine ⟨rfl,?_⟩
   rcases hb2 with rfl | rfl
   ·exact hb1
   ·exact below_drew1 hb1
end Go.Proofs.YtgbmnpgaddhfpaaGreatDoor.T
