/- Walks and plain laws beneath the law TopBuilt. No conditions but what each statement names. -/
import Derived.Test.YtgbmnpgaddhfpaaGreatDoorB16
set_option linter.unusedVariables false
set_option linter.unusedSimpArgs false
namespace Go.Proofs.YtgbmnpgaddhfpaaGreatDoor.T
open Go.RowKit Go.Proofs.YtgbmnpgaddhfpaaGreatDoorW.PrintWords Go.Proofs.YtgbmnpgaddhfpaaGreatDoorW.PrintLast Go.Proofs.YtgbmnpgaddhfpaaGreatDoorW.PrintMore
attribute [local go_sem] max2_int min2_int max_two min_two
open Go.Proofs.YtgbmnpgaddhfpaaGreatDoor.G
open Tryz
set_option maxRecDepth 100000
theorem o63 : G.Opens prog 63 k63 (fun _ => True) := by
 refine opens_true (G.opens_struct (good := fun _ => True ∧ True) (n := 1 + (1)) (fun x : S63 => (x.f0,x.f1)) (fun y => ⟨y.1,y.2⟩) (fun _ => rfl) underlying63 (by kernel_rfl) ?_)
 refine G.piece_cons (o := 0) (a := 1) (b := 1) (k := (Kd.int .i64)) (k2 := Kd.string) (g := fun _ => True) (g2 := fun _ => True) ?_ ?_ ?_ ?_
 ·exact o_int
 ·rfl
 ·kernel_rfl
 refine G.piece_one (o := 1) ?_ ?_ ?_
 ·exact o_str
 ·rfl
 ·kernel_rfl
theorem o42 : G.Opens prog 42 (Kd.pair Kd.string (Kd.slice 63 k63)) (fun _ => True) := by
 refine opens_plain (good := fun _ => True ∧ True) (n := 1 + (1)) underlying42 (by kernel_rfl) ?_
 refine G.piece_cons (o := 0) (a := 1) (b := 1) (k := Kd.string) (k2 := (Kd.slice 63 k63)) (g := fun _ => True) (g2 := fun _ => True) ?_ ?_ ?_ ?_
 ·exact o_str
 ·rfl
 ·kernel_rfl
 refine G.piece_one (o := 1) ?_ ?_ ?_
 ·exact (opens_true (G.opens_slice underlying40 (by kernel_rfl) o63))
 ·rfl
 ·kernel_rfl
theorem open_msg {H : Type} {enc : TypeId × Value → H} {W : World} {base b0 : Nat} {spare : Nat → Bool} {held : Bool} {v : Value} {d : DataW H} {p : List MemPlace} {r : Reach} (hv : Value.okWide prog W r b0 42 v) (h : DataW.Trod enc prog W base spare held 42 v d p) :
  ∃ (m : ByteArray) (A : Option Addr) (c : Nat) (xs : List S63),v = .agg #[.string m,.slice A xs.length c] ∧ xs.length ≤ c ∧ Kd.C k63 W A xs.length xs := by
 obtain ⟨cs,rfl,_⟩ := Go.WideShapes.okWide_struct underlying42 hv
 obtain ⟨fuel,hf⟩ := h
 obtain ⟨⟨m,xs⟩,hy,_⟩ := o42 H enc W base spare held fuel _ _ hf
 obtain ⟨_,_,e,h1,⟨A,c,rfl,hl,hC⟩⟩ := hy
 have h1 : _ = [Value.string m] := h1
 subst h1
 refine ⟨m,A,c,xs,?_,hl,hC⟩
 have e2 : cs.toList = _ := e
 rw [← Array.toArray_toList (xs := cs),e2]
 rfl
theorem loss_C (W : World) : Calls prog 23 #[] W fun e w' => ∃ A c,e = .returned (.slice A 21 c) ∧ 21 ≤ c ∧ Kd.C (Kd.int .i64) w' A 21 lossL ∧ Below W.heap.size W w' := by
 refine (groatref14_Lossless.calls lossL W rfl).mono ?_
 rintro e w' ⟨v,rfl,ho,hb⟩
 obtain ⟨A,c,rfl⟩ := Kd.R_slice ho
 obtain ⟨_,h1,h2⟩ := Kd.R_reads' ho
 exact ⟨A,c,rfl,h1,h2,hb⟩
theorem lensL : (ls0.l.length = 28 ∧ ls0.ms.length = 12 ∧ ls0.rs.length = 21 ∧ ls0.echo.length = 11 ∧ ls0.cs.length = 6) ∧ (ls1.l.length = 26 ∧ ls1.ms.length = 12 ∧ ls1.rs.length = 21 ∧ ls1.echo.length = 11 ∧ ls1.cs.length = 6) := by decide +kernel
theorem loss_out0 (b : ByteArray) (p q : Ad) (W : World) (h1 : SdAt W ls0 p) (h2 : SdAt W ls1 q) (hb : b.size ≤ 100000) :
  Calls prog 9 #[.agg #[.int .i64 1,.int .i64 0,.slice p.A1 28 p.c1,.slice p.Am 12 p.cm,.slice p.Ar 21 p.cr,.slice p.Ae 11 p.ce,.slice p.Ac 6 p.cc,.int .i64 2,.int .i64 1,.slice q.A1 26 q.c1,.slice q.Am 12 q.cm,.slice q.Ar 21 q.cr,.slice q.Ae 11 q.ce,.slice q.Ac 6 q.cc,.int .i64 4096],.int .i64 0,.string b] W fun e w' => e = .returned (.tuple #[.int .i64 (outS ls0 ls1 4096 b).1,.string (outS ls0 ls1 4096 b).2]) ∧ Below W.heap.size W w' := by
 have h := route_Outcome_0.at ls0 ls1 p q 4096 b W h1 h2 cfgK_ls hb (sideOk_of sdR_ls0) (by rw [lensL.1.2.2.2.1];decide) (by rw [lensL.1.2.2.2.2];decide) (Nat.le_trans (decG_len sdR_ls0.1) (by decide))
 rw [lensL.1.1,lensL.1.2.1,lensL.1.2.2.1,lensL.1.2.2.2.1,lensL.1.2.2.2.2,lensL.2.1,lensL.2.2.1,lensL.2.2.2.1,lensL.2.2.2.2.1,lensL.2.2.2.2.2] at h
 exact h
theorem loss_out1 (b : ByteArray) (p q : Ad) (W : World) (h1 : SdAt W ls0 p) (h2 : SdAt W ls1 q) (hb : b.size ≤ 100000) :
  Calls prog 9 #[.agg #[.int .i64 1,.int .i64 0,.slice p.A1 28 p.c1,.slice p.Am 12 p.cm,.slice p.Ar 21 p.cr,.slice p.Ae 11 p.ce,.slice p.Ac 6 p.cc,.int .i64 2,.int .i64 1,.slice q.A1 26 q.c1,.slice q.Am 12 q.cm,.slice q.Ar 21 q.cr,.slice q.Ae 11 q.ce,.slice q.Ac 6 q.cc,.int .i64 4096],.int .i64 1,.string b] W fun e w' => e = .returned (.tuple #[.int .i64 (outS ls1 ls0 4096 b).1,.string (outS ls1 ls0 4096 b).2]) ∧ Below W.heap.size W w' := by
 have h := route_Outcome_1.at ls1 ls0 q p 4096 b W h2 h1 cfgK_ls hb (sideOk_of sdR_ls1) (by rw [lensL.2.2.2.2.1];decide) (by rw [lensL.2.2.2.2.2];decide) (Nat.le_trans (decG_len sdR_ls1.1) (by decide))
 rw [lensL.1.1,lensL.1.2.1,lensL.1.2.2.1,lensL.1.2.2.2.1,lensL.1.2.2.2.2,lensL.2.1,lensL.2.2.1,lensL.2.2.2.1,lensL.2.2.2.2.1,lensL.2.2.2.2.2] at h
 exact h
theorem loss_chk (p : Ad) (W : World) (h1 : SdAt W ls0 p) (m : ByteArray) (A : Option Addr) (c : Nat) (xs : List S63) (hr : Kd.C k63 W A xs.length xs) (hc : xs.length ≤ c) (hz : msgSz m xs) :
  Calls prog 22 #[.agg #[.int .i64 1,.int .i64 0,.slice p.A1 28 p.c1],.agg #[.string m,.slice A xs.length c]] W fun e w' => (∃ f1 f2,e = .returned (.agg #[.int .i64 f1,.int .i64 f2]) ∧ (f1 = 0 ∧ f2 = 0 ∧ msgOk 1 0 schA m xs = true ∨ f1 ≠ 0 ∧ msgOk 1 0 schA m xs = false)) ∧ Below W.heap.size W w' := by
 have h := groatref16_Check.at 1 0 p.A1 p.c1 ls0.l m A c xs W h1.n1 h1.r1 h1.h1 (by have := hz.2.1;omega) hr hc (by have := hz.1;omega) (fun x hx => by have := hz.2.2 x hx;omega)
 rw [lensL.1.1] at h
 exact h
theorem loss_bytes (p : Ad) (W : World) (h1 : SdAt W ls0 p) (m : ByteArray) (A : Option Addr) (c : Nat) (xs : List S63) (hr : Kd.C k63 W A xs.length xs) (hc : xs.length ≤ c) (hz : msgSz m xs) (hm : msgOk 1 0 schA m xs = true) :
  Calls prog 24 #[.agg #[.int .i64 1,.int .i64 0,.slice p.A1 28 p.c1],.agg #[.string m,.slice A xs.length c]] W fun e w' => e = .returned (.string (encS 1 schA m xs)) ∧ Below W.heap.size W w' := by
 have h := groatref17_Bytes.at 1 0 p.A1 p.c1 ls0.l m A c xs W h1.n1 h1.r1 h1.h1 (by have := hz.2.1;omega) hr hc hm
 rw [lensL.1.1] at h
 exact h
theorem ls0_rm {W : World} {p : Ad} (h : SdAt W ls0 p) : Kd.C k66 W p.Am typesP.length typesP := h.rm
def hasTy (l : List S66) (m : ByteArray) : Bool := l.any (fun p => decide (p.f0 = m))
theorem hasTy_iff {l : List S66} {m : ByteArray} : hasTy l m = true ↔ ∃ p ∈ l,p.f0 = m := by
 unfold hasTy
 simp [List.any_eq_true]
theorem hasTy_take (l : List S66) (m : ByteArray) (j : Nat) (h : j < l.length) : hasTy (l.take (j + 1)) m = (hasTy (l.take j) m || decide ((rd_T66 l (j : Int)).f0 = m)) := by
 unfold hasTy
 rw [List.take_succ_eq_append_getElem h,show rd_T66 l (j : Int) = l[j] by simp [rd_T66,List.getD_eq_getElem?_getD,h],List.any_append]
 simp
set_option maxHeartbeats 8000000 in
theorem topBuilt.at (m : ByteArray) (A : Option Addr) (c : Nat) (xs : List S63) (w : World) (hr : Kd.C k63 w A xs.length xs) (hc : xs.length ≤ c) :
  Calls prog 5 #[.agg #[.string m,.slice A xs.length c]] w fun e w' => e = .returned (.bool true) ∧ Below w.heap.size w w' := by
 have hu24 := underlying24
 have hu28 := underlying28
 have hu32 := underlying32
 have hu33 := underlying33
 have hu35 := underlying35
 have hu42 := underlying42
 have hu45 := underlying45
 have hu63 := underlying63
 have hu66 := underlying66
 have HR := aS hr
 have HC := aS hc
 clear hr hc
 have D0 := aS (Box1.start w (.cells #[.string m,.slice A xs.length c] 42))
 go_enter func5,ntmps5
 go_wp2_with (first | (have X := HG;clear X;go_at_call 6;refine (groattop_live.at _).mono ?_;rintro e w3 ⟨rfl,hb1⟩;have D_ := aS (D1.out.step hb1);clear D1 hb1;have D1 := D_;clear D_) | (go_at_call 6;refine (groattop_live.at _).mono ?_;rintro e w1 ⟨rfl,hb1⟩;have D1 := aS (D0.out.step hb1);clear D0 hb1;obtain ⟨m0,m1⟩ := cells_2 D1.out.h1) | (go_at_call 20;refine (groatref16_Great.at m A c xs _ (c_B HR.out D1.out.below) HC.out).mono ?_;rintro e w2 ⟨⟨b,rfl,hg⟩,hb1⟩;have HG := aS hg;have D_ := aS (D1.out.step hb1);clear D1 hb1 hg m0 m1;have D1 := D_;clear D_;cases b))
 ·have hsz := HG.out (by first | rfl | trivial)
  have HSZ := aS hsz
  clear hsz HG
  go_at_call 21
  refine (groatref24_Lossless.at _).mono ?_
  rintro e w3 ⟨⟨p,q,rfl,h1,h2⟩,hb1⟩
  have HP := aS h1
  have HQ := aS h2
  have B0 := aS (k_B D1.out.h1 hb1)
  have HW3 := aS (b_s D1.out.below hb1)
  clear h1 h2 hb1 D1
  have D := aS (Box2.start w3 (.cells #[.int .i64 1,.int .i64 0,.slice p.A1 28 p.c1,.slice p.Am 12 p.cm,.slice p.Ar 21 p.cr,.slice p.Ae 11 p.ce,.slice p.Ac 6 p.cc,.int .i64 2,.int .i64 1,.slice q.A1 26 q.c1,.slice q.Am 12 q.cm,.slice q.Ar 21 q.cr,.slice q.Ae 11 q.ce,.slice q.Ac 6 q.cc,.int .i64 4096] 35) (.cells #[.int .i64 1,.int .i64 0,.slice p.A1 28 p.c1] 24))
  obtain ⟨g0,g1,g2,g3,g4,g5,g6,g7,g8,g9,g10,g11,g12,g13,g14⟩ := cells_15 D.out.h1;obtain ⟨s0,s1,s2⟩ := cells_3 D.out.h2;obtain ⟨m0,m1⟩ := cells_2 (k_B B0.out D.out.below)
  go_wp2_with (first | (go_at_call 22;refine (loss_chk p _ (HP.out.step D.out.below) m A c xs (c_B HR.out (b_s HW3.out D.out.below)) HC.out HSZ.out).mono ?_;rintro e w4 ⟨⟨f1,f2,rfl,hf⟩,hb1⟩;rcases hf with ⟨rfl,rfl,hm⟩ | ⟨hne,hbad⟩;(have HM := aS hm;clear hm);rotate_left;(have e9 : (f1 == 0) = false := beq_eq_false_iff_ne.mpr hne;clear hne hbad);all_goals (have D_ := aS (D.out.step hb1);clear hb1 g0 g1 g2 g3 g4 g5 g6 g7 g8 g9 g10 g11 g12 g13 g14 s0 s1 s2 m0 m1 D;have D := D_;clear D_;obtain ⟨g0,g1,g2,g3,g4,g5,g6,g7,g8,g9,g10,g11,g12,g13,g14⟩ := cells_15 D.out.h1;obtain ⟨s0,s1,s2⟩ := cells_3 D.out.h2;obtain ⟨m0,m1⟩ := cells_2 (k_B B0.out D.out.below))))
  ·go_ret
   exact ⟨rfl,b_s HW3.out D.out.below⟩
  clear g0 g1 g2 g3 g4 g5 g6 g7 g8 g9 g10 g11 g12 g13 g14 s0 s1 s2 m0 m1
  go_loopg [38] xs.length (fun g v38 w' => ∃ i : Nat,v38 = .int .i64 i ∧ i + g = xs.length ∧ Aside0 (∀ x ∈ xs.take i,x.f0 ∈ lossL) ∧ Aside0 (Box2 w3 w' (.cells #[.int .i64 1,.int .i64 0,.slice p.A1 28 p.c1,.slice p.Am 12 p.cm,.slice p.Ar 21 p.cr,.slice p.Ae 11 p.ce,.slice p.Ac 6 p.cc,.int .i64 2,.int .i64 1,.slice q.A1 26 q.c1,.slice q.Am 12 q.cm,.slice q.Ar 21 q.cr,.slice q.Ae 11 q.ce,.slice q.Ac 6 q.cc,.int .i64 4096] 35) (.cells #[.int .i64 1,.int .i64 0,.slice p.A1 28 p.c1] 24)))
  case atStart => exact ⟨0,rfl,by omega,⟨by simp⟩,D⟩
  case round =>
   clear D
   obtain ⟨i,rfl,hi,HF,D⟩ := hrel
   by_cases h : i < xs.length
   ·obtain ⟨g,rfl⟩ : ∃ g,gk = g + 1 := ⟨gk - 1,by omega⟩
    have e0 : decide ((i : Int) < xs.length) = true := d_T (by omega)
    obtain ⟨ad2,rfl,hx0,hx1⟩ := at63 HR.out (b_s HW3.out D.out.below) i h
    have q0 : (0 ≤ (i : Int)) = True := eq_true (by omega)
    have q1 : ((i : Int) < xs.length) = True := eq_true (by omega)
    have HT : Aside0 ((rd_T63 xs (i : Int)).f0 ∈ lossL → ∀ x ∈ xs.take (i + 1),x.f0 ∈ lossL) := ⟨fun a x hx => by
     rw [List.take_succ_eq_append_getElem h] at hx
     rcases List.mem_append.1 hx with hx | hx
     ·exact HF.out x hx
     ·rw [List.mem_singleton.1 hx,← show rd_T63 xs (i : Int) = xs[i] by simp [rd_T63,List.getD_eq_getElem?_getD,h]];exact a⟩
    generalize rd_T63 xs (i : Int) = x at *
    have HI := aS hi
    have HH := aS h
    clear hi h HF
    go_wp2_with (first | (go_at_call 23;refine (loss_C _).mono ?_;rintro e w5 ⟨A5,c5,rfl,hc5,hC5,hb1⟩;have HL := aS hC5;have B6 := aS (blk_nb hb1);have D_ := aS (D.out.step (below_a1 hb1));clear hC5 hc5 hb1 hx0 hx1 D;have D := D_;clear D_))
    obtain ⟨x0,x1⟩ := cells_2 B6.out
    go_loopg [7,44] 21 (fun g v7 v44 w' => ∃ j : Nat,v7 = .bool (decide (x.f0 ∈ lossL.take j)) ∧ v44 = .int .i64 j ∧ j + g = 21 ∧ Aside0 (w' = w5))
    case atStart => exact ⟨0,by rw [List.take_zero,d_F (by simp)],rfl,by omega,⟨rfl⟩⟩
    case round =>
     obtain ⟨j,rfl,rfl,hj,HW⟩ := hrel
     obtain rfl := HW.out
     clear HW
     by_cases h : j < 21
     ·obtain ⟨g2,rfl⟩ : ∃ g2,gk = g2 + 1 := ⟨gk - 1,by omega⟩
      have e1 : decide ((j : Int) < 21) = true := d_T (by omega)
      have hjl : j < lossL.length := h
      obtain ⟨ad,rfl,hy0⟩ := at3 (show Kd.C (Kd.int .i64) wr A5 lossL.length lossL from HL.out) (Below.refl _ _) j hjl
      have q2 : (0 ≤ (j : Int)) = True := eq_true (by omega)
      have q3 : ((j : Int) < 21) = True := eq_true (by omega)
      have HV : Aside0 (decide (x.f0 ∈ lossL.take (j + 1)) = (decide (x.f0 ∈ lossL.take j) || decide (rd lossL (j : Int) = x.f0))) := ⟨by
       rw [List.take_succ_eq_append_getElem hjl,show rd lossL (j : Int) = lossL[j] by simp [rd,List.getD_eq_getElem?_getD,hjl],Bool.eq_iff_iff]
       simp only [decide_eq_true_eq,Bool.or_eq_true,List.mem_append,List.mem_singleton]
       constructor
       ·rintro (h | h)
        ·exact .inl h
        ·exact .inr h.symm
       ·rintro (h | h)
        ·exact .inl h
        ·exact .inr h.symm⟩
      generalize rd lossL (j : Int) = y at *
      generalize decide (x.f0 ∈ lossL.take j) = b at *
      have HJ := aS hj
      clear hjl hj
      rcases (show (y == x.f0) = true ∧ decide (y = x.f0) = true ∨ (y == x.f0) = false ∧ decide (y = x.f0) = false by by_cases k : y = x.f0;exact .inl ⟨beq_iff_eq.mpr k,d_T k⟩;exact .inr ⟨beq_eq_false_iff_ne.mpr k,d_F k⟩) with ⟨k1,k2⟩ | ⟨k1,k2⟩
      all_goals
       rw [k2] at HV
       clear k2
       cases b
      all_goals go_wp2
      all_goals go_roundg g2
      all_goals first
       | exact ⟨j + 1,by rw [HV.out];rfl,rfl,by have := HJ.out;omega,⟨rfl⟩⟩
       | (have := HJ.out;omega)
     ·obtain rfl : j = 21 := by omega
      have e1 : decide (((21 : Nat) : Int) < 21) = false := by decide
      have HTK : Aside0 (lossL.take 21 = lossL) := ⟨rfl⟩
      by_cases k : x.f0 ∈ lossL
      ·have k1 : decide (x.f0 ∈ lossL.take 21) = true := d_T (by rw [HTK.out];exact k)
       have HT2 := aS (HT.out k)
       clear k h
       go_wp2
       go_roundg g
       case rel => exact ⟨i + 1,by have := HH.out;have := HSZ.out.2.1;congr 1;unfold wrap64;omega,by have := HI.out;omega,HT2,D⟩
       case measure => have := HI.out;omega
      ·have k1 : decide (x.f0 ∈ lossL.take 21) = false := d_F (by rw [HTK.out];exact k)
       clear k h
       go_wp2
       go_ret
       exact ⟨rfl,b_s HW3.out D.out.below⟩
   ·have e0 : decide ((i : Int) < xs.length) = false := d_F (by omega)
    have HL : Aside0 (∀ x ∈ xs,x.f0 ∈ lossL) := ⟨by have := HF.out;rwa [List.take_of_length_le (by omega)] at this⟩
    clear HF
    obtain ⟨g0,g1,g2,g3,g4,g5,g6,g7,g8,g9,g10,g11,g12,g13,g14⟩ := cells_15 D.out.h1;obtain ⟨s0,s1,s2⟩ := cells_3 D.out.h2;obtain ⟨m0,m1⟩ := cells_2 (k_B B0.out D.out.below)
    go_wp2
    clear g0 g1 g2 g3 g4 g5 g6 g7 g8 g9 g10 g11 g12 g13 g14 s0 s1 s2 m0 m1
    obtain ⟨tp,HTP⟩ : ∃ tp,Aside0 (typesP = tp) := ⟨_,⟨rfl⟩⟩
    have HTL : Aside0 (tp.length = 12) := ⟨by rw [← HTP.out];exact lens.1.1⟩
    have HRM : Aside0 (Kd.C k66 w3 p.Am tp.length tp) := ⟨by rw [← HTP.out];exact ls0_rm HP.out⟩
    go_loopg [10,65] 12 (fun g v10 v65 w' => ∃ j : Nat,v10 = .bool (hasTy (tp.take j) m) ∧ v65 = .int .i64 j ∧ j + g = 12 ∧ Aside0 (Box2 w3 w' (.cells #[.int .i64 1,.int .i64 0,.slice p.A1 28 p.c1,.slice p.Am 12 p.cm,.slice p.Ar 21 p.cr,.slice p.Ae 11 p.ce,.slice p.Ac 6 p.cc,.int .i64 2,.int .i64 1,.slice q.A1 26 q.c1,.slice q.Am 12 q.cm,.slice q.Ar 21 q.cr,.slice q.Ae 11 q.ce,.slice q.Ac 6 q.cc,.int .i64 4096] 35) (.cells #[.int .i64 1,.int .i64 0,.slice p.A1 28 p.c1] 24)))
    case atStart => exact ⟨0,rfl,rfl,by omega,D⟩
    case round =>
     clear D e0
     obtain ⟨j,rfl,rfl,hj,D⟩ := hrel
     by_cases h : j < 12
     ·obtain ⟨g2,rfl⟩ : ∃ g2,gk = g2 + 1 := ⟨gk - 1,by omega⟩
      have e1 : decide ((j : Int) < 12) = true := d_T (by omega)
      have hjl : j < tp.length := by rw [HTL.out];exact h
      obtain ⟨ad,hA,hy0,hy1⟩ := at66 HRM.out D.out.below j hjl
      have q2 : (0 ≤ (j : Int)) = True := eq_true (by omega)
      have q3 : ((j : Int) < 12) = True := eq_true (by omega)
      have HV : Aside0 (hasTy (tp.take (j + 1)) m = (hasTy (tp.take j) m || decide ((rd_T66 tp (j : Int)).f0 = m))) := ⟨hasTy_take tp m j hjl⟩
      generalize rd_T66 tp (j : Int) = y at *
      generalize hasTy (tp.take j) m = b at *
      have HJ := aS hj
      clear hjl hj h
      obtain ⟨g0,g1,g2',g3,g4,g5,g6,g7,g8,g9,g10,g11,g12,g13,g14⟩ := cells_15 D.out.h1
      obtain ⟨m0,m1⟩ := cells_2a (k_B B0.out D.out.below) (.cells #[.string y.f0,.string y.f1] 66)
      rcases (show (y.f0.toList == m.toList) = true ∧ decide (y.f0 = m) = true ∨ (y.f0.toList == m.toList) = false ∧ decide (y.f0 = m) = false by rw [str_beq];by_cases k : y.f0 = m;exact .inl ⟨d_T k,d_T k⟩;exact .inr ⟨d_F k,d_F k⟩) with ⟨k1,k2⟩ | ⟨k1,k2⟩
      all_goals
       rw [k2] at HV
       clear k2
       cases b
      all_goals go_wp2
      all_goals go_roundg g2
      all_goals first
       | (have := HJ.out;omega)
       | (refine ⟨j + 1,?_,?_,?_,?_⟩;(have := HV.out;rw [this];rfl);(have := HJ.out;congr 1;unfold wrap64;omega);(have := HJ.out;omega);exact ⟨D.out.step (bO _)⟩)
     ·obtain rfl : j = 12 := by omega
      have e1 : decide (((12 : Nat) : Int) < 12) = false := by decide
      have HTK : Aside0 (tp.take 12 = tp) := ⟨List.take_of_length_le (by rw [HTL.out];exact Nat.le_refl _)⟩
      have HSB : Aside0 ((encS 1 schA m xs).size ≤ 100000) := ⟨by have := encS_cap capA cap0.1 HM.out HL.out;omega⟩
      obtain ⟨g0,g1,g2,g3,g4,g5,g6,g7,g8,g9,g10,g11,g12,g13,g14⟩ := cells_15 D.out.h1;obtain ⟨s0,s1,s2⟩ := cells_3 D.out.h2;obtain ⟨m0,m1⟩ := cells_2 (k_B B0.out D.out.below)
      clear h hj
      by_cases k : ∃ p' ∈ tp,p'.f0 = m
      ·have k1 : hasTy (tp.take 12) m = true := by rw [HTK.out];exact hasTy_iff.2 k
       obtain ⟨y1,y2,y3,y4⟩ := built_yes HM.out HL.out (by rw [HTP.out];exact k)
       obtain ⟨yy,hyy⟩ : ∃ yy,outS ls0 ls1 4096 (encS 1 schA m xs) = (1,yy) := ⟨_,Prod.ext y1 rfl⟩
       rw [hyy] at y2 y4
       have HYY := aS hyy
       have HYE := aS y2
       have HO0 : Aside0 (yy.size ≤ 100000) := ⟨by have : yy.size ≤ 4096 := y4;omega⟩
       clear y1 y2 y3 y4 k hyy
       go_wp2_with (first | (go_at_call 24;refine (loss_bytes p _ (HP.out.step D.out.below) m A c xs (c_B HR.out (b_s HW3.out D.out.below)) HC.out HSZ.out HM.out).mono ?_;rintro e w6 ⟨rfl,hb1⟩;have D_ := aS (D.out.step hb1);clear hb1 g0 g1 g2 g3 g4 g5 g6 g7 g8 g9 g10 g11 g12 g13 g14 s0 s1 s2 m0 m1 D;have D := D_;clear D_;obtain ⟨g0,g1,g2,g3,g4,g5,g6,g7,g8,g9,g10,g11,g12,g13,g14⟩ := cells_15 D.out.h1;obtain ⟨s0,s1,s2⟩ := cells_3 D.out.h2;obtain ⟨m0,m1⟩ := cells_2 (k_B B0.out D.out.below)) | (have X := HO1;clear X;go_at_call 9;refine (loss_out1 _ p q _ (HP.out.step D.out.below) (HQ.out.step D.out.below) HO1.out).mono ?_;rintro e w8 ⟨rfl,hb1⟩;rw [HYE.out];have D_ := aS (D.out.step hb1);clear hb1 g0 g1 g2 g3 g4 g5 g6 g7 g8 g9 g10 g11 g12 g13 g14 s0 s1 s2 m0 m1 D;have D := D_;clear D_;obtain ⟨g0,g1,g2,g3,g4,g5,g6,g7,g8,g9,g10,g11,g12,g13,g14⟩ := cells_15 D.out.h1;obtain ⟨s0,s1,s2⟩ := cells_3 D.out.h2;obtain ⟨m0,m1⟩ := cells_2 (k_B B0.out D.out.below)) | (go_at_call 9;refine (loss_out0 _ p q _ (HP.out.step D.out.below) (HQ.out.step D.out.below) HSB.out).mono ?_;rintro e w7 ⟨rfl,hb1⟩;rw [HYY.out];have HO1 := aS HO0.out;have D_ := aS (D.out.step hb1);clear hb1 g0 g1 g2 g3 g4 g5 g6 g7 g8 g9 g10 g11 g12 g13 g14 s0 s1 s2 m0 m1 D;have D := D_;clear D_;obtain ⟨g0,g1,g2,g3,g4,g5,g6,g7,g8,g9,g10,g11,g12,g13,g14⟩ := cells_15 D.out.h1;obtain ⟨s0,s1,s2⟩ := cells_3 D.out.h2;obtain ⟨m0,m1⟩ := cells_2 (k_B B0.out D.out.below)))
       all_goals go_ret
       all_goals exact ⟨rfl,b_s HW3.out D.out.below⟩
      ·have k1 : hasTy (tp.take 12) m = false := by rw [HTK.out];exact Bool.eq_false_iff.2 (fun h => k (hasTy_iff.1 h))
       have hno := built_no HM.out (by rw [HTP.out];exact fun p' hp' e => k ⟨p',hp',e⟩)
       obtain ⟨kk,yy,hyy⟩ : ∃ kk yy,outS ls0 ls1 4096 (encS 1 schA m xs) = (kk,yy) := ⟨_,_,rfl⟩
       rw [hyy] at hno
       have HYY := aS hyy
       have e9 : (kk != 1) = true := bne_iff_ne.mpr hno
       clear hno k hyy
       go_wp2_with (first | (go_at_call 24;refine (loss_bytes p _ (HP.out.step D.out.below) m A c xs (c_B HR.out (b_s HW3.out D.out.below)) HC.out HSZ.out HM.out).mono ?_;rintro e w6 ⟨rfl,hb1⟩;have D_ := aS (D.out.step hb1);clear hb1 g0 g1 g2 g3 g4 g5 g6 g7 g8 g9 g10 g11 g12 g13 g14 s0 s1 s2 m0 m1 D;have D := D_;clear D_;obtain ⟨g0,g1,g2,g3,g4,g5,g6,g7,g8,g9,g10,g11,g12,g13,g14⟩ := cells_15 D.out.h1;obtain ⟨s0,s1,s2⟩ := cells_3 D.out.h2;obtain ⟨m0,m1⟩ := cells_2 (k_B B0.out D.out.below)) | (have X := HO1;clear X;go_at_call 9;refine (loss_out1 _ p q _ (HP.out.step D.out.below) (HQ.out.step D.out.below) HO1.out).mono ?_;rintro e w8 ⟨rfl,hb1⟩;rw [HYE.out];have D_ := aS (D.out.step hb1);clear hb1 g0 g1 g2 g3 g4 g5 g6 g7 g8 g9 g10 g11 g12 g13 g14 s0 s1 s2 m0 m1 D;have D := D_;clear D_;obtain ⟨g0,g1,g2,g3,g4,g5,g6,g7,g8,g9,g10,g11,g12,g13,g14⟩ := cells_15 D.out.h1;obtain ⟨s0,s1,s2⟩ := cells_3 D.out.h2;obtain ⟨m0,m1⟩ := cells_2 (k_B B0.out D.out.below)) | (go_at_call 9;refine (loss_out0 _ p q _ (HP.out.step D.out.below) (HQ.out.step D.out.below) HSB.out).mono ?_;rintro e w7 ⟨rfl,hb1⟩;rw [HYY.out];have D_ := aS (D.out.step hb1);clear hb1 g0 g1 g2 g3 g4 g5 g6 g7 g8 g9 g10 g11 g12 g13 g14 s0 s1 s2 m0 m1 D;have D := D_;clear D_;obtain ⟨g0,g1,g2,g3,g4,g5,g6,g7,g8,g9,g10,g11,g12,g13,g14⟩ := cells_15 D.out.h1;obtain ⟨s0,s1,s2⟩ := cells_3 D.out.h2;obtain ⟨m0,m1⟩ := cells_2 (k_B B0.out D.out.below)))
       go_ret
       exact ⟨rfl,b_s HW3.out D.out.below⟩
 ·go_ret
  exact ⟨rfl,D1.out.below⟩
end Go.Proofs.YtgbmnpgaddhfpaaGreatDoor.T
