/- Walks and plain laws beneath the law TopBuilt. No conditions but what each statement names. -/
import Derived.Test.YtgbmnpgaddhfpaaGreatDoorB10
set_option linter.unusedVariables false
set_option linter.unusedSimpArgs false
namespace Go.Proofs.YtgbmnpgaddhfpaaGreatDoor.T
open Go.RowKit Go.Proofs.YtgbmnpgaddhfpaaGreatDoorW.PrintWords Go.Proofs.YtgbmnpgaddhfpaaGreatDoorW.PrintLast Go.Proofs.YtgbmnpgaddhfpaaGreatDoorW.PrintMore
attribute [local go_sem] max2_int min2_int max_two min_two
open Go.Proofs.YtgbmnpgaddhfpaaGreatDoor.G
open Tryz
set_option maxRecDepth 100000
def MsgAt (W : World) (v : Value) (xs : List S63) : Prop := (xs = [] ∧ v = .slice none 0 0) ∨ ∃ g : Nat,v = .slice (some ⟨g,0,none⟩) xs.length xs.length ∧ W.heap[g]? = some (.cells (flat63 xs).toArray 63 (0,0))
theorem MsgAt.reads {W : World} {v : Value} {xs : List S63} (h : MsgAt W v xs) (hx : xs.length ≤ 1000000) : ∃ A c,v = .slice A xs.length c ∧ xs.length ≤ c ∧ Kd.C k63 W A xs.length xs := by
 rcases h with ⟨rfl,rfl⟩ | ⟨g,rfl,hg⟩
 ·exact ⟨none,0,rfl,Nat.le_refl _,Kd.C_nil _ _⟩
 ·exact ⟨_,_,rfl,Nat.le_refl _,flat63_C (by omega) hg⟩
theorem MsgAt.step {W W' : World} {v : Value} {xs : List S63} (h : MsgAt W v xs) (hb : Below W.heap.size W W') : MsgAt W' v xs := by
 rcases h with h | ⟨g,h,hg⟩
 ·exact .inl h
 ·exact .inr ⟨g,h,k_B hg hb⟩
theorem MsgAt.far {W : World} {v : Value} {xs : List S63} (h : MsgAt W v xs) {b t : Nat} {cs : Array Value} (hb : W.heap[b]? = some (.cells cs t (0,0))) (ht : 63 ≠ t) (k : Nat) (u : Value) : MsgAt (W.setCell ⟨b,k,none⟩ u) v xs := by
 rcases h with h | ⟨g,h,hg⟩
 ·exact .inl h
 ·exact .inr ⟨g,h,T.far _ _ hg (blk_ne hg hb ht)⟩
theorem at3 {A : Option Addr} {l : List Int} {w wr : World} (HR : Kd.C (Kd.int .i64) w A l.length l) (HB : Below w.heap.size w wr) (i : Nat) (h : i < l.length) : ∃ ad,A = some ad ∧ wr.cell? (ad.add i) = some (.int .i64 (rd l (i : Int))) := by
 obtain ⟨ad,cs,e,_,hK,hc0⟩ := Kd.C_get HR (0 : Int) (i : Int) (by omega) (by omega)
 obtain rfl : cs = [.int .i64 (l.getD (i : Int).toNat 0)] := hK
 have h1 : w.cell? (ad.add ((i : Int).toNat * 1 + 0)) = some (.int .i64 (l.getD (i : Int).toNat 0)) := hc0 0 _ rfl
 have h2 : w.cell? (ad.add i) = some (.int .i64 (rd l (i : Int))) := by
  unfold rd
  simpa using h1
 exact ⟨ad,e,(HB.cell (World.block_lt_of_cell? w _ h2)).trans h2⟩
theorem dropI {l : List Int} {i : Nat} (h : i < l.length) : l.drop i = rd l i :: l.drop (i + 1) := by
 rw [List.drop_eq_getElem_cons h]
 simp [rd,List.getD_eq_getElem?_getD,List.getElem?_eq_getElem h]
def echoS (fs : List S63) : List Int → List S63 → List S63
 | [],acc => acc
 | no :: r,acc => echoS fs r (if (getS no fs).2 = true then withM no (getS no fs).1 acc else acc)
def buildS (fs : List S63) (echo : List Int) (cs : List S129) (e : Int) : List S63 := withM 39 (rejCode cs e) (echoS fs echo [])
theorem withM_len (no : Int) (t : ByteArray) (xs : List S63) : (withM no t xs).length ≤ xs.length + 1 := by
 unfold withM insS
 have h1 := placeW_le no (withoutS no xs)
 have h2 := withoutS_len no xs
 simp
 omega
theorem cells_7 {w : World} {g : Nat} {t : TypeId} {v0 v1 v2 v3 v4 v5 v6 : Value} (h : w.heap[g]? = some (.cells #[v0,v1,v2,v3,v4,v5,v6] t (0,0))) : w.cell? ⟨g,0,none⟩ = some v0 ∧ w.cell? ⟨g,1,none⟩ = some v1 ∧ w.cell? ⟨g,2,none⟩ = some v2 ∧ w.cell? ⟨g,3,none⟩ = some v3 ∧ w.cell? ⟨g,4,none⟩ = some v4 ∧ w.cell? ⟨g,5,none⟩ = some v5 ∧ w.cell? ⟨g,6,none⟩ = some v6 := ⟨blk_cell h 0,blk_cell h 1,blk_cell h 2,blk_cell h 3,blk_cell h 4,blk_cell h 5,blk_cell h 6⟩
theorem cells_7a {w : World} {g : Nat} {t : TypeId} {v0 v1 v2 v3 v4 v5 v6 : Value} (h : w.heap[g]? = some (.cells #[v0,v1,v2,v3,v4,v5,v6] t (0,0))) (o : Obj) : (w.alloc o).cell? ⟨g,0,none⟩ = some v0 ∧ (w.alloc o).cell? ⟨g,1,none⟩ = some v1 ∧ (w.alloc o).cell? ⟨g,2,none⟩ = some v2 ∧ (w.alloc o).cell? ⟨g,3,none⟩ = some v3 ∧ (w.alloc o).cell? ⟨g,4,none⟩ = some v4 ∧ (w.alloc o).cell? ⟨g,5,none⟩ = some v5 ∧ (w.alloc o).cell? ⟨g,6,none⟩ = some v6 := cells_7 (blk_alloc h o)
theorem Box4.far {w W : World} {a b c d : Obj} (D : Box4 w W a b c d) {g : Nat} (hg : w.heap.size + 1 + 1 + 1 < g) (k : Nat) (u : Value) : Box4 w (W.setCell ⟨g,k,none⟩ u) a b c d :=
 ⟨T.far _ _ D.h1 (by show w.heap.size ≠ g;omega),T.far _ _ D.h2 (by show w.heap.size + 1 ≠ g;omega),T.far _ _ D.h3 (by show w.heap.size + 1 + 1 ≠ g;omega),T.far _ _ D.h4 (by show w.heap.size + 1 + 1 + 1 ≠ g;omega),D.below.setCell (p := ⟨g,k,none⟩) (by show w.heap.size ≤ g;omega) _⟩
set_option maxHeartbeats 4000000 in
theorem reject_Build.at (st ver : Int) (s1 s2 s3 : Value) (A : Option Addr) (c : Nat) (echo : List Int) (Ac : Option Addr) (cc : Nat) (cs : List S129) (m : ByteArray) (Am : Option Addr) (cm : Nat) (fs : List S63) (err fld : Int) (w : World)
  (hs : (∃ a b c,s1 = .slice a b c) ∧ (∃ a b c,s2 = .slice a b c) ∧ (∃ a b c,s3 = .slice a b c)) (hle : echo.length ≤ 1000) (hre : Kd.C (Kd.int .i64) w A echo.length echo) (hce : echo.length ≤ c) (hlc : cs.length ≤ 1000) (hrc : Kd.C k129 w Ac cs.length cs) (hcc : cs.length ≤ cc)
  (hlm : fs.length ≤ 1000000) (hrm : Kd.C k63 w Am fs.length fs) (hcm : fs.length ≤ cm) (hq : reqM m = true) :
  Calls prog 14 #[.agg #[.int .i64 st,.int .i64 ver,s1,s2,s3,.slice A echo.length c,.slice Ac cs.length cc],.agg #[.string m,.slice Am fs.length cm],.agg #[.int .i64 err,.int .i64 fld]] w fun e w' => (∃ A' c',e = .returned (.tuple #[.agg #[.string (respM m),.slice A' (buildS fs echo cs err).length c'],.bool true]) ∧ (buildS fs echo cs err).length ≤ c' ∧ Kd.C k63 w' A' (buildS fs echo cs err).length (buildS fs echo cs err)) ∧ Below w.heap.size w w' := by
 have hu32 := underlying32
 have hu42 := underlying42
 have hu45 := underlying45
 obtain ⟨⟨a1,n1,c1,rfl⟩,⟨a2,n2,c2,rfl⟩,⟨a3,n3,c3,rfl⟩⟩ := hs
 have HRe := aS hre
 have HRc := aS hrc
 have HRm := aS hrm
 have HCm := aS hcm
 have HCc := aS hcc
 have HFL := aS hlm
 have HEL := aS hle
 have HCL := aS hlc
 clear hre hrc hrm hcm hcc hlm hlc
 go_enter func14,ntmps14
 go_wp2_with (first | (go_at_call 16;refine (mti_Response.at _ _ hq).mono ?_;rintro e w1 ⟨rfl,hb1⟩;have D := aS (Box4.init hb1);clear hb1;obtain ⟨s0,s1,s2,s3,s4,s5,s6⟩ := cells_7 D.out.h1;have SA := cells_7a D.out.h1))
 have G : Aside0 ((w1.alloc (.cells #[.string (respM m),.slice none 0 0] 42)).heap[w1.heap.size]? = some (.cells #[.string (respM m),.slice none 0 0] 42 (0,0))) := ⟨blk_new _ _⟩
 have D_ := aS (D.out.step (b_l (Below.refl _ _) (.cells #[.string (respM m),.slice none 0 0] 42)))
 have HG10 : Aside0 (w.heap.size + 1 + 1 + 1 < w1.heap.size) := ⟨blk_lt D.out.h4⟩
 clear D s0 s1 s2 s3 s4 s5 s6 SA
 have D := D_
 clear D_
 go_loopg [29] echo.length (fun g v29 w' => ∃ (i : Nat) (acc : List S63) (v : Value),v29 = .int .i64 i ∧ i + g = echo.length ∧ Aside0 (acc.length ≤ i) ∧ Aside0 (echoS fs (echo.drop i) acc = echoS fs echo []) ∧ Aside0 (MsgAt w' v acc) ∧ Aside0 (w'.heap[w1.heap.size]? = some (.cells #[.string (respM m),v] 42 (0,0))) ∧ Aside0 (Box4 w w' (.cells #[.int .i64 st,.int .i64 ver,.slice a1 n1 c1,.slice a2 n2 c2,.slice a3 n3 c3,.slice A echo.length c,.slice Ac cs.length cc] 32) (.cells #[.string m,.slice Am fs.length cm] 42) (.cells #[.int .i64 err,.int .i64 fld] 45) (.cells #[.string ⟨#[]⟩,.slice none 0 0] 42)))
 case atStart => exact ⟨0,[],_,rfl,Nat.zero_add _,⟨Nat.le_refl _⟩,⟨rfl⟩,⟨.inl ⟨rfl,rfl⟩⟩,G,D⟩
 case round =>
  clear D G
  obtain ⟨i,acc,v,rfl,hi,HAL,HF,M,G,D⟩ := hrel
  have HIL : Aside0 (i ≤ 1000) := ⟨by have := HEL.out;omega⟩
  obtain ⟨Av,cv,hv0,hcv0,_⟩ := M.out.reads (by have := HAL.out;have := HIL.out;omega)
  subst hv0
  have hcv := aS hcv0
  have HCv : Aside0 (∀ {W : World},MsgAt W (.slice Av acc.length cv) acc → Kd.C k63 W Av acc.length acc) := ⟨fun h => by obtain ⟨A',c',e',_,hC⟩ := h.reads (by have := HAL.out;have := HIL.out;omega);cases e';exact hC⟩
  clear hcv0
  obtain ⟨b0,b1⟩ := cells_2 D.out.h2
  obtain ⟨m0,m1⟩ := cells_2 G.out
  obtain ⟨fm0,fm1⟩ := froz_2 G.out
  by_cases h : i < echo.length
  ·have e0 : decide ((i : Int) < echo.length) = true := d_T (by omega)
   obtain ⟨ad,rfl,hx0⟩ := at3 HRe.out D.out.below i h
   have q0 : (0 ≤ (i : Int)) = True := eq_true (by omega)
   have q1 : ((i : Int) < echo.length) = True := eq_true (by omega)
   have hf := HF.out
   rw [dropI h,echoS] at hf
   clear HF
   generalize rd echo (i : Int) = no at *
   obtain ⟨tx,ok,hgt⟩ : ∃ tx ok,getS no fs = (tx,ok) := ⟨_,_,rfl⟩
   rw [hgt] at hf
   cases ok with
   | false =>
    have HF := aS hf
    clear hf
    go_wp2_with (first | (go_at_call 18;refine (msg_Get.at m Am cm fs no _ (by have := HFL.out;omega) (c_B HRm.out D.out.below) HCm.out).mono ?_;rintro e w3 ⟨rfl,hb1⟩;rw [hgt];have M_ := aS (M.out.step hb1);have D_ := aS (D.out.step hb1);have G_ := aS (k_B G.out hb1);clear b0 b1 m0 m1 fm0 fm1;clear D G;have D := D_;have G := G_;clear D_ G_;obtain ⟨b0,b1⟩ := cells_2 D.out.h2;obtain ⟨m0,m1⟩ := cells_2 G.out;obtain ⟨fm0,fm1⟩ := froz_2 G.out;clear M hb1;have M := M_;clear M_))
    obtain ⟨g,rfl⟩ : ∃ g,gk = g + 1 := ⟨gk - 1,by omega⟩
    go_roundg g
    case rel => exact ⟨i + 1,acc,_,rfl,by omega,⟨by have := HAL.out;omega⟩,HF,M,G,D⟩
    case measure => omega
   | true =>
    have HF := aS hf
    clear hf
    go_wp2_with (first | (go_at_call 18;refine (msg_Get.at m Am cm fs no _ (by have := HFL.out;omega) (c_B HRm.out D.out.below) HCm.out).mono ?_;rintro e w3 ⟨rfl,hb1⟩;rw [hgt];have M_ := aS (M.out.step hb1);have D_ := aS (D.out.step hb1);have G_ := aS (k_B G.out hb1);clear b0 b1 m0 m1 fm0 fm1;clear D G;have D := D_;have G := G_;clear D_ G_;obtain ⟨b0,b1⟩ := cells_2 D.out.h2;obtain ⟨m0,m1⟩ := cells_2 G.out;obtain ⟨fm0,fm1⟩ := froz_2 G.out;clear M hb1;have M := M_;clear M_) | (go_at_call 41;refine (msg_With.at (respM m) Av cv acc no tx _ (by have := HAL.out;have := HEL.out;omega) (by have := HCv.out M.out;exact this) hcv.out).mono ?_;rintro e w4 ⟨⟨g4,rfl,hg4,hG4⟩,hb1⟩;have M_ : Aside0 (MsgAt w4 (.slice (some ⟨g4,0,none⟩) (withM no tx acc).length (withM no tx acc).length) (withM no tx acc)) := ⟨.inr ⟨g4,rfl,hG4⟩⟩;have D_ := aS (D.out.step hb1);have G_ := aS (k_B G.out hb1);clear b0 b1 m0 m1 fm0 fm1;clear D G;have D := D_;have G := G_;clear D_ G_;obtain ⟨b0,b1⟩ := cells_2 D.out.h2;obtain ⟨m0,m1⟩ := cells_2 G.out;obtain ⟨fm0,fm1⟩ := froz_2 G.out;clear M hb1 hg4 hG4;have M := M_;clear M_))
    obtain ⟨g,rfl⟩ : ∃ g,gk = g + 1 := ⟨gk - 1,by omega⟩
    go_roundg g
    case rel => exact ⟨i + 1,withM no tx acc,_,rfl,by omega,⟨by have := HAL.out;have := withM_len no tx acc;omega⟩,HF,⟨(M.out.far G.out (by decide) 0 _).far (blk_put G.out 0 _ rfl) (by decide) 1 _⟩,⟨blk_put (blk_put G.out 0 _ rfl) 1 _ rfl⟩,⟨(D.out.far HG10.out 0 _).far HG10.out 1 _⟩⟩
    case measure => omega
  ·have e0 : decide ((i : Int) < echo.length) = false := d_F (by omega)
   have hf := HF.out
   rw [List.drop_of_length_le (by omega),echoS] at hf
   have HF := aS hf
   clear hf
   clear b0 b1 m0 m1 fm0 fm1
   obtain ⟨s0,s1,s2,s3,s4,s5,s6⟩ := cells_7 D.out.h1
   obtain ⟨x0,x1⟩ := cells_2 D.out.h3
   obtain ⟨y0,y1⟩ := cells_2 D.out.h4
   obtain ⟨fy0,fy1⟩ := froz_2 D.out.h4
   obtain ⟨m0,m1⟩ := cells_2 G.out
   go_wp2
   go_region_with (first | (go_at_call 19;refine (reject_Code.at .nilIface _ _ _ _ st ver Ac cc cs err _ (by have := HCL.out;omega) (c_B HRc.out (by repeat (first | exact D.out.below | apply below_drew1))) HCc.out ⟨⟨_,_,_,rfl⟩,⟨_,_,_,rfl⟩,⟨_,_,_,rfl⟩,⟨_,_,_,rfl⟩⟩).mono ?_;rintro e w3 ⟨rfl,hb1⟩;have hb2 : Below wr.heap.size wr w3 := (by first | exact hb1 | exact b_s (below_drew1 (Below.refl _ _)) hb1);have M_ := aS (M.out.step hb2);have D_ := aS (D.out.step hb2);have G_ := aS (k_B G.out hb2);clear s0 s1 s2 s3 s4 s5 s6 x0 x1 y0 y1 fy0 fy1 m0 m1;clear D G M hb1 hb2;have D := D_;have G := G_;have M := M_;clear D_ G_ M_;obtain ⟨s0,s1,s2,s3,s4,s5,s6⟩ := cells_7 D.out.h1;obtain ⟨x0,x1⟩ := cells_2 D.out.h3;obtain ⟨y0,y1⟩ := cells_2 D.out.h4;obtain ⟨fy0,fy1⟩ := froz_2 D.out.h4;obtain ⟨m0,m1⟩ := cells_2 G.out) | (go_at_call 41;refine (msg_With.at (respM m) Av cv acc 39 (rejCode cs err) _ (by have := HAL.out;have := HIL.out;omega) (by have := HCv.out M.out;exact this) hcv.out).mono ?_;rintro e w4 ⟨⟨g4,rfl,hg4,hG4⟩,hb1⟩;have M_ : Aside0 (MsgAt w4 (.slice (some ⟨g4,0,none⟩) (withM 39 (rejCode cs err) acc).length (withM 39 (rejCode cs err) acc).length) (withM 39 (rejCode cs err) acc)) := ⟨.inr ⟨g4,rfl,hG4⟩⟩;have D_ := aS (D.out.step hb1);have G_ := aS (k_B G.out hb1);clear s0 s1 s2 s3 s4 s5 s6 x0 x1 y0 y1 fy0 fy1 m0 m1;clear D G M hb1 hg4 hG4;have D := D_;have G := G_;have M := M_;clear D_ G_ M_;obtain ⟨s0,s1,s2,s3,s4,s5,s6⟩ := cells_7 D.out.h1;obtain ⟨x0,x1⟩ := cells_2 D.out.h3;obtain ⟨y0,y1⟩ := cells_2 D.out.h4;obtain ⟨fy0,fy1⟩ := froz_2 D.out.h4;obtain ⟨m0,m1⟩ := cells_2 G.out))
   all_goals go_wp2
   all_goals refine bodyPost_ret (results_ct rfl _ _ (w.heap.size + 1 + 1 + 1) 42 _ (0,0) _ rfl (blk_put (blk_put D.out.h4 0 _ rfl) 1 _ rfl) hu42 rfl (by kernel_rfl)) rfl ?_
   all_goals obtain ⟨Af,cf,hvf,hcf,hCf⟩ := ((M.out.far D.out.h4 (by decide) 0 (.string (respM m))).far (blk_put D.out.h4 0 _ rfl) (by decide) 1 (.slice (some ⟨g4,0,none⟩) (withM 39 (rejCode cs err) acc).length (withM 39 (rejCode cs err) acc).length)).reads (by have := HAL.out;have := HIL.out;have := withM_len 39 (rejCode cs err) acc;omega)
   all_goals rw [buildS,← HF.out]
   all_goals exact ⟨⟨Af,cf,by rw [← hvf];rfl,hcf,hCf⟩,(D.out.below.setCell (p := ⟨w.heap.size + 1 + 1 + 1,0,none⟩) (by show w.heap.size ≤ w.heap.size + 1 + 1 + 1;omega) _).setCell (p := ⟨w.heap.size + 1 + 1 + 1,1,none⟩) (by show w.heap.size ≤ w.heap.size + 1 + 1 + 1;omega) _⟩
def ruleOk (a b : List S87) (r : S94) : Prop :=
 (r.f0 = 1 ∨ r.f0 = 2 ∨ r.f0 = 3 ∨ r.f0 = 4 ∨ r.f0 = 5) ∧ endsOk r a b ∧ (r.f0 ≠ 3 → r.f3 = ⟨#[]⟩) ∧ (r.f0 ≠ 5 → r.f4 = []) ∧
 (r.f0 = 1 → widerS (findS r.f2 b).1 (findS r.f1 a).1 = true) ∧ (r.f0 = 3 → specValue (findS r.f2 b).1 r.f3 = 0) ∧
 (r.f0 = 4 → paddedS (findS r.f1 a).1 = true ∧ paddedS (findS r.f2 b).1 = true) ∧
 (r.f0 = 5 → r.f4.length ≤ 256 ∧ r.f4.length ≠ 0 ∧ freshS [] r.f4 = true ∧ tableOk (findS r.f1 a).1 (findS r.f2 b).1 r.f4)
theorem specCheck_min {x : S87} (h : specCheck x = 0) : 1 ≤ x.f3 := by
 unfold specCheck at h
 (repeat' split at h) <;> first | (exact absurd h (by decide)) | omega
theorem specValue_ne {x : S87} {s : ByteArray} (h : specValue x s = 0) : (s.data.toList == []) = false := by
 have hz := specValue_facts h
 have h3 := specCheck_min hz.1
 rw [beq_eq_false_iff_ne]
 intro e
 have h0 : s.size = 0 := by
  show s.data.size = 0
  rw [← Array.length_toList,e,List.length_nil]
 omega
set_option maxHeartbeats 4000000 in
theorem rule_Check.at (r : S94) (B : Option Addr) (d : Nat) (st1 ver1 : Int) (A1 : Option Addr) (c1 : Nat) (l1 : List S87) (st2 ver2 : Int) (A2 : Option Addr) (c2 : Nat) (l2 : List S87) (w : World) (hl1 : l1.length ≤ 4611686018427387904) (hl2 : l2.length ≤ 4611686018427387904)
  (hr1 : Kd.C k87 w A1 l1.length l1) (hc1 : l1.length ≤ c1) (hr2 : Kd.C k87 w A2 l2.length l2) (hc2 : l2.length ≤ c2) (hrp : Kd.C k66 w B r.f4.length r.f4) (hcp : r.f4.length ≤ d) (he : ruleOk l1 l2 r) :
  Calls prog 92 #[v94 r B d,.agg #[.int .i64 st1,.int .i64 ver1,.slice A1 l1.length c1],.agg #[.int .i64 st2,.int .i64 ver2,.slice A2 l2.length c2]] w fun e w' => e = .returned (.int .i64 0) ∧ Below w.heap.size w w' := by
 have hu24 := underlying24
 have hu87 := underlying87
 have hu94 := underlying94
 have HR1 := aS hr1
 have HC1 := aS hc1
 have HR2 := aS hr2
 have HC2 := aS hc2
 have HRP := aS hrp
 have HCP := aS hcp
 obtain ⟨k0,he,kt,kp,k1,k3,k4,k5⟩ := he
 have HE := aS he
 clear hr1 hc1 hr2 hc2 hrp hcp he
 obtain ⟨x,b1,hF1⟩ : ∃ x b1,findS r.f1 l1 = (x,b1) := ⟨_,_,rfl⟩
 obtain ⟨y,b2,hF2⟩ : ∃ y b2,findS r.f2 l2 = (y,b2) := ⟨_,_,rfl⟩
 have HF1 := aS hF1
 have HF2 := aS hF2
 rw [hF1] at k4 k5 k1
 rw [hF2] at k1 k3 k4 k5
 simp only at k1 k3 k4 k5
 clear hF1 hF2
 obtain ⟨k,f,t,s,ps⟩ := r
 simp only at k0 kt kp k1 k3 k4 k5
 rcases k0 with rfl | rfl | rfl | rfl | rfl
 ·have K1 := aS (k1 rfl);have es := kt (by decide);have ep := kp (by decide);subst es ep
  clear kt kp k1 k3 k4 k5
  unfold v94
  simp only
  go_enter func92,ntmps92
  go_wp2_with (first | (go_at_call 142;refine (rule_ends.at ⟨1,f,t,⟨#[]⟩,[]⟩ B d st1 ver1 A1 c1 l1 st2 ver2 A2 c2 l2 _ hl1 hl2 (c_B HR1.out (Box3.start w _ _ _).below) HC1.out (c_B HR2.out (Box3.start w _ _ _).below) HC2.out HE.out).mono ?_;rintro e w1 ⟨rfl,hb1⟩;have D := aS (Box3.init hb1);clear hb1;simp only [HF1.out,HF2.out];unfold v87;have PP := fun o o' => cells_5 (blk_alloc (blk_alloc D.out.h1 o) o')) | (go_at_call 143;refine (spec_Wider.at y x _ K1.out).mono ?_;rintro e w2 ⟨rfl,hb1⟩;have HB := aS hb1;clear hb1))
  all_goals go_ret
  all_goals exact ⟨rfl,b_s (b_l (b_l D.out.below _) _) HB.out⟩
 ·have es := kt (by decide);have ep := kp (by decide);subst es ep
  clear kt kp k1 k3 k4 k5
  unfold v94
  simp only
  go_enter func92,ntmps92
  go_wp2_with (first | (go_at_call 142;refine (rule_ends.at ⟨2,f,t,⟨#[]⟩,[]⟩ B d st1 ver1 A1 c1 l1 st2 ver2 A2 c2 l2 _ hl1 hl2 (c_B HR1.out (Box3.start w _ _ _).below) HC1.out (c_B HR2.out (Box3.start w _ _ _).below) HC2.out HE.out).mono ?_;rintro e w1 ⟨rfl,hb1⟩;have D := aS (Box3.init hb1);clear hb1;simp only [HF1.out,HF2.out];unfold v87;have PP := fun o o' => cells_5 (blk_alloc (blk_alloc D.out.h1 o) o')))
  go_ret
  exact ⟨rfl,b_l (b_l D.out.below _) _⟩
 ·have ep := kp (by decide);subst ep;have hv := k3 rfl;have hz := specValue_facts hv;have HSZ : Aside0 (s.size ≤ 1000000) := ⟨by have := hz.2.2.2;omega⟩;have es := specValue_ne hv;have K3 := aS hv;clear hv hz
  clear kt kp k1 k3 k4 k5
  unfold v94
  simp only
  go_enter func92,ntmps92
  go_wp2_with (first | (go_at_call 142;refine (rule_ends.at ⟨3,f,t,s,[]⟩ B d st1 ver1 A1 c1 l1 st2 ver2 A2 c2 l2 _ hl1 hl2 (c_B HR1.out (Box3.start w _ _ _).below) HC1.out (c_B HR2.out (Box3.start w _ _ _).below) HC2.out HE.out).mono ?_;rintro e w1 ⟨rfl,hb1⟩;have D := aS (Box3.init hb1);clear hb1;simp only [HF1.out,HF2.out];unfold v87;have PP := fun o o' => cells_5 (blk_alloc (blk_alloc D.out.h1 o) o')) | (go_at_call 90;refine (spec_Value.at y s _ HSZ.out).mono ?_;rintro e w2 ⟨rfl,hb1⟩;rw [K3.out];have HB := aS hb1;clear hb1))
  all_goals go_ret
  all_goals exact ⟨rfl,b_s (b_l (b_l D.out.below _) _) HB.out⟩
 ·have K1 := aS (k4 rfl).1;have K2 := aS (k4 rfl).2;have es := kt (by decide);have ep := kp (by decide);subst es ep
  clear kt kp k1 k3 k4 k5
  unfold v94
  simp only
  go_enter func92,ntmps92
  go_wp2_with (first | (go_at_call 142;refine (rule_ends.at ⟨4,f,t,⟨#[]⟩,[]⟩ B d st1 ver1 A1 c1 l1 st2 ver2 A2 c2 l2 _ hl1 hl2 (c_B HR1.out (Box3.start w _ _ _).below) HC1.out (c_B HR2.out (Box3.start w _ _ _).below) HC2.out HE.out).mono ?_;rintro e w1 ⟨rfl,hb1⟩;have D := aS (Box3.init hb1);clear hb1;simp only [HF1.out,HF2.out];unfold v87;have PP := fun o o' => cells_5 (blk_alloc (blk_alloc D.out.h1 o) o')) | (go_at_call 144;have D0 := D2;clear D0;refine (rule_padded.at y _ K2.out).mono ?_;rintro e w3 ⟨rfl,hb1⟩;have HB := aS hb1;clear hb1) | (go_at_call 144;refine (rule_padded.at x _ K1.out).mono ?_;rintro e w2 ⟨rfl,hb1⟩;have D2 := aS (Box2.init hb1);clear hb1;have Q := cells_5 D2.out.h2))
  go_ret
  exact ⟨rfl,b_s (b_s D.out.below D2.out.below) HB.out⟩
 ·have K := k5 rfl;have K1 := aS K.1;have K2 := aS K.2.1;have K3 := aS K.2.2.1;have K4 := aS K.2.2.2;have es := kt (by decide);subst es;have e1 : 0 < ps.length := (by have := K.2.1;omega);clear K
  clear kt kp k1 k3 k4 k5
  unfold v94
  simp only
  go_enter func92,ntmps92
  go_wp2_with (first | (go_at_call 142;refine (rule_ends.at ⟨5,f,t,⟨#[]⟩,ps⟩ B d st1 ver1 A1 c1 l1 st2 ver2 A2 c2 l2 _ hl1 hl2 (c_B HR1.out (Box3.start w _ _ _).below) HC1.out (c_B HR2.out (Box3.start w _ _ _).below) HC2.out HE.out).mono ?_;rintro e w1 ⟨rfl,hb1⟩;have D := aS (Box3.init hb1);clear hb1;simp only [HF1.out,HF2.out];unfold v87;have PP := fun o o' => cells_5 (blk_alloc (blk_alloc D.out.h1 o) o')) | (go_at_call 145;refine (rule_table.at B d ps x y _ K1.out K2.out K3.out (c_B HRP.out (b_l (b_l D.out.below _) _)) HCP.out K4.out).mono ?_;rintro e w2 ⟨rfl,hb1⟩;have HB := aS hb1;clear hb1))
  all_goals go_ret
  all_goals exact ⟨rfl,b_s (b_l (b_l D.out.below _) _) HB.out⟩
structure Box1 (w W : World) (a : Obj) : Prop where
 h1 : W.heap[w.heap.size]? = some a
 below : Below w.heap.size w W
theorem Box1.start (w : World) (a : Obj) : Box1 w (w.alloc a) a := ⟨blk_new w a,b_l (Below.refl _ _) _⟩
theorem Box1.step {w W W' : World} {a : Obj} (D : Box1 w W a) (hb : Below W.heap.size W W') : Box1 w W' a := ⟨k_B D.h1 hb,b_s D.below hb⟩
set_option maxHeartbeats 2000000 in
theorem groatref13_Check.at (st ver : Int) (A : Option Addr) (c : Nat) (l : List S87) (w : World) (hl : l.length ≤ 4611686018427387904) (hr : Kd.C k87 w A l.length l) (hc : l.length ≤ c) :
  Calls prog 110 #[.agg #[.int .i64 st,.int .i64 ver,.slice A l.length c]] w fun e w' => e = .returned (.tuple #[.int .i64 (schemaCheck st ver l).1,.int .i64 (schemaCheck st ver l).2]) ∧ Below w.heap.size w w' := by
 have hu24 := underlying24
 have hu87 := underlying87
 have HR := aS hr
 have HC := aS hc
 clear hr hc
 unfold schemaCheck
 by_cases c1 : st ≠ 1 ∧ st ≠ 2
 ·rw [if_pos c1]
  have d1 : (st != 1) = true := bne_iff_ne.mpr c1.1
  have d2 : (st != 2) = true := bne_iff_ne.mpr c1.2
  go_enter func110,ntmps110
  go_wp2
  go_ret2
  exact ⟨rfl,b_l (Below.refl _ _) _⟩
 rw [if_neg c1]
 have hst : st = 1 ∨ st = 2 := by omega
 clear c1
 by_cases c2 : ver < 0 ∨ ver > 9
 ·rw [if_pos c2]
  have hv : (decide (ver < 0) = true) ∨ (decide (ver < 0) = false ∧ decide (9 < ver) = true) := by simp only [decide_eq_true_eq,decide_eq_false_iff_not];omega
  rcases hst with rfl | rfl
  all_goals rcases hv with v1 | ⟨v1,v2⟩
  all_goals clear c2
  all_goals go_enter func110,ntmps110
  all_goals go_wp2
  all_goals go_ret2
  all_goals exact ⟨rfl,b_l (Below.refl _ _) _⟩
 rw [if_neg c2]
 have v1 : decide (ver < 0) = false := d_F (by omega)
 have v2 : decide (9 < ver) = false := d_F (by omega)
 clear c2
 have D := aS (Box1.start w (.cells #[.int .i64 st,.int .i64 ver,.slice A l.length c] 24))
 have HST := aS hst
 rcases hst with rfl | rfl
 all_goals
  go_enter func110,ntmps110
  go_wp2
  go_loopg [4,5] l.length (fun g v4 v5 w' => ∃ (i : Nat) (last : Int),v4 = .int .i64 last ∧ v5 = .int .i64 i ∧ i + g = l.length ∧ (i = 0 → last = 0) ∧ Aside0 (scF (l.drop i) last i = scF l 0 0) ∧ Aside0 (Box1 w w' (.cells #[.int .i64 _,.int .i64 ver,.slice A l.length c] 24)))
  case atStart => exact ⟨0,0,rfl,rfl,Nat.zero_add _,fun _ => rfl,⟨rfl⟩,D⟩
  case round =>
   clear D
   obtain ⟨i,last,rfl,rfl,hi,hz,HF,D⟩ := hrel
   obtain ⟨hb0,hb1,hb2⟩ := cells_3 D.out.h1
   by_cases h : i < l.length
   ·have c0 : decide ((i : Int) < l.length) = true := d_T (by omega)
    obtain ⟨ad,rfl,hx0,hx1,hx2,hx3,hx4⟩ := at87 HR.out D.out.below i h
    have p : (0 ≤ (i : Int)) = True := eq_true (by omega)
    have q : ((i : Int) < l.length) = True := eq_true (by omega)
    have hf := HF.out
    rw [drop87 h,scF] at hf
    clear HF
    have HX : Aside0 (∀ W,Below w.heap.size w W → W.cell? (ad.add (i * 5)) = some (.int .i64 (rd_T87 l (i : Int)).f0)) := ⟨fun W hb => by
     obtain ⟨ad',h',h0,_⟩ := at87 HR.out hb i h
     cases h'
     exact h0⟩
    generalize rd_T87 l (i : Int) = x at *
    by_cases e : specCheck x = 0
    ·rw [if_neg (by rw [e];decide)] at hf
     have hs2 := (specCheck_facts e).1
     have HE := aS e
     by_cases o : x.f0 ≤ last
     ·rw [if_pos ⟨by omega,o⟩] at hf
      have HF := aS hf
      clear hf hz e
      have o1 : decide (x.f0 ≤ last) = true := d_T o
      go_wp2_with (first | (go_at_call 113;refine (groatref11_Check.at x _).mono ?_;rintro e w2 ⟨rfl,hb⟩;rw [HE.out];have D_ := aS (D.out.step hb);clear D hb hb0 hb1 hb2 hx0 hx1 hx2 hx3 hx4;have D := D_;clear D_;obtain ⟨hb0,hb1,hb2⟩ := cells_3 D.out.h1;have hy0 := HX.out _ D.out.below))
      go_ret2
      exact ⟨by rw [← HF.out];rfl,D.out.below⟩
     ·rw [if_neg (fun c => o c.2)] at hf
      have HF := aS hf
      clear hf hz e
      have o1 : decide (x.f0 ≤ last) = false := d_F o
      go_wp2_with (first | (go_at_call 113;refine (groatref11_Check.at x _).mono ?_;rintro e w2 ⟨rfl,hb⟩;rw [HE.out];have D_ := aS (D.out.step hb);clear D hb hb0 hb1 hb2 hx0 hx1 hx2 hx3 hx4;have D := D_;clear D_;obtain ⟨hb0,hb1,hb2⟩ := cells_3 D.out.h1;have hy0 := HX.out _ D.out.below))
      obtain ⟨g,rfl⟩ : ∃ g,gk = g + 1 := ⟨gk - 1,by omega⟩
      go_roundg g
      case rel => exact ⟨i + 1,x.f0,rfl,rfl,by omega,fun c => by omega,HF,D⟩
      case measure => omega
    ·rw [if_pos e] at hf
     have HF := aS hf
     clear hf hz
     have e0 : (specCheck x != 0) = true := bne_iff_ne.mpr e
     go_wp2_with (first | (go_at_call 113;refine (groatref11_Check.at x _).mono ?_;rintro e w2 ⟨rfl,hb⟩;have D_ := aS (D.out.step hb);clear D hb hb0 hb1 hb2 hx0 hx1 hx2 hx3 hx4;have D := D_;clear D_;obtain ⟨hb0,hb1,hb2⟩ := cells_3 D.out.h1;have hy0 := HX.out _ D.out.below))
     go_ret2
     exact ⟨by rw [← HF.out];rfl,D.out.below⟩
   ·have c0 : decide ((i : Int) < l.length) = false := d_F (by omega)
    have hf := HF.out
    rw [List.drop_of_length_le (by omega),scF] at hf
    clear HF
    have HF := aS hf
    clear hf
    go_wp2
    go_ret2
    exact ⟨by rw [← HF.out];rfl,D.out.below⟩
theorem groatref13_Right.at (st ver : Int) (A : Option Addr) (c : Nat) (l : List S87) (w : World) (hl : l.length ≤ 4611686018427387904) (hr : Kd.C k87 w A l.length l) (hc : l.length ≤ c) :
  Calls prog 52 #[.agg #[.int .i64 st,.int .i64 ver,.slice A l.length c]] w fun e w' => e = .returned (.bool (decide ((schemaCheck st ver l).1 = 0))) ∧ Below w.heap.size w w' := by
 have hu24 := underlying24
 have HR := aS hr
 have HC := aS hc
 obtain ⟨z,hz⟩ : ∃ z,schemaCheck st ver l = z := ⟨_,rfl⟩
 have HZ := aS hz
 rw [hz]
 have e0 : (z.1 == 0) = decide (z.1 = 0) := by rw [Bool.eq_iff_iff,beq_iff_eq,decide_eq_true_eq]
 clear hr hc hz
 go_enter func52,ntmps52
 go_wp2_with (first | (go_at_call 110;refine (groatref13_Check.at st ver A c l _ hl (c_B HR.out (bO _)) HC.out).mono ?_;rintro e w2 ⟨rfl,hb⟩;rw [HZ.out]))
 go_ret
 exact ⟨rfl,below_a1 hb⟩
set_option maxHeartbeats 4000000 in
theorem strict_Decode.at (st ver : Int) (A : Option Addr) (c : Nat) (l : List S87) (b : ByteArray) (w : World) (hl : l.length ≤ 4611686018427387904) (hr : Kd.C k87 w A l.length l) (hc : l.length ≤ c) (hs : (schemaCheck st ver l).1 = 0) (hb : b.size ≤ 100000) :
  Calls prog 10 #[.agg #[.int .i64 st,.int .i64 ver,.slice A l.length c],.string b] w fun e w' => (∃ A' c',e = .returned (.tuple #[.agg #[.string (decG st ver l b).1.1,.slice A' (decG st ver l b).1.2.length c'],.agg #[.int .i64 (decG st ver l b).2.1,.int .i64 (decG st ver l b).2.2]]) ∧ (decG st ver l b).1.2.length ≤ c' ∧ Kd.C k63 w' A' (decG st ver l b).1.2.length (decG st ver l b).1.2) ∧ Below w.heap.size w w' := by
 have hu24 := underlying24
 have hu42 := underlying42
 have hu45 := underlying45
 have hu82 := underlying82
 have hu87 := underlying87
 obtain ⟨hst,hver,hall⟩ := schemaCheck_ok hs
 have HALL := aS hall
 have HR := aS hr
 have HC := aS hc
 have HBZ := aS hb
 obtain ⟨s2,hsc⟩ : ∃ s2,schemaCheck st ver l = (0,s2) := ⟨_,by rw [← hs]⟩
 clear hr hc hs hver hall hb
 obtain ⟨r,hg⟩ : ∃ r,decG st ver l b = r := ⟨_,rfl⟩
 rw [hg]
 rw [decG] at hg
 have hok := typG_ok (st := st) (ver := ver) (b := b)
 obtain ⟨t1,t2,t3,ht⟩ : ∃ t1 t2 t3,typG st ver b = (t1,t2,t3) := ⟨_,_,_,rfl⟩
 rw [ht] at hg hok
 simp only at hg hok
 by_cases k1 : t3 = 0
 ·have e1 : (t3 != 0) = false := bne_eq_false_iff_eq.mpr k1
  rw [if_neg (by omega),decB] at hg
  have hi := hok k1
  have HI0 : Aside0 (0 ≤ t2) := ⟨hi.1⟩
  have HI1 : Aside0 (t2 ≤ b.size) := ⟨hi.2⟩
  have hok2 := bmG_ok (st := st) hi.1 hi.2
  obtain ⟨p,i0,e3,hbm⟩ : ∃ p i0 e3,bmG st b t2 = (p,i0,e3) := ⟨_,_,_,rfl⟩
  rw [hbm] at hg hok2
  simp only at hg hok2
  clear hok hi k1
  by_cases k2 : e3 = 0
  ·have e2 : (e3 != 0) = false := bne_eq_false_iff_eq.mpr k2
   rw [if_neg (by omega)] at hg
   have hi := hok2 k2
   clear hok2 k2
   go_enter func10,ntmps10
   go_wp2_with (first | (go_at_call 32;refine (schema_Check.at st ver A c l _ hl (c_B HR.out (by repeat (first | exact Below.refl _ _ | apply b_l))) HC.out).mono ?_;rintro e w1 ⟨rfl,hb1⟩;rw [hsc];have D := aS (Dec4.init hb1);clear hb1;obtain ⟨⟨a0,a1,a2⟩,⟨b0,b1⟩,⟨c0,c1⟩,⟨d0,d1⟩⟩ := D.out.facts;obtain ⟨⟨fb0,fb1⟩,⟨fc0,fc1⟩,⟨fd0,fd1⟩⟩ := D.out.frozen;have DA := fun o => (Dec4.step D.out (b_l (Below.refl _ _) o)).facts;have DF := fun o => (Dec4.step D.out (b_l (Below.refl _ _) o)).frozen) | (go_at_call 33;refine (strict_typed.at _ _ _ _ _ hst HBZ.out ⟨_,_,_,rfl⟩).mono ?_;rintro e w2 ⟨rfl,hb1⟩;rw [ht];have D_ := aS (Dec4.step (D.out) hb1);clear a0 a1 a2 b0 b1 c0 c1 d0 d1 fb0 fb1 fc0 fc1 fd0 fd1 DA DF;clear D hb1;have D := D_;clear D_;obtain ⟨⟨a0,a1,a2⟩,⟨b0,b1⟩,⟨c0,c1⟩,⟨d0,d1⟩⟩ := D.out.facts;obtain ⟨⟨fb0,fb1⟩,⟨fc0,fc1⟩,⟨fd0,fd1⟩⟩ := D.out.frozen;have DA := fun o => (Dec4.step D.out (b_l (Below.refl _ _) o)).facts;have DF := fun o => (Dec4.step D.out (b_l (Below.refl _ _) o)).frozen) | (go_at_call 34;refine (bitmap_Get.at _ _ _ _ hst HI0.out HI1.out HBZ.out).mono ?_;rintro e w3 ⟨rfl,hb1⟩;rw [hbm];have D_ := aS (Dec4.step (D.out.mti _) hb1);clear a0 a1 a2 b0 b1 c0 c1 d0 d1 fb0 fb1 fc0 fc1 fd0 fd1 DA DF;clear D hb1;have D := D_;clear D_;obtain ⟨⟨a0,a1,a2⟩,⟨b0,b1⟩,⟨c0,c1⟩,⟨d0,d1⟩⟩ := D.out.facts;obtain ⟨⟨fb0,fb1⟩,⟨fc0,fc1⟩,⟨fd0,fd1⟩⟩ := D.out.frozen;have DA := fun o => (Dec4.step D.out (b_l (Below.refl _ _) o)).facts;have DF := fun o => (Dec4.step D.out (b_l (Below.refl _ _) o)).frozen;simp only [vSet]) | (go_at_call 35;refine (fields_Next.at p _ _ (by omega) (by omega)).mono ?_;rintro e w4 ⟨rfl,hb1⟩;have B12 := aS (blk_nb hb1);have D_ := aS (Dec4.step (Dec4.step D.out (bO _)) hb1);clear a0 a1 a2 b0 b1 c0 c1 d0 d1 fb0 fb1 fc0 fc1 fd0 fd1 DA DF;clear D hb1;have D := D_;clear D_;obtain ⟨⟨a0,a1,a2⟩,⟨b0,b1⟩,⟨c0,c1⟩,⟨d0,d1⟩⟩ := D.out.facts;obtain ⟨⟨fb0,fb1⟩,⟨fc0,fc1⟩,⟨fd0,fd1⟩⟩ := D.out.frozen;have DA := fun o => (Dec4.step D.out (b_l (Below.refl _ _) o)).facts;have DF := fun o => (Dec4.step D.out (b_l (Below.refl _ _) o)).frozen;have s0 := blk_cell B12.out 0;have s1 := blk_cell B12.out 1))
   have HI := aS hi
   have HN0 := nextS_range p 0 (by omega) (by omega)
   have HLP0 : Aside0 (Kd.R k63 63 w4 w.heap.size (okD w.heap.size) (.slice none 0 0) []) := ⟨Kd.R_nil _ _ _ _ _⟩
   clear a0 a1 a2 b0 b1 c0 c1 d0 d1 fb0 fb1 fc0 fc1 fd0 fd1 DA DF
   clear s0 s1
   go_loopg [10,13] 129 (fun g v10 v13 w' => ∃ (xs : List S63) (no i : Int) (v : Value),v10 = .int .i64 i ∧ v13 = .int .i64 no ∧ 0 ≤ i ∧ i ≤ b.size ∧ (no = 0 ∨ 0 < no ∧ no ≤ 128) ∧ (no ≠ 0 → 128 - no < g) ∧ Aside0 (xs.length + g ≤ 129) ∧ Aside0 (decLoop st l p b g no i xs = decLoop st l p b 129 (nextS p 0) i0 []) ∧ Aside0 (Dec4 w w' st ver (.slice A l.length c) t1 v) ∧ Aside0 (Kd.R k63 63 w' w.heap.size (okD w.heap.size) v xs) ∧ Aside0 (w'.heap[w3.heap.size]? = some (.cells #[.int .u64 p.1,.int .u64 p.2] 82 (0,0))))
   case atStart => exact ⟨[],_,_,_,rfl,rfl,HI.out.1,HI.out.2,by omega,by omega,⟨by simp⟩,⟨rfl⟩,D,HLP0,B12⟩
   case round =>
    clear HLP0 D B12 HI HN0
    obtain ⟨xs,no,i,v,rfl,rfl,hi0,hi1,hno,hg0,HLN,HF,D,HO,B12⟩ := hrel
    obtain ⟨Av,cv,hv0⟩ := Kd.R_slice HO.out
    subst hv0
    obtain ⟨⟨a0,a1,a2⟩,⟨b0,b1⟩,⟨c0,c1⟩,⟨d0,d1⟩⟩ := D.out.facts;obtain ⟨⟨fb0,fb1⟩,⟨fc0,fc1⟩,⟨fd0,fd1⟩⟩ := D.out.frozen;have DA := fun o => (Dec4.step D.out (b_l (Below.refl _ _) o)).facts;have DF := fun o => (Dec4.step D.out (b_l (Below.refl _ _) o)).frozen
    have s0 := blk_cell B12.out 0
    have s1 := blk_cell B12.out 1
    by_cases k3 : no = 0
    ·subst k3
     have hf : (xs,(0 : Int),(0 : Int),i) = decLoop st l p b 129 (nextS p 0) i0 [] := by
      rw [← HF.out]
      cases gk with
      | zero => rfl
      | succ g => rw [decLoop,if_pos rfl]
     rw [← hf,if_neg (by simp)] at hg
     simp only at hg
     by_cases k4 : i < b.size
     ·rw [if_pos k4] at hg
      have HG := aS hg
      have e5 : decide (i < (b.size : Int)) = true := d_T k4
      clear hg hf k4 HF
      go_wp2
      obtain ⟨z1,z2,z3⟩ := Dec4.fin D.out (.string t1) (.slice Av xs.length cv) (.int .i64 12) (.int .i64 129)
      obtain ⟨A',c',hv,hroom,hCr⟩ := Dec4.row (w := w) (u0 := .string t1) (u1 := .slice Av xs.length cv) (x0 := .int .i64 12) (x1 := .int .i64 129) HO.out
      refine bodyPost_ret (results_cc rfl _ _ (w.heap.size + 1) (w.heap.size + 1 + 1) 42 45 _ _ (0,0) (0,0) _ _ rfl z1 hu42 rfl (by kernel_rfl) rfl z2 hu45 rfl (by kernel_rfl)) rfl ?_
      obtain rfl := HG.out
      exact ⟨⟨A',c',by rw [← hv],hroom,hCr⟩,z3⟩
     ·rw [if_neg k4] at hg
      have HG := aS hg
      have e5 : decide (i < (b.size : Int)) = false := d_F k4
      clear hg hf k4 HF
      go_wp2
      obtain ⟨z1,z2,z3⟩ := Dec4.fin D.out (.string t1) (.slice Av xs.length cv) (.int .i64 0) (.int .i64 0)
      obtain ⟨A',c',hv,hroom,hCr⟩ := Dec4.row (w := w) (u0 := .string t1) (u1 := .slice Av xs.length cv) (x0 := .int .i64 0) (x1 := .int .i64 0) HO.out
      refine bodyPost_ret (results_cc rfl _ _ (w.heap.size + 1) (w.heap.size + 1 + 1) 42 45 _ _ (0,0) (0,0) _ _ rfl z1 hu42 rfl (by kernel_rfl) rfl z2 hu45 rfl (by kernel_rfl)) rfl ?_
      obtain rfl := HG.out
      exact ⟨⟨A',c',by rw [← hv],hroom,hCr⟩,z3⟩
    ·obtain ⟨g,rfl⟩ : ∃ g,gk = g + 1 := ⟨gk - 1,by have := hg0 k3;omega⟩
     have e4 : (no != 0) = true := bne_iff_ne.mpr k3
     have hf := HF.out
     clear HF
     rw [decLoop,if_neg k3] at hf
     have HN := nextS_range p no (by omega) (by omega)
     have hg1 := hg0 k3
     have hn1 : 0 < no ∧ no ≤ 128 := by omega
     have hfk := @findS_ok no l
     obtain ⟨x,ok,hF⟩ : ∃ x ok,findS no l = (x,ok) := ⟨_,_,rfl⟩
     rw [hF] at hf hfk
     simp only at hf hfk
     clear hg0 hno k3
     cases ok with
     | false =>
      rw [if_pos rfl] at hf
      rw [← hf,if_pos (by simp)] at hg
      have HG := aS hg
      clear hg hf hfk
      go_wp2_with (first | (go_at_call 36;refine (schema_Find.at st ver A c l _ _ hl (c_B HR.out D.out.below) HC.out).mono ?_;rintro e w5 ⟨rfl,hb1⟩;rw [hF];have D_ := aS (Dec4.step D.out hb1);have HO_ := aS (Kd.R_below HO.out hb1);have B12_ := aS (k_B B12.out hb1);clear a0 a1 a2 b0 b1 c0 c1 d0 d1 fb0 fb1 fc0 fc1 fd0 fd1 DA DF;clear D HO B12 s0 s1 hb1;have D := D_;have HO := HO_;have B12 := B12_;clear D_ HO_ B12_;have s0 := blk_cell B12.out 0;have s1 := blk_cell B12.out 1;obtain ⟨⟨a0,a1,a2⟩,⟨b0,b1⟩,⟨c0,c1⟩,⟨d0,d1⟩⟩ := D.out.facts;obtain ⟨⟨fb0,fb1⟩,⟨fc0,fc1⟩,⟨fd0,fd1⟩⟩ := D.out.frozen;have DA := fun o => (Dec4.step D.out (b_l (Below.refl _ _) o)).facts;have DF := fun o => (Dec4.step D.out (b_l (Below.refl _ _) o)).frozen;simp only [v87]))
      obtain ⟨z1,z2,z3⟩ := Dec4.fin (Dec4.step D.out (b_l (Below.refl _ _) (.cells #[.int .i64 x.f0,.int .i64 x.f1,.int .i64 x.f2,.int .i64 x.f3,.int .i64 x.f4] 87))) (.string t1) (.slice Av xs.length cv) (.int .i64 9) (.int .i64 no)
      obtain ⟨A',c',hv,hroom,hCr⟩ := Dec4.row (w := w) (u0 := .string t1) (u1 := .slice Av xs.length cv) (x0 := .int .i64 9) (x1 := .int .i64 no) (Kd.R_alloc HO.out (.cells #[.int .i64 x.f0,.int .i64 x.f1,.int .i64 x.f2,.int .i64 x.f3,.int .i64 x.f4] 87))
      refine bodyPost_ret (results_cc rfl _ _ (w.heap.size + 1) (w.heap.size + 1 + 1) 42 45 _ _ (0,0) (0,0) _ _ rfl z1 hu42 rfl (by kernel_rfl) rfl z2 hu45 rfl (by kernel_rfl)) rfl ?_
      obtain rfl := HG.out
      exact ⟨⟨A',c',by rw [← hv],hroom,hCr⟩,z3⟩
     | true =>
      have HX : Aside0 (specCheck x = 0) := ⟨HALL.out x (hfk rfl).1⟩
      rw [if_neg (by decide)] at hf
      have HI0 : Aside0 (0 ≤ i) := ⟨hi0⟩
      have HI1 : Aside0 (i ≤ b.size) := ⟨hi1⟩
      have hck := cellG_ok (st := st) hst HX.out hi0 hi1
      obtain ⟨tx,j,e7,hC⟩ : ∃ tx j e7,cellG st x b i = (tx,j,e7) := ⟨_,_,_,rfl⟩
      rw [hC] at hf hck
      simp only at hf hck
      clear hfk
      by_cases k5 : e7 = 0
      ·have e8 : (e7 != 0) = false := bne_eq_false_iff_eq.mpr k5
       rw [if_neg (by omega)] at hf
       have hj := hck k5
       have HJ := aS hj
       obtain ⟨ys,hys⟩ : ∃ ys,ys = xs ++ [(⟨no,tx⟩ : S63)] := ⟨_,rfl⟩
       rw [← hys] at hf
       have HF := aS hf
       have HYS := aS hys
       clear hf hck k5 hj hys
       go_wp2_with (first | (go_at_call 36;refine (schema_Find.at st ver A c l _ _ hl (c_B HR.out D.out.below) HC.out).mono ?_;rintro e w5 ⟨rfl,hb1⟩;rw [hF];have D_ := aS (Dec4.step D.out hb1);have HO_ := aS (Kd.R_below HO.out hb1);have B12_ := aS (k_B B12.out hb1);clear a0 a1 a2 b0 b1 c0 c1 d0 d1 fb0 fb1 fc0 fc1 fd0 fd1 DA DF;clear D HO B12 s0 s1 hb1;have D := D_;have HO := HO_;have B12 := B12_;clear D_ HO_ B12_;have s0 := blk_cell B12.out 0;have s1 := blk_cell B12.out 1;obtain ⟨⟨a0,a1,a2⟩,⟨b0,b1⟩,⟨c0,c1⟩,⟨d0,d1⟩⟩ := D.out.facts;obtain ⟨⟨fb0,fb1⟩,⟨fc0,fc1⟩,⟨fd0,fd1⟩⟩ := D.out.frozen;have DA := fun o => (Dec4.step D.out (b_l (Below.refl _ _) o)).facts;have DF := fun o => (Dec4.step D.out (b_l (Below.refl _ _) o)).frozen;simp only [v87]) | (go_at_call 37;refine (cell_Get.at st x b i _ hst HX.out HI0.out HI1.out HBZ.out).mono ?_;rintro e w6 ⟨rfl,hb2⟩;rw [hC];have hb1 := below_a1 hb2;clear hb2;have D_ := aS (Dec4.step D.out hb1);have HO_ := aS (Kd.R_below HO.out hb1);have B12_ := aS (k_B B12.out hb1);clear a0 a1 a2 b0 b1 c0 c1 d0 d1 fb0 fb1 fc0 fc1 fd0 fd1 DA DF;clear D HO B12 s0 s1 hb1;have D := D_;have HO := HO_;have B12 := B12_;clear D_ HO_ B12_;have s0 := blk_cell B12.out 0;have s1 := blk_cell B12.out 1;obtain ⟨⟨a0,a1,a2⟩,⟨b0,b1⟩,⟨c0,c1⟩,⟨d0,d1⟩⟩ := D.out.facts;obtain ⟨⟨fb0,fb1⟩,⟨fc0,fc1⟩,⟨fd0,fd1⟩⟩ := D.out.frozen;have DA := fun o => (Dec4.step D.out (b_l (Below.refl _ _) o)).facts;have DF := fun o => (Dec4.step D.out (b_l (Below.refl _ _) o)).frozen) | ((with_reducible refine gate_builtin (b := .append) (xs := #[.tmp 91,.tmp 95]) rfl ?_);at_builtin;go_loud (refine Kd.R_append k63 (w0 := w) w.heap.size rfl (.tmp 91) (.tmp 95) 40 63 (.agg #[(.int .i64 0),(.string ⟨#[]⟩)]) 24 rfl underlying40 info63 rfl (by decide) (by omega) (.slice Av xs.length cv) xs (⟨no,tx⟩ : S63) [.int .i64 no,.string tx] (okD w.heap.size) (fun _ => False) rfl rfl (k63_mkM _ _ _ (⟨no,tx⟩ : S63)) (fun _ hk => hk.elim) (okD_fresh D.out) HO.out D.out.below D.out.below.size (by have := HLN.out;omega) ?_;intro v1 w7 ho hb hg hat;rw [← HYS.out] at ho;obtain ⟨A1,cc1,hv1⟩ := Kd.R_slice ho;subst hv1;have HO_ := aS ho;have B12_ := aS (blk_grown B12.out hg (Kd.R_ne HO.out B12.out (by decide)));have D_ := aS (Dec4.grown D.out HO.out hg hb);clear a0 a1 a2 b0 b1 c0 c1 d0 d1 fb0 fb1 fc0 fc1 fd0 fd1 DA DF;clear D HO B12 s0 s1 ho hb hg hat;have D := D_;have HO := HO_;have B12 := B12_;clear D_ HO_ B12_;have s0 := blk_cell B12.out 0;have s1 := blk_cell B12.out 1;have s2 := fun u => blk_cell (far ⟨w.heap.size + 1 + 1 + 1,1,none⟩ u B12.out (blk_ne B12.out D.out.b6 (by decide))) 0;have s3 := fun u => blk_cell (far ⟨w.heap.size + 1 + 1 + 1,1,none⟩ u B12.out (blk_ne B12.out D.out.b6 (by decide))) 1;obtain ⟨⟨a0,a1,a2⟩,⟨b0,b1⟩,⟨c0,c1⟩,⟨d0,d1⟩⟩ := D.out.facts;obtain ⟨⟨fb0,fb1⟩,⟨fc0,fc1⟩,⟨fd0,fd1⟩⟩ := D.out.frozen;have DA := fun o => (Dec4.step D.out (b_l (Below.refl _ _) o)).facts;have DF := fun o => (Dec4.step D.out (b_l (Below.refl _ _) o)).frozen)) | (go_at_call 35;refine (fields_Next.at p _ _ (by omega) (by omega)).mono ?_;rintro e w8 ⟨rfl,hb1⟩;have D_ := aS (Dec4.step (D.out.fields (.slice A1 ys.length cc1)) hb1);have HO_ := aS (Kd.R_below (Kd.R_far HO.out (p := ⟨w.heap.size + 1 + 1 + 1,1,none⟩) (fun k hk => hk.2.2) (.slice A1 ys.length cc1)) hb1);have B12_ := aS (k_B (far ⟨w.heap.size + 1 + 1 + 1,1,none⟩ (.slice A1 ys.length cc1) B12.out (blk_ne B12.out D.out.b6 (by decide))) hb1);clear D HO B12;have D := D_;have HO := HO_;have B12 := B12_;clear D_ HO_ B12_))
       go_roundg g
       case measure => omega
       case rel => exact ⟨ys,nextS p no,j,_,rfl,rfl,HJ.out.1,HJ.out.2.1,by omega,by omega,⟨by rw [HYS.out,List.length_append,List.length_singleton];have := HLN.out;omega⟩,HF,D,HO,B12⟩
      ·have e8 : (e7 != 0) = true := bne_iff_ne.mpr k5
       rw [if_pos k5] at hf
       rw [← hf,if_pos (by simpa using k5)] at hg
       have HG := aS hg
       clear hg hf hck k5
       go_wp2_with (first | (go_at_call 36;refine (schema_Find.at st ver A c l _ _ hl (c_B HR.out D.out.below) HC.out).mono ?_;rintro e w5 ⟨rfl,hb1⟩;rw [hF];have D_ := aS (Dec4.step D.out hb1);have HO_ := aS (Kd.R_below HO.out hb1);have B12_ := aS (k_B B12.out hb1);clear a0 a1 a2 b0 b1 c0 c1 d0 d1 fb0 fb1 fc0 fc1 fd0 fd1 DA DF;clear D HO B12 s0 s1 hb1;have D := D_;have HO := HO_;have B12 := B12_;clear D_ HO_ B12_;have s0 := blk_cell B12.out 0;have s1 := blk_cell B12.out 1;obtain ⟨⟨a0,a1,a2⟩,⟨b0,b1⟩,⟨c0,c1⟩,⟨d0,d1⟩⟩ := D.out.facts;obtain ⟨⟨fb0,fb1⟩,⟨fc0,fc1⟩,⟨fd0,fd1⟩⟩ := D.out.frozen;have DA := fun o => (Dec4.step D.out (b_l (Below.refl _ _) o)).facts;have DF := fun o => (Dec4.step D.out (b_l (Below.refl _ _) o)).frozen;simp only [v87]) | (go_at_call 37;refine (cell_Get.at st x b i _ hst HX.out HI0.out HI1.out HBZ.out).mono ?_;rintro e w6 ⟨rfl,hb2⟩;rw [hC];have hb1 := below_a1 hb2;clear hb2;have D_ := aS (Dec4.step D.out hb1);have HO_ := aS (Kd.R_below HO.out hb1);have B12_ := aS (k_B B12.out hb1);clear a0 a1 a2 b0 b1 c0 c1 d0 d1 fb0 fb1 fc0 fc1 fd0 fd1 DA DF;clear D HO B12 s0 s1 hb1;have D := D_;have HO := HO_;have B12 := B12_;clear D_ HO_ B12_;have s0 := blk_cell B12.out 0;have s1 := blk_cell B12.out 1;obtain ⟨⟨a0,a1,a2⟩,⟨b0,b1⟩,⟨c0,c1⟩,⟨d0,d1⟩⟩ := D.out.facts;obtain ⟨⟨fb0,fb1⟩,⟨fc0,fc1⟩,⟨fd0,fd1⟩⟩ := D.out.frozen;have DA := fun o => (Dec4.step D.out (b_l (Below.refl _ _) o)).facts;have DF := fun o => (Dec4.step D.out (b_l (Below.refl _ _) o)).frozen))
       obtain ⟨z1,z2,z3⟩ := Dec4.fin D.out (.string t1) (.slice Av xs.length cv) (.int .i64 e7) (.int .i64 no)
       obtain ⟨A',c',hv,hroom,hCr⟩ := Dec4.row (w := w) (u0 := .string t1) (u1 := .slice Av xs.length cv) (x0 := .int .i64 e7) (x1 := .int .i64 no) HO.out
       refine bodyPost_ret (results_cc rfl _ _ (w.heap.size + 1) (w.heap.size + 1 + 1) 42 45 _ _ (0,0) (0,0) _ _ rfl z1 hu42 rfl (by kernel_rfl) rfl z2 hu45 rfl (by kernel_rfl)) rfl ?_
       obtain rfl := HG.out
       exact ⟨⟨A',c',by rw [← hv],hroom,hCr⟩,z3⟩
  ·have e2 : (e3 != 0) = true := bne_iff_ne.mpr k2
   rw [if_pos k2] at hg
   have HG := aS hg
   clear hg hok2 k2
   go_enter func10,ntmps10
   go_wp2_with (first | (go_at_call 32;refine (schema_Check.at st ver A c l _ hl (c_B HR.out (by repeat (first | exact Below.refl _ _ | apply b_l))) HC.out).mono ?_;rintro e w1 ⟨rfl,hb1⟩;rw [hsc];have D := aS (Dec4.init hb1);clear hb1;obtain ⟨⟨a0,a1,a2⟩,⟨b0,b1⟩,⟨c0,c1⟩,⟨d0,d1⟩⟩ := D.out.facts;obtain ⟨⟨fb0,fb1⟩,⟨fc0,fc1⟩,⟨fd0,fd1⟩⟩ := D.out.frozen;have DA := fun o => (Dec4.step D.out (b_l (Below.refl _ _) o)).facts;have DF := fun o => (Dec4.step D.out (b_l (Below.refl _ _) o)).frozen) | (go_at_call 33;refine (strict_typed.at _ _ _ _ _ hst HBZ.out ⟨_,_,_,rfl⟩).mono ?_;rintro e w2 ⟨rfl,hb1⟩;rw [ht];have D_ := aS (Dec4.step (D.out) hb1);clear a0 a1 a2 b0 b1 c0 c1 d0 d1 fb0 fb1 fc0 fc1 fd0 fd1 DA DF;clear D hb1;have D := D_;clear D_;obtain ⟨⟨a0,a1,a2⟩,⟨b0,b1⟩,⟨c0,c1⟩,⟨d0,d1⟩⟩ := D.out.facts;obtain ⟨⟨fb0,fb1⟩,⟨fc0,fc1⟩,⟨fd0,fd1⟩⟩ := D.out.frozen;have DA := fun o => (Dec4.step D.out (b_l (Below.refl _ _) o)).facts;have DF := fun o => (Dec4.step D.out (b_l (Below.refl _ _) o)).frozen) | (go_at_call 34;refine (bitmap_Get.at _ _ _ _ hst HI0.out HI1.out HBZ.out).mono ?_;rintro e w3 ⟨rfl,hb1⟩;rw [hbm];have D_ := aS (Dec4.step (D.out.mti _) hb1);clear a0 a1 a2 b0 b1 c0 c1 d0 d1 fb0 fb1 fc0 fc1 fd0 fd1 DA DF;clear D hb1;have D := D_;clear D_;obtain ⟨⟨a0,a1,a2⟩,⟨b0,b1⟩,⟨c0,c1⟩,⟨d0,d1⟩⟩ := D.out.facts;obtain ⟨⟨fb0,fb1⟩,⟨fc0,fc1⟩,⟨fd0,fd1⟩⟩ := D.out.frozen;have DA := fun o => (Dec4.step D.out (b_l (Below.refl _ _) o)).facts;have DF := fun o => (Dec4.step D.out (b_l (Below.refl _ _) o)).frozen;simp only [vSet]))
   obtain ⟨z1,z2,z3⟩ := Dec4.fin (Dec4.step D.out (b_l (Below.refl _ _) (.cells #[.int .u64 p.1,.int .u64 p.2] 82))) (.string t1) (.slice none 0 0) (.int .i64 e3) (.int .i64 1)
   refine bodyPost_ret (results_cc rfl _ _ (w.heap.size + 1) (w.heap.size + 1 + 1) 42 45 _ _ (0,0) (0,0) _ _ rfl z1 hu42 rfl (by kernel_rfl) rfl z2 hu45 rfl (by kernel_rfl)) rfl ?_
   obtain rfl := HG.out
   exact ⟨⟨none,0,rfl,Nat.le_refl _,Kd.C_nil _ _⟩,z3⟩
 ·have e1 : (t3 != 0) = true := bne_iff_ne.mpr k1
  rw [if_pos k1] at hg
  have HG := aS hg
  clear hg hok k1
  go_enter func10,ntmps10
  go_wp2_with (first | (go_at_call 32;refine (schema_Check.at st ver A c l _ hl (c_B HR.out (by repeat (first | exact Below.refl _ _ | apply b_l))) HC.out).mono ?_;rintro e w1 ⟨rfl,hb1⟩;rw [hsc];have D := aS (Dec4.init hb1);clear hb1;obtain ⟨⟨a0,a1,a2⟩,⟨b0,b1⟩,⟨c0,c1⟩,⟨d0,d1⟩⟩ := D.out.facts;obtain ⟨⟨fb0,fb1⟩,⟨fc0,fc1⟩,⟨fd0,fd1⟩⟩ := D.out.frozen;have DA := fun o => (Dec4.step D.out (b_l (Below.refl _ _) o)).facts;have DF := fun o => (Dec4.step D.out (b_l (Below.refl _ _) o)).frozen) | (go_at_call 33;refine (strict_typed.at _ _ _ _ _ hst HBZ.out ⟨_,_,_,rfl⟩).mono ?_;rintro e w2 ⟨rfl,hb1⟩;rw [ht];have D_ := aS (Dec4.step (D.out) hb1);clear a0 a1 a2 b0 b1 c0 c1 d0 d1 fb0 fb1 fc0 fc1 fd0 fd1 DA DF;clear D hb1;have D := D_;clear D_;obtain ⟨⟨a0,a1,a2⟩,⟨b0,b1⟩,⟨c0,c1⟩,⟨d0,d1⟩⟩ := D.out.facts;obtain ⟨⟨fb0,fb1⟩,⟨fc0,fc1⟩,⟨fd0,fd1⟩⟩ := D.out.frozen;have DA := fun o => (Dec4.step D.out (b_l (Below.refl _ _) o)).facts;have DF := fun o => (Dec4.step D.out (b_l (Below.refl _ _) o)).frozen))
  obtain ⟨z1,z2,z3⟩ := D.out.fin (.string ⟨#[]⟩) (.slice none 0 0) (.int .i64 t3) (.int .i64 0)
  refine bodyPost_ret (results_cc rfl _ _ (w.heap.size + 1) (w.heap.size + 1 + 1) 42 45 _ _ (0,0) (0,0) _ _ rfl z1 hu42 rfl (by kernel_rfl) rfl z2 hu45 rfl (by kernel_rfl)) rfl ?_
  obtain rfl := HG.out
  exact ⟨⟨none,0,rfl,Nat.le_refl _,Kd.C_nil _ _⟩,z3⟩
theorem groatref02_Digits.at (w : World) : Calls prog 159 #[] w fun e w' => e = .returned (.string ⟨#[48,49,50,51,52,53,54,55,56,57,65,66,67,68,69,70]⟩) ∧ w' = w := by
 go_enter func159,ntmps159
 go_wp2
 go_ret
 exact ⟨rfl,rfl⟩
theorem groatref07_Width.at (c : Int) (w : World) : Calls prog 152 #[.int .i64 c] w fun e w' => e = .returned (.int .i64 (width c)) ∧ w' = w := by
 go_enter func152,ntmps152
 go_wp2
 all_goals go_ret
 all_goals refine ⟨ret_int ?_,rfl⟩
 all_goals try simp only [beq_eq_false_iff_ne,beq_iff_eq,ne_eq] at *
 all_goals (unfold width;(repeat' split) <;> first | rfl | omega)
def tailD (n : Int) (k : Nat) : ByteArray := rng k fun j => 48 + n / 10 ^ (k - 1 - j) % 10
theorem tailD_succ {n : Int} (h0 : 0 ≤ n) (k : Nat) : strOfNums [48 + n / 10 ^ k % 10] ++ tailD n k = tailD n (k + 1) := by
 have hr : ∀ m : Nat,0 ≤ n / 10 ^ m % 10 ∧ n / 10 ^ m % 10 < 10 := fun m => by omega
 have h1 : (strOfNums [48 + n / 10 ^ k % 10]).size = 1 := by rw [nums_size];rfl
 refine bt_ext (by rw [app_size,h1,tailD,tailD,rng_size,rng_size];omega) fun i hi => ?_
 rw [app_size,h1,tailD,rng_size] at hi
 rw [show bt (tailD n (k + 1)) (i : Nat) = 48 + n / 10 ^ (k + 1 - 1 - i) % 10 from bt_rng (fun j _ => by have := hr (k + 1 - 1 - j);omega) (by omega)]
 by_cases c : i = 0
 ·subst c
  rw [bt_app_l (by omega)]
  have := bt_of [48 + n / 10 ^ k % 10] 0 (by intro x hx;obtain rfl := List.mem_singleton.1 hx;have := hr k;omega)
  rw [this]
  rfl
 ·rw [bt_app_r (i := i - 1) (by omega),show bt (tailD n k) ((i - 1 : Nat) : Int) = 48 + n / 10 ^ (k - 1 - (i - 1)) % 10 from bt_rng (fun j _ => by have := hr (k - 1 - j);omega) (by omega),show k + 1 - 1 - i = k - 1 - (i - 1) by omega]
set_option maxHeartbeats 2000000 in
theorem groatref01_Put.at (n wd : Int) (w : World) (hn : n ≤ 4611686018427387904) :
  Calls prog 160 #[.int .i64 n,.int .i64 wd] w fun e w' => e = .returned (.tuple #[.string (digP n wd).1,.bool (digP n wd).2]) ∧ Below w.heap.size w w' := by
 by_cases hb : n < 0 ∨ wd < 1 ∨ wd > 18
 ·have HG : Aside0 (digP n wd = (⟨#[]⟩,false)) := ⟨by unfold digP;rw [if_pos (by omega)]⟩
  rcases (show decide (n < 0) = true ∨ decide (n < 0) = false ∧ decide (wd < 1) = true ∨ decide (n < 0) = false ∧ decide (wd < 1) = false ∧ decide (18 < wd) = true by simp only [decide_eq_true_eq,decide_eq_false_iff_not];omega) with c0 | ⟨c0,c1⟩ | ⟨c0,c1,c2⟩
  all_goals
   go_enter func160,ntmps160
   go_wp2
   go_ret2
   exact ⟨by rw [HG.out];rfl,Below.refl _ _⟩
 have c0 : decide (n < 0) = false := d_F (by omega)
 have c1 : decide (wd < 1) = false := d_F (by omega)
 have c2 : decide (18 < wd) = false := d_F (by omega)
 obtain ⟨W,hW⟩ := Int.eq_ofNat_of_zero_le (show 0 ≤ wd by omega)
 have HW : Aside0 (0 < W ∧ W ≤ 18 ∧ 0 ≤ n) := ⟨by omega⟩
 have HWD : Aside0 (wd = W) := ⟨hW⟩
 have HN := aS hn
 have HG : Aside0 (digP n wd = if n ≥ 10 ^ W then (⟨#[]⟩,false) else (tailD n W,true)) := ⟨by
  unfold digP
  rw [show wd.toNat = W by omega]
  by_cases c : n ≥ 10 ^ W
  ·rw [if_pos (by omega),if_pos c]
  ·rw [if_neg (by omega),if_neg c];rfl⟩
 clear hb hn hW
 go_enter func160,ntmps160
 go_wp2
 go_loopg [0,6,7] W (fun g v0 v6 v7 w' => ∃ (k : Nat),v0 = .int .i64 (n / 10 ^ k) ∧ v6 = .string (tailD n k) ∧ v7 = .int .i64 k ∧ k + g = W ∧ Aside0 (Below w.heap.size w w'))
 case atStart => exact ⟨0,by simp,rfl,rfl,by omega,⟨Below.refl _ _⟩⟩
 case round =>
  clear c0 c1 c2
  obtain ⟨k,rfl,rfl,rfl,hi,HB⟩ := hrel
  have hq : Aside0 (0 ≤ n / 10 ^ k ∧ n / 10 ^ k ≤ n) := ⟨⟨Int.ediv_nonneg HW.out.2.2 (Int.le_of_lt (Int.pow_pos (by decide))),Int.ediv_le_self _ HW.out.2.2⟩⟩
  have hWD := HWD.out
  by_cases hc : k < W
  ·obtain ⟨g,rfl⟩ : ∃ g,gk = g + 1 := ⟨gk - 1,by omega⟩
   have c1 : decide ((k : Int) < wd) = true := d_T (by omega)
   have t1 : Int.tmod (n / 10 ^ k) 10 = n / 10 ^ k % 10 := Int.tmod_eq_emod_of_nonneg hq.out.1
   have t2 : Int.tdiv (n / 10 ^ k) 10 = n / 10 ^ (k + 1) := by rw [Int.tdiv_eq_ediv_of_nonneg hq.out.1,Int.pow_succ,Int.ediv_ediv_of_nonneg (Int.le_of_lt (Int.pow_pos (by decide)))]
   have hq3 : 0 ≤ n / 10 ^ (k + 1) ∧ n / 10 ^ (k + 1) ≤ n := ⟨Int.ediv_nonneg HW.out.2.2 (Int.le_of_lt (Int.pow_pos (by decide))),Int.ediv_le_self _ HW.out.2.2⟩
   have hw1 : wrap64 (n / 10 ^ (k + 1)) = n / 10 ^ (k + 1) := by have := HN.out;unfold wrap64;omega
   have hz : (tailD n k).size = k := rng_size _ _
   have HT : Aside0 (strOfNums [48 + n / 10 ^ k % 10] ++ tailD n k = tailD n (k + 1)) := ⟨tailD_succ HW.out.2.2 k⟩
   have cL : (9223372036854775807 < (strOfNums [48 + n / 10 ^ k % 10]).size + (tailD n k).size) = False := eq_false (by rw [hz,nums_size];have := HW.out;simp;omega)
   clear hWD hz
   have h1s := fun (x : Int) (W : World) => one8 x W
   go_wp2
   rw [HT.out]
   go_roundg g
   case rel => exact ⟨k + 1,by rw [hw1],rfl,by have := HW.out;congr 1;unfold wrap64;omega,by omega,⟨b_l HB.out _⟩⟩
   case measure => omega
  ·obtain rfl : k = W := by omega
   have c1 : decide ((k : Int) < wd) = false := d_F (by omega)
   clear hWD
   by_cases hp : n ≥ 10 ^ k
   ·have c2 : (n / 10 ^ k != 0) = true := bne_iff_ne.mpr (by
     have : 1 ≤ n / 10 ^ k := (Int.le_ediv_iff_mul_le (Int.pow_pos (by decide))).2 (by omega)
     omega)
    have HG2 : Aside0 (digP n wd = (⟨#[]⟩,false)) := ⟨by rw [HG.out,if_pos hp]⟩
    clear hp
    go_wp2
    go_ret2
    exact ⟨by rw [HG2.out];rfl,HB.out⟩
   ·have c2 : (n / 10 ^ k != 0) = false := bne_eq_false_iff_eq.mpr (Int.ediv_eq_zero_of_lt HW.out.2.2 (by omega))
    have HG2 : Aside0 (digP n wd = (tailD n k,true)) := ⟨by rw [HG.out,if_neg hp]⟩
    clear hp
    go_wp2
    go_ret2
    exact ⟨by rw [HG2.out];rfl,HB.out⟩
theorem own8_nil (w : World) : Own8 w (w.alloc (.cells #[] 5)) (.slice (some ⟨w.heap.size,0,none⟩) 0 0) [] where
 row := ⟨fun _ _ => trivial,[],by
  have h2 := World.ownsRow_lit (base := w.heap.size) (e := 5) (size := 1) w #[] 0 (Nat.le_refl _) (by decide) rfl
  show World.ownsRow _ _ 5 1 _ _ _
  simpa using h2,⟨rfl,fun j p hj => by simp at hj⟩⟩
 below := b_l (Below.refl _ _) _
abbrev hexL : ByteArray := ⟨#[48,49,50,51,52,53,54,55,56,57,65,66,67,68,69,70]⟩
def dstH2 : List Tmp := [12,13,14,15,16,17,18,19,20,21,22,23,24,25]
def valH2 (s : ByteArray) (i : Nat) (v : Value) (c : Int) (j : Nat) : Value := [v,.string hexL,.string s,.int .i64 i,.int .u8 c,.int .u8 (c / 16),.int .u8 (hx (c / 16)),.string hexL,.string s,.int .i64 i,.int .u8 c,.int .u8 (c % 16),.int .u8 (hx (c % 16))].getD j undef
set_option maxHeartbeats 2000000 in
theorem groatref02_Put.at (s : ByteArray) (w : World) (hs : s.size ≤ 1000000) :
  Calls prog 122 #[.string s] w fun e w' => e = .returned (.string (hexP s)) ∧ Below w.heap.size w w' := by
 have HS := aS hs
 have HP : Aside0 (hexP s = strOfNums ((List.range (2 * s.size)).map fun k => hx (nib s k))) := ⟨rfl⟩
 go_enter func122,ntmps122
 go_wp2
 have HO := aS (own8_nil w)
 go_loopg [3,4] s.size (fun g v3 v4 w' => ∃ (i : Nat),v4 = .int .i64 i ∧ i + g = s.size ∧ Aside0 (Own8 w w' v3 ((List.range (2 * i)).map fun k => hx (nib s k))))
 case atStart => exact ⟨0,rfl,by omega,HO⟩
 case round =>
  clear HO
  obtain ⟨i,rfl,hi,HO⟩ := hrel
  by_cases hc : i < s.size
  ·obtain ⟨g,rfl⟩ : ∃ g,gk = g + 1 := ⟨gk - 1,by omega⟩
   have c1 : decide (i < s.size) = true := d_T hc
   have p : (0 ≤ (i : Int)) = True := eq_true (by omega)
   have q : ((i : Int) < s.size) = True := eq_true (by omega)
   have hr := UInt8.toNat_lt (s[i]'hc)
   have hbt := bt_get hc
   have hc9 : Aside0 (∀ h,((s[i]'h).toNat : Int) = ((s[i]'hc).toNat : Int)) := ⟨fun _ => rfl⟩
   generalize ((s[i]'hc).toNat : Int) = c at hbt hc9
   have hr2 : 0 ≤ c ∧ c ≤ 255 := by have := bt_range s i;omega
   have p2 : (0 ≤ c / 16) = True := eq_true (by omega)
   have q2 : (c / 16 < 16) = True := eq_true (by omega)
   have p3 : (0 ≤ c % 16) = True := eq_true (by omega)
   have q3 : (c % 16 < 16) = True := eq_true (by omega)
   have w5 : IntKind.u8.wrap (c / 16) = c / 16 := by rw [IntKind.wrap_u8];omega
   have t1 : Int.tdiv c 16 = c / 16 := Int.tdiv_eq_ediv_of_nonneg hr2.1
   have t2 : Int.tmod c 16 = c % 16 := Int.tmod_eq_emod_of_nonneg hr2.1
   go_wp2
   refine region_auto (by kernel_rfl) 14 dstH2 (by kernel_rfl) (postR 13 (valH2 s i u3 c) [.int .u8 (hx (c / 16)),.int .u8 (hx (c % 16))] wr.heap.size) (fun _ _ _ _ => True) (fun _ _ _ _ _ => trivial) (fun _ _ _ _ h hb => postR_st h hb) ?rgrow ?rtail
   case rgrow =>
    intro j o hj ho a W hb hf hp K' hK
    have HK := aS hK
    have HSB := below_size hb
    clear hK hb
    have e0 : a.tmps[0]? = some (.string s) := (hf.2.2 0 (by decide)).trans rfl
    have e3 : a.tmps[3]? = some u3 := (hf.2.2 3 (by decide)).trans rfl
    have e4 : a.tmps[4]? = some (.int .i64 i) := (hf.2.2 4 (by decide)).trans rfl
    clear hf
    have HK2 : Aside0 (∀ u,u = valH2 s i u3 c j → j < 13 → K' (a.put (some (dstH2.getD j 0)) u) W) := ⟨fun u h1 h2 => HK.out _ _ (Below.refl _ _) ⟨fun _ => h1,fun e => by omega⟩ (fun _ _ _ _ _ => trivial)⟩
    have D : ∀ m,m < 13 → (⟨m,.data⟩ : Edge) ∈ o.after → a.tmps[dstH2.getD m 0]?.getD undef = valH2 s i u3 c m := fun m hm hin => by simpa only [Act.eval,Array.getD_eq_getD_getElem?] using (hp _ hin rfl).1 hm
    clear hp
    rcases (show j = 0 ∨ j = 1 ∨ j = 2 ∨ j = 3 ∨ j = 4 ∨ j = 5 ∨ j = 6 ∨ j = 7 ∨ j = 8 ∨ j = 9 ∨ j = 10 ∨ j = 11 ∨ j = 12 ∨ j = 13 by omega) with rfl | rfl | rfl | rfl | rfl | rfl | rfl | rfl | rfl | rfl | rfl | rfl | rfl | rfl <;> cases ho
    ·clear D HK;unfold Oper.wp;go_simp;exact HK2.out _ rfl (by decide)
    ·clear D HK;unfold Oper.wp;go_simp;go_at_call 159;refine (groatref02_Digits.at _).mono ?_;rintro e w1 ⟨rfl,rfl⟩;exact HK2.out _ rfl (by decide)
    ·clear D HK;unfold Oper.wp;go_simp;exact HK2.out _ rfl (by decide)
    ·clear D HK;unfold Oper.wp;go_simp;exact HK2.out _ rfl (by decide)
    ·have d1 : a.tmps[14]?.getD undef = .string s := D 2 (by decide) (by simp)
     have d2 : a.tmps[15]?.getD undef = .int .i64 i := D 3 (by decide) (by simp)
     clear D HK;unfold Oper.wp;go_simp;rw [hc9.out];exact HK2.out _ rfl (by decide)
    ·have d3 : a.tmps[16]?.getD undef = .int .u8 c := D 4 (by decide) (by simp)
     clear D HK;unfold Oper.wp;go_simp;exact HK2.out _ rfl (by decide)
    ·have d4 : a.tmps[17]?.getD undef = .int .u8 (c / 16) := D 5 (by decide) (by simp)
     have d5 : a.tmps[13]?.getD undef = .string hexL := D 1 (by decide) (by simp)
     clear D HK;unfold Oper.wp;go_simp;rw [hx_at (of_eq_true p2) (of_eq_true q2)];exact HK2.out _ rfl (by decide)
    ·clear D HK;unfold Oper.wp;go_simp;go_at_call 159;refine (groatref02_Digits.at _).mono ?_;rintro e w1 ⟨rfl,rfl⟩;exact HK2.out _ rfl (by decide)
    ·clear D HK;unfold Oper.wp;go_simp;exact HK2.out _ rfl (by decide)
    ·clear D HK;unfold Oper.wp;go_simp;exact HK2.out _ rfl (by decide)
    ·have d6 : a.tmps[20]?.getD undef = .string s := D 8 (by decide) (by simp)
     have d7 : a.tmps[21]?.getD undef = .int .i64 i := D 9 (by decide) (by simp)
     clear D HK;unfold Oper.wp;go_simp;rw [hc9.out];exact HK2.out _ rfl (by decide)
    ·have d8 : a.tmps[22]?.getD undef = .int .u8 c := D 10 (by decide) (by simp)
     clear D HK;unfold Oper.wp;go_simp;exact HK2.out _ rfl (by decide)
    ·have d9 : a.tmps[23]?.getD undef = .int .u8 (c % 16) := D 11 (by decide) (by simp)
     have d5 : a.tmps[19]?.getD undef = .string hexL := D 7 (by decide) (by simp)
     clear D HK;unfold Oper.wp;go_simp;rw [hx_at (of_eq_true p3) (of_eq_true q3)];exact HK2.out _ rfl (by decide)
    ·have d5 : a.tmps[18]?.getD undef = .int .u8 (hx (c / 16)) := D 6 (by decide) (by simp)
     have d10 : a.tmps[24]?.getD undef = .int .u8 (hx (c % 16)) := D 12 (by decide) (by simp)
     clear D;unfold Oper.wp;go_simp;exact HK.out _ _ (bO _) ⟨fun h => absurd h (by decide),fun _ => ⟨_,rfl,blk_new _ _,HSB⟩⟩ (fun _ _ _ _ _ => trivial)
   case rtail =>
    intro a W fuel hfl hb he hp _
    obtain ⟨g2,hg,hblk,_⟩ := (hp 13 (by decide)).2 rfl
    have e : ((List.range 14).map fun j => (dstH2.getD j 0,a.eval (.tmp (dstH2.getD j 0)))) = (List.range 14).map fun j => (dstH2.getD j 0,if j = 13 then .slice (some ⟨g2,0,none⟩) 2 2 else valH2 s i u3 c j) := List.map_congr_left fun j hj => by
     have hj := List.mem_range.1 hj
     by_cases k : j = 13
     ·subst k;rw [hg];rfl
     ·rw [(hp j hj).1 (by omega),if_neg k]
    rw [e] at he
    clear e hp hg
    subst he
    show wpAny _ _ _ _ fuel _ (putL _ [(12,u3),(13,.string hexL),(14,.string s),(15,.int .i64 i),(16,.int .u8 c),(17,.int .u8 (c / 16)),(18,.int .u8 (hx (c / 16))),(19,.string hexL),(20,.string s),(21,.int .i64 i),(22,.int .u8 c),(23,.int .u8 (c % 16)),(24,.int .u8 (hx (c % 16))),(25,.slice (some ⟨g2,0,none⟩) 2 2)]) W
    simp only [putL,Act.put,sA,sB,sC]
    obtain ⟨f,rfl⟩ : ∃ f,fuel = f + 2 := ⟨fuel - 2,by have : (16 - 14 : Nat) ≤ fuel := hfl;omega⟩
    refine wpAny_one (i := 14) (by kernel_rfl) rfl rfl ?_
    refine app8s (ops := #[]) (HO.out.step hb) rfl (.tmp 12) (.tmp 25) rfl rfl rfl (ys := [hx (c / 16),hx (c % 16)]) rfl hblk (by have := HS.out;simp;omega) ?_
    intro v2 w2 HO2
    have HO3 := aS HO2
    clear HO2
    refine wpAny_one (i := 15) (by kernel_rfl) rfl rfl ?_
    unfold Oper.wp
    go_simp
    refine wpAny_none (by kernel_rfl) ?_ _
    go_wp2
    go_roundg g
    case rel => exact ⟨i + 1,rfl,by omega,by rw [show 2 * (i + 1) = 2 * i + 1 + 1 by omega,List.range_succ,List.range_succ,List.map_append,List.map_append,List.append_assoc];have h9 := HO3.out;rw [← hbt,← (nib_two s i).1,← (nib_two s i).2] at h9;exact ⟨h9⟩⟩
    case measure => omega
  ·obtain rfl : i = s.size := by omega
   have c1 : decide (s.size < s.size) = false := d_F (by omega)
   have hv := HO.out.str
   go_wp2
   go_ret
   exact ⟨by rw [HP.out];rfl,HO.out.below⟩
def bcdF (s : ByteArray) (q : Nat) : List Int := (List.range ((q + 1) / 2)).map fun j => 16 * dg s (2 * j) + if 2 * j + 1 < q then dg s (2 * j + 1) else 0
theorem bcdF_len (s : ByteArray) (q : Nat) : (bcdF s q).length = (q + 1) / 2 := by simp [bcdF]
theorem bcdF_even (s : ByteArray) {q : Nat} (h : q % 2 = 0) : bcdF s q ++ [16 * dg s q] = bcdF s (q + 1) := by
 unfold bcdF
 rw [show (q + 1 + 1) / 2 = (q + 1) / 2 + 1 by omega,List.range_succ,List.map_append,show (q + 1) / 2 = q / 2 by omega]
 congr 1
 ·apply List.map_congr_left
  intro j hj
  have := List.mem_range.1 hj
  rw [if_pos (by omega),if_pos (by omega)]
 ·rw [List.map_singleton,if_neg (by omega),show 2 * (q / 2) = q by omega,Int.add_zero]
theorem bcdF_get (s : ByteArray) (q j : Nat) (h : j < (q + 1) / 2) : (bcdF s q)[j]? = some (16 * dg s (2 * j) + if 2 * j + 1 < q then dg s (2 * j + 1) else 0) := by
 unfold bcdF
 rw [List.getElem?_map,List.getElem?_range h]
 rfl
theorem bcdF_odd (s : ByteArray) {q : Nat} (h : q % 2 = 1) : (bcdF s q).set ((q + 1) / 2 - 1) (16 * dg s (q - 1) + dg s q) = bcdF s (q + 1) := by
 apply List.ext_getElem?
 intro i
 by_cases c : i < (q + 1) / 2
 ·rw [List.getElem?_set,bcdF_get _ _ _ c,bcdF_get _ _ _ (by omega),bcdF_len]
  by_cases d : (q + 1) / 2 - 1 = i
  ·rw [if_pos d,if_pos (by omega),if_pos (by omega),show 2 * i = q - 1 by omega,show q - 1 + 1 = q by omega]
  ·rw [if_neg d,if_pos (by omega),if_pos (by omega)]
 ·rw [List.getElem?_eq_none (by simp [bcdF_len];omega),List.getElem?_eq_none (by rw [bcdF_len];omega)]
theorem bcdF_all (s : ByteArray) {q : Nat} (h : q = s.size + s.size % 2) : (List.range ((s.size + 1) / 2)).map (fun j => 16 * dg s (2 * j) + dg s (2 * j + 1)) = bcdF s q := by
 unfold bcdF
 rw [show (q + 1) / 2 = (s.size + 1) / 2 by omega]
 apply List.map_congr_left
 intro j hj
 have := List.mem_range.1 hj
 rw [if_pos (by omega)]
theorem bcdF_zero (s : ByteArray) : bcdF s (s.size % 2) = if s.size % 2 = 1 then [0] else [] := by
 unfold bcdF
 rcases Nat.mod_two_eq_zero_or_one s.size with h | h <;> rw [h]
 ·rfl
 ·show [16 * dg s 0 + if 2 * 0 + 1 < 1 then dg s 1 else 0] = [0]
  rw [dg,if_pos (by omega),if_neg (by omega)]
  rfl
theorem lit8_nil {ops : Array Oper} {rest : List Oper} {o : Oper} {a : Act} {Q : Exit → Act → World → Prop} {w W : World} (hB : Below w.heap.size w W) (hgd : o.guard = none) {N : Tmp} (hd : o.dst = some N) (ho : o.op = .buildSlice 101 0 #[])
  (h : ∀ v1 w1,Own8 w w1 v1 [] → wpList prog ops Q rest (a.put o.dst v1) w1) : wpList prog ops Q (o :: rest) a W := by
 refine Kd.R_lit (Kd.int .u8) w.heap.size 5 hgd hd (xs := []) (inner := []) (ok := fun _ => True) (okp := fun _ => True) ?_ ⟨rfl,fun j p hj => by simp at hj⟩ (fun _ h => h) trivial hB hB.size (by decide) (fun v1 w1 hr hb _ _ => h v1 w1 ⟨hr,hb⟩)
 simp only [execOp,ho]
 go_simp
set_option maxHeartbeats 4000000 in
theorem groatref03_Put.at (s : ByteArray) (w : World) (hsz : s.size ≤ 4611686018427387904) :
  Calls prog 123 #[.string s] w fun e w' => e = .returned (.tuple #[.string (bcdP s).1,.bool (bcdP s).2]) ∧ Below w.heap.size w w' := by
 have HSZ := aS hsz
 clear hsz
 by_cases h1 : s.size > 999
 ·have HG : Aside0 (bcdP s = (⟨#[]⟩,false)) := ⟨by unfold bcdP;rw [if_pos (.inl h1)]⟩
  have c0 : decide ((999 : Int) < s.size) = true := d_T (by omega)
  go_enter func123,ntmps123
  go_wp2
  go_ret2
  exact ⟨by rw [HG.out];rfl,Below.refl _ _⟩
 have c0 : decide ((999 : Int) < s.size) = false := d_F (by omega)
 cases h2 : allD s with
 | false =>
  have HG : Aside0 (bcdP s = (⟨#[]⟩,false)) := ⟨by unfold bcdP;rw [if_pos (.inr h2)]⟩
  go_enter func123,ntmps123
  go_wp2_with (first | (go_at_call 111;refine (groatref01_All.at _ _ HSZ.out).mono ?_;rintro e w1 ⟨rfl,rfl⟩;rw [h2]))
  go_ret2
  exact ⟨by rw [HG.out];rfl,Below.refl _ _⟩
 | true =>
  have HG : Aside0 (bcdP s = (strOfNums (bcdF s (s.size + s.size % 2)),true)) := ⟨by rw [bcdP_true (by omega) h2,← bcdF_all s rfl];rfl⟩
  have HD : Aside0 (∀ k,k < s.size + s.size % 2 → 0 ≤ dg s k ∧ dg s k ≤ 9) := ⟨dg_lt h2⟩
  have HA : Aside0 (∀ i,i < s.size → bt s (i : Nat) = 48 + dg s (i + s.size % 2)) := ⟨fun i hi => by
   unfold dg
   rw [if_neg (by omega),show i + s.size % 2 - s.size % 2 = i by omega]
   omega⟩
  have H1 := aS h1
  have t2 : Int.tmod (s.size : Int) 2 = (s.size : Int) % 2 := Int.tmod_eq_emod_of_nonneg (by omega)
  have key : (((s.size : Int) % 2 == 1) = true ∧ Aside0 (s.size % 2 = 1) ∨ ((s.size : Int) % 2 == 1) = false ∧ Aside0 (s.size % 2 = 0)) := by
   rcases Nat.mod_two_eq_zero_or_one s.size with h | h
   ·exact .inr ⟨beq_eq_false_iff_ne.mpr (by omega),⟨h⟩⟩
   ·exact .inl ⟨beq_iff_eq.mpr (by omega),⟨h⟩⟩
  clear h1
  go_enter func123,ntmps123
  rcases key with ⟨k,K⟩ | ⟨k,K⟩
  all_goals go_wp2_with (first | (go_at_call 111;refine (groatref01_All.at _ _ HSZ.out).mono ?_;rintro e w1 ⟨rfl,hw⟩;obtain rfl := hw.symm;rw [h2]) | ((with_reducible refine gate_dst (N := 16) rfl ?_);refine lit8_nil (Below.refl _ _) rfl (N := 16) rfl rfl ?_;intro v1 w1 HO;have HO := aS HO) | ((with_reducible refine gate_builtin (b := .append) (xs := #[.tmp 22,.tmp 23]) rfl ?_);refine app8 HO.out rfl (.tmp 22) (.tmp 23) 0 rfl rfl rfl (by simp) ?_;intro v2 w3 HO2;have HO3 := aS HO2;clear HO2))
  have HF : Aside0 (Own8 w w3 v2 (bcdF s (s.size % 2))) := ⟨by rw [bcdF_zero,if_pos K.out];exact HO3.out⟩
  rotate_left
  have HF : Aside0 (Own8 w w1 v1 (bcdF s (s.size % 2))) := ⟨by rw [bcdF_zero,if_neg (by rw [K.out];decide)];exact HO.out⟩
  all_goals clear HO
  all_goals go_loopg [4,5,6] s.size (fun g v4 v5 v6 w' => ∃ (i : Nat) (h : Int),v5 = .int .i64 h ∧ v6 = .int .i64 i ∧ i + g = s.size ∧ Aside0 (h = ((i + s.size % 2 : Nat) : Int) % 2) ∧ Aside0 (Own8 w w' v4 (bcdF s (i + s.size % 2))))
  iterate 2
   case atStart => exact ⟨0,_,rfl,rfl,by omega,⟨by omega⟩,by rw [Nat.zero_add];exact HF⟩
  all_goals
   clear HF k c0 t2
   obtain ⟨i,h,rfl,rfl,hi,hh,HO⟩ := hrel
   by_cases hc : i < s.size
   ·obtain ⟨g,rfl⟩ : ∃ g,gk = g + 1 := ⟨gk - 1,by omega⟩
    have c1 : decide (i < s.size) = true := d_T hc
    have p : (0 ≤ (i : Int)) = True := eq_true (by omega)
    have q : ((i : Int) < s.size) = True := eq_true (by omega)
    have hr := HA.out i hc
    rw [bt_get hc] at hr
    have hd := HD.out (i + s.size % 2) (by omega)
    have HX : Aside0 ((((s[i]'hc).toNat : Int) - 48) % 256 = dg s (i + s.size % 2)) := ⟨by omega⟩
    clear hr
    by_cases hp : (i + s.size % 2) % 2 = 0
    ·obtain rfl : h = 0 := by have := hh.out;omega
     have HE : Aside0 (bcdF s (i + s.size % 2) ++ [16 * dg s (i + s.size % 2)] = bcdF s (i + 1 + s.size % 2)) := ⟨by rw [bcdF_even s hp,show i + s.size % 2 + 1 = i + 1 + s.size % 2 by omega]⟩
     have HV : Aside0 (16 * ((((s[i]'hc).toNat : Int) - 48) % 256) % 256 = 16 * dg s (i + s.size % 2)) := ⟨by rw [HX.out];omega⟩
     have HP := aS hp
     clear hh hp
     go_wp2_with (first | ((with_reducible refine gate_builtin (b := .append) (xs := #[.tmp 37,.tmp 40]) rfl ?_);refine app8 HO.out rfl (.tmp 37) (.tmp 40) _ rfl rfl rfl (by have := H1.out;rw [bcdF_len];omega) ?_;intro v3 w4 HO2;have HO3 := aS HO2;clear HO2))
     go_roundg g
     case rel => exact ⟨i + 1,1,rfl,by have := H1.out;congr 1;unfold wrap64;omega,by omega,⟨by have := HP.out;omega⟩,⟨by rw [← HE.out,← HV.out];exact HO3.out⟩⟩
     case measure => omega
    ·obtain rfl : h = 1 := by have := hh.out;omega
     obtain ⟨go,co,eo,hgb,_,_⟩ := Kd.R_form HO.out.row (by rw [bcdF_len];omega)
     rw [bcdF_len] at eo
     obtain ⟨n,hn⟩ : ∃ n,n + 1 = (i + s.size % 2 + 1) / 2 := ⟨(i + s.size % 2 + 1) / 2 - 1,by omega⟩
     rw [← hn] at eo
     subst eo
     have hx := Kd.R_celln 0 HO.out.row ((n : Nat) : Int) (by omega) (by omega)
     rw [Int.toNat_natCast] at hx
     obtain ⟨hx1,hx2⟩ := hx
     have hx3 : rdOf 0 (bcdF s (i + s.size % 2)) (n : Nat) = 16 * dg s (i + s.size % 2 - 1) := by
      unfold rdOf
      rw [Int.toNat_natCast,List.getD_eq_getElem?_getD,bcdF_get _ _ _ (by omega),if_neg (by omega),show 2 * n = i + s.size % 2 - 1 by omega,Int.add_zero]
      rfl
     rw [hx3] at hx1
     have hd2 := HD.out (i + s.size % 2 - 1) (by omega)
     have HS : Aside0 (Own8 w (wr.setCell ⟨go,n,none⟩ (.int .u8 (16 * dg s (i + s.size % 2 - 1) + dg s (i + s.size % 2)))) (.slice (some ⟨go,0,none⟩) (n + 1) co) (bcdF s (i + 1 + s.size % 2))) := ⟨by
      have h9 := HO.out.set hgb (n : Nat) (16 * dg s (i + s.size % 2 - 1) + dg s (i + s.size % 2))
      rw [Int.toNat_natCast,show n = (i + s.size % 2 + 1) / 2 - 1 by omega,bcdF_odd s (by omega),show i + s.size % 2 + 1 = i + 1 + s.size % 2 by omega] at h9
      rw [show n = (i + s.size % 2 + 1) / 2 - 1 by omega,show i + s.size % 2 + 1 = i + 1 + s.size % 2 by omega]
      exact h9⟩
     have HW2 : Aside0 ((16 * dg s (i + s.size % 2 - 1) + (((s[i]'hc).toNat : Int) - 48)) % 256 = 16 * dg s (i + s.size % 2 - 1) + dg s (i + s.size % 2)) := ⟨by have := HX.out;omega⟩
     have hwn : wrap64 ((n : Nat) : Int) = n := by have := H1.out;unfold wrap64;omega
     have p5 : ((n : Int) < (n : Int) + 1) = True := eq_true (by omega)
     have HP := aS hp
     clear hh hp hn hx3
     go_wp2
     rw [HW2.out]
     go_roundg g
     case rel => exact ⟨i + 1,0,rfl,by have := H1.out;congr 1;unfold wrap64;omega,by omega,⟨by have := HP.out;omega⟩,HS⟩
     case measure => omega
   ·obtain rfl : i = s.size := by omega
    have c1 : decide (s.size < s.size) = false := d_F (by omega)
    have hv := HO.out.str
    go_wp2
    go_ret2
    exact ⟨by rw [HG.out];rfl,HO.out.below⟩
end Go.Proofs.YtgbmnpgaddhfpaaGreatDoor.T
