/- Walks and plain laws beneath the law TopOutcome. No conditions but what each statement names. -/
import Derived.Test.YtgbmnpgaddhfpaaGreatDoorM17
set_option linter.unusedVariables false
set_option linter.unusedSimpArgs false
namespace Go.Proofs.YtgbmnpgaddhfpaaGreatDoor.T
open Go.RowKit Go.Proofs.YtgbmnpgaddhfpaaGreatDoorW.PrintWords Go.Proofs.YtgbmnpgaddhfpaaGreatDoorW.PrintLast Go.Proofs.YtgbmnpgaddhfpaaGreatDoorW.PrintMore
attribute [local go_sem] max2_int min2_int max_two min_two
open Go.Proofs.YtgbmnpgaddhfpaaGreatDoor.G
open Tryz
set_option maxRecDepth 100000
section
attribute [local go_sem] wr1_7 wr0_7
def dst3 (i : Nat) : Tmp := [46,47,48,49,50,51,52,53,54,7,8].getD i 0
theorem ans_cases {s : Sd} {p : Ad} {most : Int} {m : ByteArray} {xs : List S63} {er : Int} {o : Int × ByteArray} {w : World} (HS : SdAt w s p) (HMO : ∀ e,reqM m = true → msgOk s.st s.ver s.l (respM m) (buildS xs s.echo s.cs e) = true) (ha : answerS s most m xs er = o) :
  (reqM m = false ∧ o = (3,⟨#[]⟩)) ∨ (reqM m = true ∧ ∃ bb : ByteArray,(∀ W A3 c3,Below w.heap.size w W → Kd.C k63 W A3 (buildS xs s.echo s.cs er).length (buildS xs s.echo s.cs er) → (buildS xs s.echo s.cs er).length ≤ c3 → Calls prog 12 #[.agg #[.int .i64 s.st,.int .i64 s.ver,.slice p.A1 s.l.length p.c1],.agg #[.string (respM m),.slice A3 (buildS xs s.echo s.cs er).length c3]] W fun e w' => e = .returned (.tuple #[.string bb,.agg #[.int .i64 0,.int .i64 0]]) ∧ Below W.heap.size W w') ∧ ((most < (bb.size : Int) ∧ o = (3,⟨#[]⟩)) ∨ (¬ most < (bb.size : Int) ∧ o = (2,bb)))) := by
 unfold answerS at ha
 rcases hq : reqM m with _ | _
 ·rw [hq,if_neg (by simp)] at ha
  exact .inl ⟨rfl,ha.symm⟩
 ·rw [hq,if_pos rfl,if_neg (encS_ne (HMO er hq))] at ha
  refine .inr ⟨rfl,_,fun W A3 c3 hb hr hc => wire_Encode.at s.st s.ver p.A1 p.c1 s.l (respM m) A3 c3 _ W HS.n1 (HS.step hb).r1 HS.h1 (by have := msgOk_len (HMO er hq);omega) hr hc (HMO er hq),?_⟩
  split at ha
  ·rename_i u
   exact .inl ⟨u,ha.symm⟩
  ·rename_i u
   exact .inr ⟨u,ha.symm⟩
set_option maxHeartbeats 40000000 in
theorem topOutcome_0.at (s t : Sd) (p q : Ad) (most : Int) (b : ByteArray) (w : World) (h1 : SdAt0 w s p) (h2 : SdAt0 w t q) :
  Calls prog 3 #[.agg #[.int .i64 s.st,.int .i64 s.ver,.slice p.A1 s.l.length p.c1,.slice p.Am s.ms.length p.cm,.slice p.Ar s.rs.length p.cr,.slice p.Ae s.echo.length p.ce,.slice p.Ac s.cs.length p.cc,.int .i64 t.st,.int .i64 t.ver,.slice q.A1 t.l.length q.c1,.slice q.Am t.ms.length q.cm,.slice q.Ar t.rs.length q.cr,.slice q.Ae t.echo.length q.ce,.slice q.Ac t.cs.length q.cc,.int .i64 most],.int .i64 0,.string b] w fun e w' => e = .returned (.bool true) ∧ Below w.heap.size w w' := by
 have hu35 := underlying35
 have hu33 := underlying33
 have hu32 := underlying32
 have hu28 := underlying28
 have hu24 := underlying24
 have hu42 := underlying42
 have hu45 := underlying45
 have HS0 := aS h1
 have HT0 := aS h2
 clear h1 h2
 obtain ⟨c0_,c1_,c2_,c3_,c4_,c5_,c6_,c7_,c8_,c9_,c10_,c11_,c12_,c13_,c14_⟩ := cells_15 (Box1.start w (.cells #[.int .i64 s.st,.int .i64 s.ver,.slice p.A1 s.l.length p.c1,.slice p.Am s.ms.length p.cm,.slice p.Ar s.rs.length p.cr,.slice p.Ae s.echo.length p.ce,.slice p.Ac s.cs.length p.cc,.int .i64 t.st,.int .i64 t.ver,.slice q.A1 t.l.length q.c1,.slice q.Am t.ms.length q.cm,.slice q.Ar t.rs.length q.cr,.slice q.Ae t.echo.length q.ce,.slice q.Ac t.cs.length q.cc,.int .i64 most] 35)).h1
 rcases Decidable.em ((3000 : Int) < b.size) with u | u
 all_goals first | have b0 : decide ((3000 : Int) < b.size) = true := d_T u | have b0 : decide ((3000 : Int) < b.size) = false := d_F u
 all_goals have HSZ1 := aS u
 all_goals clear u
 all_goals go_enter func3,ntmps3
 all_goals go_wp2_with (first | (have X := HG;clear X;go_at_call 6;refine (groattop_live.at _).mono ?_;rintro e w9 ⟨rfl,hb9⟩;have D9 := aS (D.out.step hb9);clear hb9) | (go_at_call 6;refine (groattop_live.at _).mono ?_;rintro e w1 ⟨rfl,hb1⟩;have D := aS ((Box1.start w (.cells #[.int .i64 s.st,.int .i64 s.ver,.slice p.A1 s.l.length p.c1,.slice p.Am s.ms.length p.cm,.slice p.Ar s.rs.length p.cr,.slice p.Ae s.echo.length p.ce,.slice p.Ac s.cs.length p.cc,.int .i64 t.st,.int .i64 t.ver,.slice q.A1 t.l.length q.c1,.slice q.Am t.ms.length q.cm,.slice q.Ar t.rs.length q.cr,.slice q.Ae t.echo.length q.ce,.slice q.Ac t.cs.length q.cc,.int .i64 most] 35)).step hb1);clear hb1;clear c0_ c1_ c2_ c3_ c4_ c5_ c6_ c7_ c8_ c9_ c10_ c11_ c12_ c13_ c14_;obtain ⟨c0_,c1_,c2_,c3_,c4_,c5_,c6_,c7_,c8_,c9_,c10_,c11_,c12_,c13_,c14_⟩ := cells_15 D.out.h1) | (go_at_call 7;refine (groatref24_Great.at s t p q most _ (HS0.out.step D.out.below) (HT0.out.step D.out.below)).mono ?_;rintro e w2 ⟨⟨bg,rfl,hg⟩,hb2⟩;have HG := aS hg;have D_ := aS (D.out.step hb2);clear D hb2 hg;have D := D_;clear D_;clear c0_ c1_ c2_ c3_ c4_ c5_ c6_ c7_ c8_ c9_ c10_ c11_ c12_ c13_ c14_;obtain ⟨c0_,c1_,c2_,c3_,c4_,c5_,c6_,c7_,c8_,c9_,c10_,c11_,c12_,c13_,c14_⟩ := cells_15 D.out.h1;cases bg) | (go_at_call 8;have HS := aS (SdAt_of HS0.out (HG.out (by simp)).1.1 (HG.out (by simp)).2.1);have HT := aS (SdAt_of HT0.out (HG.out (by simp)).1.2 (HG.out (by simp)).2.2);clear HS0 HT0;refine (groatref24_Right.at s t p q most _ (HS.out.step D.out.below) (HT.out.step D.out.below) (SdSz_of (HG.out (by simp)).1.1 (HG.out (by simp)).2.1) (SdSz_of (HG.out (by simp)).1.2 (HG.out (by simp)).2.2)).mono ?_;rintro e w3 ⟨⟨br,rfl,hr⟩,hb3⟩;have HRT := aS hr;have D_ := aS (D.out.step hb3);clear D hb3 hr;have D := D_;clear D_;clear c0_ c1_ c2_ c3_ c4_ c5_ c6_ c7_ c8_ c9_ c10_ c11_ c12_ c13_ c14_;obtain ⟨c0_,c1_,c2_,c3_,c4_,c5_,c6_,c7_,c8_,c9_,c10_,c11_,c12_,c13_,c14_⟩ := cells_15 D.out.h1;cases br))
 any_goals (go_ret;exact ⟨rfl,D9.out.below⟩)
 have HSZ := aS (show b.size ≤ 100000 by have := HSZ1.out;omega)
 clear HSZ1
 have HK := aS (cfgK_of (HRT.out (by simp)))
 have HSI := aS (sideOk_of HK.out.2.1.1)
 have HLE : Aside0 (s.echo.length ≤ 1000 ∧ s.cs.length ≤ 1000) := ⟨by have := (HG.out (by simp)).1.1.2.1;omega,by have := (HG.out (by simp)).1.1.2.2.1;omega⟩
 have hoc : ∀ W,Below w.heap.size w W → Calls prog 9 #[.agg #[.int .i64 s.st,.int .i64 s.ver,.slice p.A1 s.l.length p.c1,.slice p.Am s.ms.length p.cm,.slice p.Ar s.rs.length p.cr,.slice p.Ae s.echo.length p.ce,.slice p.Ac s.cs.length p.cc,.int .i64 t.st,.int .i64 t.ver,.slice q.A1 t.l.length q.c1,.slice q.Am t.ms.length q.cm,.slice q.Ar t.rs.length q.cr,.slice q.Ae t.echo.length q.ce,.slice q.Ac t.cs.length q.cc,.int .i64 most],.int .i64 0,.string b] W fun e w' => e = .returned (.tuple #[.int .i64 (outS s t most b).1,.string (outS s t most b).2]) ∧ Below W.heap.size W w' := fun W hb => route_Outcome_0.at s t p q most b W (HS.out.step hb) (HT.out.step hb) HK.out HSZ.out HSI.out HLE.out.1 HLE.out.2 (Nat.le_trans (decG_len HSI.out.1) (by decide))
 clear HG HRT
 obtain ⟨o,ho⟩ : ∃ o,outS s t most b = o := ⟨_,rfl⟩
 rw [ho] at hoc
 have HOC := aS hoc
 clear hoc
 unfold outS at ho
 have hmo : ∀ e,reqM (decG s.st s.ver s.l b).1.1 = true → msgOk s.st s.ver s.l (respM (decG s.st s.ver s.l b).1.1) (buildS (decG s.st s.ver s.l b).1.2 s.echo s.cs e) = true := fun e hq => build_msgOk HSI.out hq e
 have hde : ∀ W,Below w.heap.size w W → Calls prog 10 #[.agg #[.int .i64 s.st,.int .i64 s.ver,.slice p.A1 s.l.length p.c1],.string b] W fun e w' => (∃ A' c',e = .returned (.tuple #[.agg #[.string (decG s.st s.ver s.l b).1.1,.slice A' (decG s.st s.ver s.l b).1.2.length c'],.agg #[.int .i64 (decG s.st s.ver s.l b).2.1,.int .i64 (decG s.st s.ver s.l b).2.2]]) ∧ (decG s.st s.ver s.l b).1.2.length ≤ c' ∧ Kd.C k63 w' A' (decG s.st s.ver s.l b).1.2.length (decG s.st s.ver s.l b).1.2) ∧ Below W.heap.size W w' := fun W hb => strict_Decode.at s.st s.ver p.A1 p.c1 s.l b W HS.out.n1 (c_B HS.out.r1 hb) HS.out.h1 HSI.out.1 HSZ.out
 have hdm : (decG s.st s.ver s.l b).2.1 = 0 → msgOk s.st s.ver s.l (decG s.st s.ver s.l b).1.1 (decG s.st s.ver s.l b).1.2 = true := fun h => decG_msgOk HSI.out.1 h
 have hdz : (decG s.st s.ver s.l b).2.1 = 0 → (decG s.st s.ver s.l b).2.2 = 0 := decG_zero
 have hxl : (decG s.st s.ver s.l b).1.2.length ≤ 1000 := Nat.le_trans (decG_len HSI.out.1) (by decide)
 generalize decG s.st s.ver s.l b = d at ho hmo hde hdm hdz hxl
 obtain ⟨⟨m,xs⟩,ec,ef⟩ := d
 simp only at ho hmo hde hdm hdz hxl
 have HO := aS ho
 have HMO := aS hmo
 have HDE := aS hde
 have HDM := aS hdm
 have HDZ := aS hdz
 have HXL := aS hxl
 clear ho hmo hde hdm hdz hxl
 refine region_split (by kernel_rfl) (fun wr hbr hsr => ?_)
 have D_ := aS (D.out.step hbr)
 clear D hbr c0_ c1_ c2_ c3_ c4_ c5_ c6_ c7_ c8_ c9_ c10_ c11_ c12_ c13_ c14_
 have D := D_
 clear D_
 refine wpAny_split 11 dst3 (post4 (.agg #[.int .i64 s.st,.int .i64 s.ver,.slice p.A1 s.l.length p.c1,.slice p.Am s.ms.length p.cm,.slice p.Ar s.rs.length p.cr,.slice p.Ae s.echo.length p.ce,.slice p.Ac s.cs.length p.cc]) (.agg #[.int .i64 t.st,.int .i64 t.ver,.slice q.A1 t.l.length q.c1,.slice q.Am t.ms.length q.cm,.slice q.Ar t.rs.length q.cr,.slice q.Ae t.echo.length q.ce,.slice q.Ac t.cs.length q.cc]) w.heap.size 0 7 0 wr.heap.size #[.int .i64 0,.int .i64 0,.slice none 0 0,.slice none 0 0,.slice none 0 0,.slice none 0 0,.slice none 0 0]) (post4 (.agg #[.int .i64 s.st,.int .i64 s.ver,.slice p.A1 s.l.length p.c1,.slice p.Am s.ms.length p.cm,.slice p.Ar s.rs.length p.cr,.slice p.Ae s.echo.length p.ce,.slice p.Ac s.cs.length p.cc]) (.agg #[.int .i64 t.st,.int .i64 t.ver,.slice q.A1 t.l.length q.c1,.slice q.Am t.ms.length q.cm,.slice q.Ar t.rs.length q.cr,.slice q.Ae t.echo.length q.ce,.slice q.Ac t.cs.length q.cc]) w.heap.size 0 7 0 wr.heap.size #[.int .i64 s.st,.int .i64 s.ver,.slice p.A1 s.l.length p.c1,.slice p.Am s.ms.length p.cm,.slice p.Ar s.rs.length p.cr,.slice p.Ae s.echo.length p.ce,.slice p.Ac s.cs.length p.cc]) rel4 _ wr rfl _ _ rfl rfl (fun i j u v h hij => (h (by omega)).symm) post4_st post4_st ?rlow ?rgrow done4 ?rdone ?rgrow2 ?rinj ?rsz rfl rfl (by decide) (by decide) ⟨⟨11,.chain⟩,by simp,rfl,rfl⟩ ?rall ?rs1 ?rs2 _ _ _ (Nat.le_refl _) ⟨rfl,rfl,fun _ _ => rfl⟩ (Below.refl _ _)
 case rlow =>
  intro i o hi ho
  rcases (show i = 0 ∨ i = 1 ∨ i = 2 ∨ i = 3 ∨ i = 4 ∨ i = 5 ∨ i = 6 ∨ i = 7 ∨ i = 8 ∨ i = 9 ∨ i = 10 by omega) with rfl | rfl | rfl | rfl | rfl | rfl | rfl | rfl | rfl | rfl | rfl <;> (cases ho;exact ⟨rfl,rfl,by decide⟩)
 case rinj =>
  intro i j hi hj
  revert j
  revert i
  decide
 case rsz =>
  intro i hi
  exact Nat.lt_of_lt_of_le ((by decide : ∀ i,i < 11 → dst3 i < 100) i hi) (Nat.le_of_ble_eq_true rfl)
 case rdone =>
  intro i hi hd
  rcases (show i = 0 ∨ i = 1 ∨ i = 2 ∨ i = 3 ∨ i = 4 ∨ i = 5 ∨ i = 6 ∨ i = 7 ∨ i = 8 ∨ i = 9 ∨ i = 10 by omega) with rfl | rfl | rfl | rfl | rfl | rfl | rfl | rfl | rfl | rfl | rfl
  ·exact ⟨⟨0,.phase⟩,by simp,rfl,rfl⟩
  ·exact ⟨⟨1,.phase⟩,by simp,rfl,rfl⟩
  ·exact ⟨⟨2,.phase⟩,by simp,rfl,rfl⟩
  ·exact ⟨⟨3,.phase⟩,by simp,rfl,rfl⟩
  ·cases hd
  ·cases hd
  ·cases hd
  ·cases hd
  ·cases hd
  ·exact ⟨⟨9,.phase⟩,by simp,rfl,rfl⟩
  ·exact ⟨⟨10,.phase⟩,by simp,rfl,rfl⟩
 case rall =>
  intro j hj
  refine ⟨⟨j,.phase⟩,?_,rfl,rfl⟩
  rcases (show j = 0 ∨ j = 1 ∨ j = 2 ∨ j = 3 ∨ j = 4 ∨ j = 5 ∨ j = 6 ∨ j = 7 ∨ j = 8 ∨ j = 9 ∨ j = 10 by omega) with rfl | rfl | rfl | rfl | rfl | rfl | rfl | rfl | rfl | rfl | rfl <;> simp
 case rgrow =>
  intro i o hi ho a W hb hf hp K' hK
  have HK := aS hK
  have HB := aS hb
  have D2 := aS (D.out.step hb)
  clear hK hb D
  rcases (show i = 0 ∨ i = 1 ∨ i = 2 ∨ i = 3 ∨ i = 4 ∨ i = 5 ∨ i = 6 ∨ i = 7 ∨ i = 8 ∨ i = 9 ∨ i = 10 by omega) with rfl | rfl | rfl | rfl | rfl | rfl | rfl | rfl | rfl | rfl | rfl
  ·cases ho
   have e1 : a.tmps[1]? = some (.int .i64 0) := (hf.2.2 1 (by decide)).trans rfl
   clear hp hf
   unfold Oper.wp
   go_simp
   exact HK.out _ _ (Below.refl _ _) rfl (fun _ _ _ _ _ h => by omega)
  ·cases ho
   have e3 : a.tmps[3]? = some (.pointer (some ⟨w.heap.size,0,none⟩)) := (hf.2.2 3 (by decide)).trans rfl
   clear hp hf
   unfold Oper.wp
   go_simp
   exact HK.out _ _ (Below.refl _ _) rfl (fun _ _ _ _ _ h => by omega)
  ·cases ho
   have h0 : a.eval (.tmp 46) = .int .i64 0 := hp ⟨0,.data⟩ (by simp) rfl
   have h1 : a.eval (.tmp 47) = .pointer (some ⟨w.heap.size,0,none⟩) := hp ⟨1,.data⟩ (by simp) rfl
   clear hp hf
   simp only [Act.eval,Array.getD_eq_getD_getElem?] at h0 h1
   unfold Oper.wp
   go_simp
   exact HK.out _ _ (Below.refl _ _) rfl (fun _ _ _ _ _ h => by omega)
  ·cases ho
   have h2 : a.eval (.tmp 48) = .pointer (some ⟨w.heap.size,0,none⟩) := hp ⟨2,.data⟩ (by simp) rfl
   clear hp hf
   simp only [Act.eval,Array.getD_eq_getD_getElem?] at h2
   obtain ⟨c0_,c1_,c2_,c3_,c4_,c5_,c6_,c7_,c8_,c9_,c10_,c11_,c12_,c13_,c14_⟩ := cells_15 D2.out.h1
   unfold Oper.wp
   go_simp
   exact HK.out _ _ (Below.refl _ _) rfl (fun _ _ _ _ _ h => by omega)
  ·cases ho
   have e1 : a.tmps[1]? = some (.int .i64 0) := (hf.2.2 1 (by decide)).trans rfl
   clear hp hf
   unfold Oper.wp
   go_simp
   exact HK.out _ _ (Below.refl _ _) rfl (fun _ _ _ _ _ h => by omega)
  ·cases ho
   have h4 : a.eval (.tmp 50) = .int .i64 0 := hp ⟨4,.data⟩ (by simp) rfl
   clear hp hf
   simp only [Act.eval,Array.getD_eq_getD_getElem?] at h4
   unfold Oper.wp
   go_simp
   exact HK.out _ _ (Below.refl _ _) rfl (fun _ _ _ _ _ h => by omega)
  ·cases ho
   have e3 : a.tmps[3]? = some (.pointer (some ⟨w.heap.size,0,none⟩)) := (hf.2.2 3 (by decide)).trans rfl
   clear hp hf
   unfold Oper.wp
   go_simp
   exact HK.out _ _ (Below.refl _ _) rfl (fun _ _ _ _ _ h => by omega)
  ·cases ho
   have h5 : a.eval (.tmp 51) = .int .i64 (1 - 0) := hp ⟨5,.data⟩ (by simp) rfl
   have h6 : a.eval (.tmp 52) = .pointer (some ⟨w.heap.size,0,none⟩) := hp ⟨6,.data⟩ (by simp) rfl
   clear hp hf
   simp only [Act.eval,Array.getD_eq_getD_getElem?] at h5 h6
   unfold Oper.wp
   go_simp
   exact HK.out _ _ (Below.refl _ _) rfl (fun _ _ _ _ _ h => by omega)
  ·cases ho
   have h7 : a.eval (.tmp 53) = .pointer (some ⟨w.heap.size,7,none⟩) := hp ⟨7,.data⟩ (by simp) rfl
   clear hp hf
   simp only [Act.eval,Array.getD_eq_getD_getElem?] at h7
   obtain ⟨c0_,c1_,c2_,c3_,c4_,c5_,c6_,c7_,c8_,c9_,c10_,c11_,c12_,c13_,c14_⟩ := cells_15 D2.out.h1
   unfold Oper.wp
   go_simp
   exact HK.out _ _ (Below.refl _ _) rfl (fun _ _ _ _ _ h => by omega)
  ·cases ho
   clear hp hf
   unfold Oper.wp
   go_simp
   refine HK.out _ _ (bO _) ⟨_,rfl,HB.out.size,blk_new W _⟩ (fun j v hj hji hpj hj9 => ?_)
   obtain rfl : j = 10 := by omega
   obtain ⟨B,rfl,_,hB⟩ := hpj
   have := blk_lt hB
   intro hE
   have hE2 := congrArg (fun v => match v with | .pointer (some q) => q.block | _ => 0) hE
   have hE3 : W.heap.size = B := hE2
   omega
  ·cases ho
   clear hp hf
   unfold Oper.wp
   go_simp
   refine HK.out _ _ (bO _) ⟨_,rfl,HB.out.size,blk_new W _⟩ (fun j v hj hji hpj hj9 => ?_)
   obtain rfl : j = 9 := by omega
   obtain ⟨B,rfl,_,hB⟩ := hpj
   have := blk_lt hB
   intro hE
   have hE2 := congrArg (fun v => match v with | .pointer (some q) => q.block | _ => 0) hE
   have hE3 : W.heap.size = B := hE2
   omega
 case rgrow2 =>
  intro i o hi ho hd a W hb hf hp K' hK
  have HK := aS hK
  have HB := aS hb
  have D2 := aS (D.out.step hb)
  clear hK hb D
  rcases (show i = 0 ∨ i = 1 ∨ i = 2 ∨ i = 3 ∨ i = 4 ∨ i = 5 ∨ i = 6 ∨ i = 7 ∨ i = 8 ∨ i = 9 ∨ i = 10 by omega) with rfl | rfl | rfl | rfl | rfl | rfl | rfl | rfl | rfl | rfl | rfl
  ·cases hd
  ·cases hd
  ·cases hd
  ·cases hd
  ·cases ho
   have e1 : a.tmps[1]? = some (.int .i64 0) := (hf.2.2 1 (by decide)).trans rfl
   clear hp hf
   unfold Oper.wp
   go_simp
   exact HK.out _ _ (Below.refl _ _) rfl (fun _ _ _ _ _ h => by omega)
  ·cases ho
   have h4 : a.eval (.tmp 50) = .int .i64 0 := hp ⟨4,.data⟩ (by simp) rfl
   clear hp hf
   simp only [Act.eval,Array.getD_eq_getD_getElem?] at h4
   unfold Oper.wp
   go_simp
   exact HK.out _ _ (Below.refl _ _) rfl (fun _ _ _ _ _ h => by omega)
  ·cases ho
   have e3 : a.tmps[3]? = some (.pointer (some ⟨w.heap.size,0,none⟩)) := (hf.2.2 3 (by decide)).trans rfl
   clear hp hf
   unfold Oper.wp
   go_simp
   exact HK.out _ _ (Below.refl _ _) rfl (fun _ _ _ _ _ h => by omega)
  ·cases ho
   have h5 : a.eval (.tmp 51) = .int .i64 (1 - 0) := hp ⟨5,.data⟩ (by simp) rfl
   have h6 : a.eval (.tmp 52) = .pointer (some ⟨w.heap.size,0,none⟩) := hp ⟨6,.data⟩ (by simp) rfl
   clear hp hf
   simp only [Act.eval,Array.getD_eq_getD_getElem?] at h5 h6
   unfold Oper.wp
   go_simp
   exact HK.out _ _ (Below.refl _ _) rfl (fun _ _ _ _ _ h => by omega)
  ·cases ho
   have h7 : a.eval (.tmp 53) = .pointer (some ⟨w.heap.size,7,none⟩) := hp ⟨7,.data⟩ (by simp) rfl
   clear hp hf
   simp only [Act.eval,Array.getD_eq_getD_getElem?] at h7
   obtain ⟨c0_,c1_,c2_,c3_,c4_,c5_,c6_,c7_,c8_,c9_,c10_,c11_,c12_,c13_,c14_⟩ := cells_15 D2.out.h1
   unfold Oper.wp
   go_simp
   exact HK.out _ _ (Below.refl _ _) rfl (fun _ _ _ _ _ h => by omega)
  ·cases hd
  ·cases hd
 case rs1 =>
  intro listed a W hb hf hl hp hr K' hK
  have HB := aS hb
  have l9 := hl ⟨9,.data⟩ (by simp) rfl
  have l3 := hl ⟨3,.data⟩ (by simp) rfl
  have l10 := hl ⟨10,.phase⟩ (by simp) rfl
  have HP := aS hp
  obtain ⟨B,h9,hB,hc9⟩ := hp 9 (by omega) l9
  obtain ⟨C,h10,hC,hc10⟩ := hp 10 (by omega) l10
  have h3 : a.eval (.tmp 49) = .agg #[.int .i64 s.st,.int .i64 s.ver,.slice p.A1 s.l.length p.c1,.slice p.Am s.ms.length p.cm,.slice p.Ar s.rs.length p.cr,.slice p.Ae s.echo.length p.ce,.slice p.Ac s.cs.length p.cc] := hp 3 (by omega) l3
  have hne : C ≠ B := fun h => by
   have := hr 9 10 (by omega) (by omega) (by omega) l9 l10 (.inl ⟨rfl,rfl⟩)
   exact this (by rw [h9,h10,h])
  have HC := aS hc9
  have HC2 := aS hc10
  have HKK := aS hK
  have H9 := aS h9
  have H10 := aS h10
  obtain ⟨x0,x1,x2,x3,x4,x5,x6⟩ := cells_7 hc9
  obtain ⟨f0,f1,f2,f3,f4,f5,f6⟩ := froz_7 hc9
  replace h9 : a.eval (.tmp 7) = .pointer (some ⟨B,0,none⟩) := h9
  clear hp hr hl hf hb hK hc9 hc10 h10 l9 l3 l10 D HS HT HK
  simp only [Act.eval,Array.getD_eq_getD_getElem?] at h9 h3
  unfold Oper.wp
  go_simp
  obtain ⟨n9,nb,nf⟩ := put7 HC.out hB (.int .i64 s.st) (.int .i64 s.ver) (.slice p.A1 s.l.length p.c1) (.slice p.Am s.ms.length p.cm) (.slice p.Ar s.rs.length p.cr) (.slice p.Ae s.echo.length p.ce) (.slice p.Ac s.cs.length p.cc)
  refine HKK.out _ nb (fun i hi hli => ?_)
  rcases (show i = 0 ∨ i = 1 ∨ i = 2 ∨ i = 3 ∨ i = 4 ∨ i = 5 ∨ i = 6 ∨ i = 7 ∨ i = 8 ∨ i = 9 ∨ i = 10 by omega) with rfl | rfl | rfl | rfl | rfl | rfl | rfl | rfl | rfl | rfl | rfl
  ·exact HP.out 0 (by omega) hli
  ·exact HP.out 1 (by omega) hli
  ·exact HP.out 2 (by omega) hli
  ·exact HP.out 3 (by omega) hli
  ·exact HP.out 4 (by omega) hli
  ·exact HP.out 5 (by omega) hli
  ·exact HP.out 6 (by omega) hli
  ·exact HP.out 7 (by omega) hli
  ·exact HP.out 8 (by omega) hli
  ·exact ⟨B,H9.out,hB,n9⟩
  ·exact ⟨C,H10.out,hC,nf C _ HC2.out hne⟩
 case rs2 =>
  intro a W hb hf hp hr
  obtain ⟨C,h9,hC,hc9⟩ := hp 9 (by omega)
  obtain ⟨B,h10,hB,hc10⟩ := hp 10 (by omega)
  have h8 : a.eval (.tmp 54) = .agg #[.int .i64 t.st,.int .i64 t.ver,.slice q.A1 t.l.length q.c1,.slice q.Am t.ms.length q.cm,.slice q.Ar t.rs.length q.cr,.slice q.Ae t.echo.length q.ce,.slice q.Ac t.cs.length q.cc] := hp 8 (by omega)
  have hne : C ≠ B := fun h => by
   have := hr 9 10 (by omega) (by omega) (by omega) (.inl ⟨rfl,rfl⟩)
   exact this (by rw [h9,h10,h])
  have he := hf.eq
  have v0 := hp 0 (by omega)
  have v1 := hp 1 (by omega)
  have v2 := hp 2 (by omega)
  have v3 := hp 3 (by omega)
  have v4 := hp 4 (by omega)
  have v5 := hp 5 (by omega)
  have v6 := hp 6 (by omega)
  have v7 := hp 7 (by omega)
  have v8 := hp 8 (by omega)
  replace he : putL _ [(46,a.eval (.tmp 46)),(47,a.eval (.tmp 47)),(48,a.eval (.tmp 48)),(49,a.eval (.tmp 49)),(50,a.eval (.tmp 50)),(51,a.eval (.tmp 51)),(52,a.eval (.tmp 52)),(53,a.eval (.tmp 53)),(54,a.eval (.tmp 54)),(7,a.eval (.tmp 7)),(8,a.eval (.tmp 8))] = a := he
  replace h9 : a.eval (.tmp 7) = .pointer (some ⟨C,0,none⟩) := h9
  replace h10 : a.eval (.tmp 8) = .pointer (some ⟨B,0,none⟩) := h10
  rw [h9,h10,h8,show a.eval (.tmp 49) = _ from v3] at he
  clear hp hr v0 v1 v2 v3 v4 v5 v6 v7 v8 h8 h9 h10 hf
  generalize a.eval (.tmp 46) = z46 at he
  generalize a.eval (.tmp 47) = z47 at he
  generalize a.eval (.tmp 48) = z48 at he
  generalize a.eval (.tmp 50) = z50 at he
  generalize a.eval (.tmp 51) = z51 at he
  generalize a.eval (.tmp 52) = z52 at he
  generalize a.eval (.tmp 53) = z53 at he
  simp only [putL,Act.put,sA,sB,sC] at he
  subst he
  obtain ⟨x0,x1,x2,x3,x4,x5,x6⟩ := cells_7 hc10
  obtain ⟨f0,f1,f2,f3,f4,f5,f6⟩ := froz_7 hc10
  have HN : ∃ W',W' = (((((((W.setCell ⟨B,0,none⟩ (.int .i64 t.st)).setCell ⟨B,1,none⟩ (.int .i64 t.ver)).setCell ⟨B,2,none⟩ (.slice q.A1 t.l.length q.c1)).setCell ⟨B,3,none⟩ (.slice q.Am t.ms.length q.cm)).setCell ⟨B,4,none⟩ (.slice q.Ar t.rs.length q.cr)).setCell ⟨B,5,none⟩ (.slice q.Ae t.echo.length q.ce)).setCell ⟨B,6,none⟩ (.slice q.Ac t.cs.length q.cc)) ∧ Aside0 (W'.heap[C]? = some (.cells #[.int .i64 s.st,.int .i64 s.ver,.slice p.A1 s.l.length p.c1,.slice p.Am s.ms.length p.cm,.slice p.Ar s.rs.length p.cr,.slice p.Ae s.echo.length p.ce,.slice p.Ac s.cs.length p.cc] 32 (0,0))) ∧ Aside0 (W'.heap[B]? = some (.cells #[.int .i64 t.st,.int .i64 t.ver,.slice q.A1 t.l.length q.c1,.slice q.Am t.ms.length q.cm,.slice q.Ar t.rs.length q.cr,.slice q.Ae t.echo.length q.ce,.slice q.Ac t.cs.length q.cc] 32 (0,0))) ∧ Aside0 (Box1 w W' (.cells #[.int .i64 s.st,.int .i64 s.ver,.slice p.A1 s.l.length p.c1,.slice p.Am s.ms.length p.cm,.slice p.Ar s.rs.length p.cr,.slice p.Ae s.echo.length p.ce,.slice p.Ac s.cs.length p.cc,.int .i64 t.st,.int .i64 t.ver,.slice q.A1 t.l.length q.c1,.slice q.Am t.ms.length q.cm,.slice q.Ar t.rs.length q.cr,.slice q.Ae t.echo.length q.ce,.slice q.Ac t.cs.length q.cc,.int .i64 most] 35)) := by
   obtain ⟨n9,nb,nf⟩ := put7 hc10 hB (.int .i64 t.st) (.int .i64 t.ver) (.slice q.A1 t.l.length q.c1) (.slice q.Am t.ms.length q.cm) (.slice q.Ar t.rs.length q.cr) (.slice q.Ae t.echo.length q.ce) (.slice q.Ac t.cs.length q.cc)
   exact ⟨_,rfl,⟨nf C _ hc9 hne⟩,⟨n9⟩,⟨D.out.step (hb.trans nb)⟩⟩
  obtain ⟨W',hW,HC9,HC10,D9⟩ := HN
  clear hc9 hc10 hb D hsr
  unfold Oper.wp
  go_simp
  rw [← hW]
  clear hW x0 x1 x2 x3 x4 x5 x6 f0 f1 f2 f3 f4 f5 f6
  clear hC hB hne
  obtain ⟨c0_,c1_,c2_,c3_,c4_,c5_,c6_,c7_,c8_,c9_,c10_,c11_,c12_,c13_,c14_⟩ := cells_15 D9.out.h1
  have HTR : Aside0 (msgOk s.st s.ver s.l m xs = true → ∀ W A' c',Below w.heap.size w W → Kd.C k63 W A' xs.length xs → xs.length ≤ c' → Calls prog 11 #[.agg #[.slice p.Am s.ms.length p.cm,.slice p.Ar s.rs.length p.cr],.agg #[.int .i64 s.st,.int .i64 s.ver,.slice p.A1 s.l.length p.c1],.agg #[.int .i64 t.st,.int .i64 t.ver,.slice q.A1 t.l.length q.c1],.agg #[.string m,.slice A' xs.length c']] W fun e w' => (∃ A2 c2,e = .returned (.tuple #[.agg #[.string (transS s.ms s.rs t.l m xs).1.1,.slice A2 (transS s.ms s.rs t.l m xs).1.2.length c2],.agg #[.int .i64 (transS s.ms s.rs t.l m xs).2.1,.int .i64 (transS s.ms s.rs t.l m xs).2.2]]) ∧ (transS s.ms s.rs t.l m xs).1.2.length ≤ c2 ∧ Kd.C k63 w' A2 (transS s.ms s.rs t.l m xs).1.2.length (transS s.ms s.rs t.l m xs).1.2 ∧ MsgAt w' (.slice A2 (transS s.ms s.rs t.l m xs).1.2.length c2) (transS s.ms s.rs t.l m xs).1.2) ∧ Below W.heap.size W w') := ⟨fun HM W A' c' hb hr hc => xlate_Translate.at p.Am p.cm s.ms p.Ar p.cr s.rs s.st s.ver p.A1 p.c1 s.l t.st t.ver q.A1 q.c1 t.l m A' c' xs W (fun W2 hb2 => r38 (HS.out.step (b_s hb hb2)) (HT.out.step (b_s hb hb2)) HK.out.2.1.2) HM HS.out.n1 HT.out.n1 (by have := HK.out.2.1.2.2.2.1;omega) (by have := HK.out.2.1.2.2.2.2.2.2.1;omega) HXL.out (HS.out.step hb).rm HS.out.hm (HS.out.step hb).rr HS.out.hr (HS.out.step hb).r1 HS.out.h1 (HT.out.step hb).r1 HT.out.h1 hr hc (trans_hap HK.out.2.1.2 HM)⟩
  have HTM : Aside0 (msgOk s.st s.ver s.l m xs = true → (transS s.ms s.rs t.l m xs).2.1 = 0 → msgOk t.st t.ver t.l (transS s.ms s.rs t.l m xs).1.1 (transS s.ms s.rs t.l m xs).1.2 = true) := ⟨fun hm h => transS_ok HK.out.2.1.2 hm h⟩
  have HTZ : Aside0 ((transS s.ms s.rs t.l m xs).2.1 = 0 → (transS s.ms s.rs t.l m xs).2.2 = 0) := ⟨transS_zero⟩
  go_wp2_with (first | (have X_ := HR3;clear X_;go_at_call 12;refine (HEN2.out _ A3 c3 (b_l D8.out.below _) (c_B HR3.out (bO _)) HC3.out).mono ?_;rintro e w9 ⟨rfl,hb⟩;have D9a := aS (b_s (b_l D8.out.below _) hb);have D9b := aS ((D8.out.step (bO _)).step hb);clear hb ys;have hmost : ∀ o_,(w9.alloc o_).cell? ⟨w.heap.size,14,none⟩ = some (.int .i64 most) := fun o_ => blk_cell (blk_alloc D9b.out.h1 o_) 14) | (go_at_call 9;refine (HOC.out _ D9.out.below).mono ?_;rintro e w4 ⟨rfl,hb⟩;have D9_ := aS (D9.out.step hb);have HC9_ := aS (k_B HC9.out hb);have HC10_ := aS (k_B HC10.out hb);clear HOC D9 HC9 HC10 hb c0_ c1_ c2_ c3_ c4_ c5_ c6_ c7_ c8_ c9_ c10_ c11_ c12_ c13_ c14_;have D9 := D9_;have HC9 := HC9_;have HC10 := HC10_;clear D9_ HC9_ HC10_;obtain ⟨y0,y1,y2,y3,y4,y5,y6⟩ := cells_7 HC9.out) | (go_at_call 10;refine (HDE.out _ D9.out.below).mono ?_;rintro e w5 ⟨⟨A',c',rfl,hc',hr'⟩,hb⟩;have HR' := aS hr';have HC' := aS hc';have D9_ := aS (D9.out.step hb);have HC9_ := aS (k_B HC9.out hb);have HC10_ := aS (k_B HC10.out hb);clear HDE D9 HC9 HC10 hb hc' hr' y0 y1 y2 y3 y4 y5 y6;have D9 := D9_;have HC9 := HC9_;have HC10 := HC10_;clear D9_ HC9_ HC10_;have E5 := aS (Box2.start w5 (.cells #[.string m,.slice A' xs.length c'] 42) (.cells #[.int .i64 ec,.int .i64 ef] 45));rcases (Decidable.em (ec = 0)).symm with u | u <;> (first | (have b1 : (ec == 0) = false := beq_eq_false_iff_ne.mpr u;have ha := HO.out;rw [if_pos u] at ha;clear u HTR HTM HTZ HDM HDZ;rcases ans_cases (p := p) HS.out HMO.out ha with ⟨hq,ho⟩ | ⟨hq,bb2,hen,⟨u5,ho⟩ | ⟨u5,ho⟩⟩ <;> (subst ho;have HQ := aS hq;(try have HEN2 := aS hen);(try have b5 : decide (most < (bb2.size : Int)) = true := d_T u5);(try have b5 : decide (most < (bb2.size : Int)) = false := d_F u5);(try clear hen);(try clear u5);clear hq ha HO HMO)) | (subst u;have HM := aS (HDM.out rfl);obtain rfl : ef = 0 := HDZ.out rfl;have htr := HTR.out HM.out;have htm := HTM.out HM.out;have htz := HTZ.out;have ho := HO.out;rw [if_neg (by simp)] at ho;clear HTR HTM HTZ HO HDM HDZ;generalize transS s.ms s.rs t.l m xs = x at htr htm htz ho;obtain ⟨⟨m2,xs2⟩,tc,tf⟩ := x;simp only at htr htm htz ho;have HTR := aS htr;have HTM := aS htm;have HTZ := aS htz;have HO := aS ho;clear htr htm htz ho;obtain ⟨y0,y1,y2,y3,y4,y5,y6⟩ := cells_7 (k_B HC9.out E5.out.below);obtain ⟨n0,n1,n2,n3,n4,n5,n6⟩ := cells_7 (k_B HC10.out E5.out.below)))) | (go_at_call 11;refine (HTR.out _ A' c' (D9.out.step E5.out.below).below (c_B HR'.out E5.out.below) HC'.out).mono ?_;rintro e w6 ⟨⟨A2,c2,rfl,hc2,hr2,hm2⟩,hb⟩;have HC2 := aS hc2;have HA2 := aS hm2;have E6 := aS (E5.out.step hb);clear HTR hb hc2 hr2 hm2 y0 y1 y2 y3 y4 y5 y6 n0 n1 n2 n3 n4 n5 n6;obtain ⟨f0_,f1_⟩ := froz_2 (blk_alloc (blk_alloc E6.out.h2 (.cells #[.string m2,.slice A2 xs2.length c2] 42)) (.cells #[.int .i64 tc,.int .i64 tf] 45));obtain ⟨r0_,r1_⟩ := cells_2 (blk_alloc (blk_alloc E6.out.h2 (.cells #[.string m2,.slice A2 xs2.length c2] 42)) (.cells #[.int .i64 tc,.int .i64 tf] 45));obtain ⟨g0_,g1_⟩ := cells_2 (far ⟨w5.heap.size + 1,1,none⟩ (.int .i64 tf) (far ⟨w5.heap.size + 1,0,none⟩ (.int .i64 tc) (alloc2 w6 (.cells #[.string m2,.slice A2 xs2.length c2] 42) (.cells #[.int .i64 tc,.int .i64 tf] 45)) (by show w6.heap.size + 1 ≠ w5.heap.size + 1;have := blk_lt E6.out.h2;omega)) (by show w6.heap.size + 1 ≠ w5.heap.size + 1;have := blk_lt E6.out.h2;omega));obtain ⟨m0_,m1_⟩ := cells_2 (far ⟨w5.heap.size + 1,1,none⟩ (.int .i64 tf) (far ⟨w5.heap.size + 1,0,none⟩ (.int .i64 tc) (blk_alloc (blk_alloc E6.out.h1 (.cells #[.string m2,.slice A2 xs2.length c2] 42)) (.cells #[.int .i64 tc,.int .i64 tf] 45)) (by show w5.heap.size ≠ w5.heap.size + 1;have := blk_lt E6.out.h2;omega)) (by show w5.heap.size ≠ w5.heap.size + 1;have := blk_lt E6.out.h2;omega));rcases (Decidable.em (tc = 0)).symm with u | u <;> (first | (have b2 : (tc == 0) = false := beq_eq_false_iff_ne.mpr u;have ha := HO.out;rw [if_pos u] at ha;clear u HTM HTZ;rcases ans_cases (p := p) HS.out HMO.out ha with ⟨hq,ho⟩ | ⟨hq,bb2,hen,⟨u5,ho⟩ | ⟨u5,ho⟩⟩ <;> (subst ho;have HQ := aS hq;(try have HEN2 := aS hen);(try have b5 : decide (most < (bb2.size : Int)) = true := d_T u5);(try have b5 : decide (most < (bb2.size : Int)) = false := d_F u5);(try clear hen);(try clear u5);clear hq ha HO HMO)) | (subst u;obtain rfl : tf = 0 := HTZ.out rfl;have HM2 := aS (HTM.out rfl);have ho := HO.out;rw [if_neg (by simp)] at ho;clear HO HTM HTZ;have HML : Aside0 (∀ {W : World} {A2 : Option Addr} {c2 : Nat},MsgAt W (.slice A2 xs2.length c2) xs2 → Kd.C k63 W A2 xs2.length xs2) := ⟨fun h => by obtain ⟨A',c',e',_,hC⟩ := h.reads (by have := msgOk_len HM2.out;omega);cases e';exact hC⟩;have hen := fun (W : World) (A2 : Option Addr) (c2 : Nat) (hb : Below w.heap.size w W) (hr : Kd.C k63 W A2 xs2.length xs2) (hc : xs2.length ≤ c2) => wire_Encode.at t.st t.ver q.A1 q.c1 t.l m2 A2 c2 xs2 W HT.out.n1 (HT.out.step hb).r1 HT.out.h1 (by have := msgOk_len HM2.out;omega) hr hc HM2.out;generalize encS t.st t.l m2 xs2 = bb at hen ho;have HEN := aS hen;have HO := aS ho;clear hen ho;obtain ⟨x0_,x1_⟩ := cells_2 (far ⟨w5.heap.size + 1,1,none⟩ (.int .i64 0) (far ⟨w5.heap.size + 1,0,none⟩ (.int .i64 0) (blk_alloc (blk_new w6 (.cells #[.string m2,.slice A2 xs2.length c2] 42)) (.cells #[.int .i64 0,.int .i64 0] 45)) (by show w6.heap.size ≠ w5.heap.size + 1;have := blk_lt E6.out.h2;omega)) (by show w6.heap.size ≠ w5.heap.size + 1;have := blk_lt E6.out.h2;omega));obtain ⟨n0,n1,n2,n3,n4,n5,n6⟩ := cells_7 (k_B HC10.out (((b_l (b_l E6.out.below (.cells #[.string m2,.slice A2 xs2.length c2] 42)) (.cells #[.int .i64 0,.int .i64 0] 45)).setCell (p := ⟨w5.heap.size + 1,0,none⟩) (by show w5.heap.size ≤ w5.heap.size + 1;omega) (.int .i64 0)).setCell (p := ⟨w5.heap.size + 1,1,none⟩) (by show w5.heap.size ≤ w5.heap.size + 1;omega) (.int .i64 0)))))) | (have X_ := HEN;clear X_;(fail_if_success (have X_ := EZ));go_at_call 12;refine (HEN.out _ A2 c2 (D9.out.step (((b_l (b_l E6.out.below (.cells #[.string m2,.slice A2 xs2.length c2] 42)) (.cells #[.int .i64 0,.int .i64 0] 45)).setCell (p := ⟨w5.heap.size + 1,0,none⟩) (by show w5.heap.size ≤ w5.heap.size + 1;omega) (.int .i64 0)).setCell (p := ⟨w5.heap.size + 1,1,none⟩) (by show w5.heap.size ≤ w5.heap.size + 1;omega) (.int .i64 0))).below (HML.out (((HA2.out.step (b_l (b_l (Below.refl _ _) (.cells #[.string m2,.slice A2 xs2.length c2] 42)) (.cells #[.int .i64 0,.int .i64 0] 45))).far (blk_alloc (blk_alloc E6.out.h2 (.cells #[.string m2,.slice A2 xs2.length c2] 42)) (.cells #[.int .i64 0,.int .i64 0] 45)) (by decide) 0 (.int .i64 0)).far (blk_put (blk_alloc (blk_alloc E6.out.h2 (.cells #[.string m2,.slice A2 xs2.length c2] 42)) (.cells #[.int .i64 0,.int .i64 0] 45)) 0 _ rfl) (by decide) 1 (.int .i64 0))) HC2.out).mono ?_;rintro e wz ⟨rfl,hb⟩;have EZ : Aside0 (Box2 w5 wz (.cells #[.string m,.slice A' xs.length c'] 42) (.cells #[.int .i64 0,.int .i64 0] 45)) := ⟨⟨k_B (far ⟨w5.heap.size + 1,1,none⟩ (.int .i64 0) (far ⟨w5.heap.size + 1,0,none⟩ (.int .i64 0) (blk_alloc (blk_alloc E6.out.h1 (.cells #[.string m2,.slice A2 xs2.length c2] 42)) (.cells #[.int .i64 0,.int .i64 0] 45)) (by show w5.heap.size ≠ w5.heap.size + 1;have := blk_lt E6.out.h2;omega)) (by show w5.heap.size ≠ w5.heap.size + 1;have := blk_lt E6.out.h2;omega)) hb,k_B (blk_put (blk_put (blk_alloc (blk_alloc E6.out.h2 (.cells #[.string m2,.slice A2 xs2.length c2] 42)) (.cells #[.int .i64 0,.int .i64 0] 45)) 0 (.int .i64 0) rfl) 1 (.int .i64 0) rfl) hb,b_s (((b_l (b_l E6.out.below (.cells #[.string m2,.slice A2 xs2.length c2] 42)) (.cells #[.int .i64 0,.int .i64 0] 45)).setCell (p := ⟨w5.heap.size + 1,0,none⟩) (by show w5.heap.size ≤ w5.heap.size + 1;omega) (.int .i64 0)).setCell (p := ⟨w5.heap.size + 1,1,none⟩) (by show w5.heap.size ≤ w5.heap.size + 1;omega) (.int .i64 0)) hb⟩⟩;have DZ := aS (D9.out.step EZ.out.below);clear hb f0_ f1_ r0_ r1_ g0_ g1_ m0_ m1_ x0_ x1_ n0 n1 n2 n3 n4 n5 n6;have hmost : ∀ o_,(wz.alloc o_).cell? ⟨w.heap.size,14,none⟩ = some (.int .i64 most) := fun o_ => blk_cell (blk_alloc DZ.out.h1 o_) 14;have fz := froz_2a EZ.out.h2;have kz := cells_2a EZ.out.h2;obtain ⟨m0_,m1_⟩ := cells_2 (far ⟨w5.heap.size + 1,1,none⟩ (.int .i64 129) (far ⟨w5.heap.size + 1,0,none⟩ (.int .i64 5) (blk_alloc EZ.out.h1 (.cells #[.int .i64 0,.int .i64 0] 45)) (by show w5.heap.size ≠ w5.heap.size + 1;omega)) (by show w5.heap.size ≠ w5.heap.size + 1;omega));rcases Decidable.em (most < (bb.size : Int)) with u | u <;> (first | (have b3 : decide (most < (bb.size : Int)) = true := d_T u;have b4 : decide ((bb.size : Int) ≤ most) = false := d_F (by omega);have ha := HO.out;rw [if_pos u] at ha;clear u;rcases ans_cases (p := p) HS.out HMO.out ha with ⟨hq,ho⟩ | ⟨hq,bb2,hen,⟨u5,ho⟩ | ⟨u5,ho⟩⟩ <;> (subst ho;have HQ := aS hq;(try have HEN2 := aS hen);(try have b5 : decide (most < (bb2.size : Int)) = true := d_T u5);(try have b5 : decide (most < (bb2.size : Int)) = false := d_F u5);(try clear hen);(try clear u5);clear hq ha HO HMO)) | (have b3 : decide (most < (bb.size : Int)) = false := d_F u;have b4 : decide ((bb.size : Int) ≤ most) = true := d_T (by omega);have ho := HO.out;rw [if_neg u] at ho;clear u HO;subst ho))) | (go_at_call 13;refine (mti_Request.at m _).mono ?_;rintro e w7 ⟨rfl,hb⟩;(first | (have E7 : Aside0 (Box2 w5 w7 (.cells #[.string m,.slice A' xs.length c'] 42) (.cells #[.int .i64 5,.int .i64 129] 45)) := ⟨⟨k_B (far ⟨w5.heap.size + 1,1,none⟩ (.int .i64 129) (far ⟨w5.heap.size + 1,0,none⟩ (.int .i64 5) (blk_alloc EZ.out.h1 (.cells #[.int .i64 0,.int .i64 0] 45)) (by show w5.heap.size ≠ w5.heap.size + 1;omega)) (by show w5.heap.size ≠ w5.heap.size + 1;omega)) hb,k_B (blk_put (blk_put (blk_alloc EZ.out.h2 (.cells #[.int .i64 0,.int .i64 0] 45)) 0 (.int .i64 5) rfl) 1 (.int .i64 129) rfl) hb,b_s (((b_l EZ.out.below (.cells #[.int .i64 0,.int .i64 0] 45)).setCell (p := ⟨w5.heap.size + 1,0,none⟩) (by show w5.heap.size ≤ w5.heap.size + 1;omega) (.int .i64 5)).setCell (p := ⟨w5.heap.size + 1,1,none⟩) (by show w5.heap.size ≤ w5.heap.size + 1;omega) (.int .i64 129)) hb⟩⟩;clear hmost fz kz m0_ m1_) | (have E7 : Aside0 (Box2 w5 w7 (.cells #[.string m,.slice A' xs.length c'] 42) (.cells #[.int .i64 tc,.int .i64 tf] 45)) := ⟨⟨k_B (far ⟨w5.heap.size + 1,1,none⟩ (.int .i64 tf) (far ⟨w5.heap.size + 1,0,none⟩ (.int .i64 tc) (blk_alloc (blk_alloc E6.out.h1 (.cells #[.string m2,.slice A2 xs2.length c2] 42)) (.cells #[.int .i64 tc,.int .i64 tf] 45)) (by show w5.heap.size ≠ w5.heap.size + 1;have := blk_lt E6.out.h2;omega)) (by show w5.heap.size ≠ w5.heap.size + 1;have := blk_lt E6.out.h2;omega)) hb,k_B (blk_put (blk_put (blk_alloc (blk_alloc E6.out.h2 (.cells #[.string m2,.slice A2 xs2.length c2] 42)) (.cells #[.int .i64 tc,.int .i64 tf] 45)) 0 (.int .i64 tc) rfl) 1 (.int .i64 tf) rfl) hb,b_s (((b_l (b_l E6.out.below (.cells #[.string m2,.slice A2 xs2.length c2] 42)) (.cells #[.int .i64 tc,.int .i64 tf] 45)).setCell (p := ⟨w5.heap.size + 1,0,none⟩) (by show w5.heap.size ≤ w5.heap.size + 1;omega) (.int .i64 tc)).setCell (p := ⟨w5.heap.size + 1,1,none⟩) (by show w5.heap.size ≤ w5.heap.size + 1;omega) (.int .i64 tf)) hb⟩⟩;clear f0_ f1_ r0_ r1_ g0_ g1_ m0_ m1_) | (have E7_ := E5.out.step hb;have E7 := aS E7_));have D7 := aS (D9.out.step E7.out.below);have HC7 := aS (k_B HC9.out E7.out.below);have HR7 := aS (c_B HR'.out E7.out.below);clear hb;obtain ⟨y0,y1,y2,y3,y4,y5,y6⟩ := cells_7 HC7.out;obtain ⟨m0_,m1_⟩ := cells_2 E7.out.h1;obtain ⟨k0_,k1_⟩ := cells_2 E7.out.h2;rw [HQ.out]) | (go_at_call 14;refine (reject_Build.at s.st s.ver _ _ _ p.Ae p.ce s.echo p.Ac p.cc s.cs m A' c' xs _ _ _ ⟨⟨_,_,_,rfl⟩,⟨_,_,_,rfl⟩,⟨_,_,_,rfl⟩⟩ HLE.out.1 (HS.out.step D7.out.below).re HS.out.he HLE.out.2 (HS.out.step D7.out.below).rc HS.out.hc (by have := HXL.out;omega) HR7.out HC'.out HQ.out).mono ?_;rintro e w8 ⟨⟨A3,c3,rfl,hc3,hr3⟩,hb⟩;have HR3 := aS hr3;have HC3 := aS hc3;have D8 := aS (D7.out.step hb);have HC8 := aS (k_B HC7.out hb);clear hb hr3 hc3 y0 y1 y2 y3 y4 y5 y6 m0_ m1_ k0_ k1_;have ys := fun o_ => cells_7 (blk_alloc HC8.out o_)))
  all_goals go_ret
  all_goals first | exact ⟨rfl,b_l D9a.out _⟩ | exact ⟨rfl,D7.out.below⟩ | exact ⟨rfl,b_l DZ.out.below _⟩
end
set_option maxHeartbeats 40000000 in
theorem topOutcome_bad.at (s t : Sd) (p q : Ad) (most lk : Int) (b : ByteArray) (w : World) (hlk : lk < 0 ∨ 1 < lk) (h1 : SdAt0 w s p) (h2 : SdAt0 w t q) :
  Calls prog 3 #[.agg #[.int .i64 s.st,.int .i64 s.ver,.slice p.A1 s.l.length p.c1,.slice p.Am s.ms.length p.cm,.slice p.Ar s.rs.length p.cr,.slice p.Ae s.echo.length p.ce,.slice p.Ac s.cs.length p.cc,.int .i64 t.st,.int .i64 t.ver,.slice q.A1 t.l.length q.c1,.slice q.Am t.ms.length q.cm,.slice q.Ar t.rs.length q.cr,.slice q.Ae t.echo.length q.ce,.slice q.Ac t.cs.length q.cc,.int .i64 most],.int .i64 lk,.string b] w fun e w' => e = .returned (.bool true) ∧ Below w.heap.size w w' := by
 have hu35 := underlying35
 have hu33 := underlying33
 have hu32 := underlying32
 have hu28 := underlying28
 have hu24 := underlying24
 have hu42 := underlying42
 have hu45 := underlying45
 have HS0 := aS h1
 have HT0 := aS h2
 clear h1 h2
 obtain ⟨c0_,c1_,c2_,c3_,c4_,c5_,c6_,c7_,c8_,c9_,c10_,c11_,c12_,c13_,c14_⟩ := cells_15 (Box1.start w (.cells #[.int .i64 s.st,.int .i64 s.ver,.slice p.A1 s.l.length p.c1,.slice p.Am s.ms.length p.cm,.slice p.Ar s.rs.length p.cr,.slice p.Ae s.echo.length p.ce,.slice p.Ac s.cs.length p.cc,.int .i64 t.st,.int .i64 t.ver,.slice q.A1 t.l.length q.c1,.slice q.Am t.ms.length q.cm,.slice q.Ar t.rs.length q.cr,.slice q.Ae t.echo.length q.ce,.slice q.Ac t.cs.length q.cc,.int .i64 most] 35)).h1
 have v : ¬ lk < 0 ∨ lk < 0 := by omega
 rcases v with v | v
 all_goals rcases Decidable.em ((3000 : Int) < b.size) with u | u
 all_goals first | have b0 : decide ((3000 : Int) < b.size) = true := d_T u | have b0 : decide ((3000 : Int) < b.size) = false := d_F u
 all_goals first | have b1 : decide (lk < 0) = true := d_T v | have b1 : decide (lk < 0) = false := d_F v
 all_goals first | have b2 : decide (1 < lk) = true := d_T (by omega) | skip
 all_goals clear u v hlk
 all_goals go_enter func3,ntmps3
 all_goals go_wp2_with (first | (have X := HG;clear X;go_at_call 6;refine (groattop_live.at _).mono ?_;rintro e w9 ⟨rfl,hb9⟩;have D9 := aS (D.out.step hb9);clear hb9) | (go_at_call 6;refine (groattop_live.at _).mono ?_;rintro e w1 ⟨rfl,hb1⟩;have D := aS ((Box1.start w (.cells #[.int .i64 s.st,.int .i64 s.ver,.slice p.A1 s.l.length p.c1,.slice p.Am s.ms.length p.cm,.slice p.Ar s.rs.length p.cr,.slice p.Ae s.echo.length p.ce,.slice p.Ac s.cs.length p.cc,.int .i64 t.st,.int .i64 t.ver,.slice q.A1 t.l.length q.c1,.slice q.Am t.ms.length q.cm,.slice q.Ar t.rs.length q.cr,.slice q.Ae t.echo.length q.ce,.slice q.Ac t.cs.length q.cc,.int .i64 most] 35)).step hb1);clear hb1;clear c0_ c1_ c2_ c3_ c4_ c5_ c6_ c7_ c8_ c9_ c10_ c11_ c12_ c13_ c14_;obtain ⟨c0_,c1_,c2_,c3_,c4_,c5_,c6_,c7_,c8_,c9_,c10_,c11_,c12_,c13_,c14_⟩ := cells_15 D.out.h1) | (go_at_call 7;refine (groatref24_Great.at s t p q most _ (HS0.out.step D.out.below) (HT0.out.step D.out.below)).mono ?_;rintro e w2 ⟨⟨bg,rfl,hg⟩,hb2⟩;have HG := aS hg;have D_ := aS (D.out.step hb2);clear D hb2 hg;have D := D_;clear D_;clear c0_ c1_ c2_ c3_ c4_ c5_ c6_ c7_ c8_ c9_ c10_ c11_ c12_ c13_ c14_;obtain ⟨c0_,c1_,c2_,c3_,c4_,c5_,c6_,c7_,c8_,c9_,c10_,c11_,c12_,c13_,c14_⟩ := cells_15 D.out.h1;cases bg) | (go_at_call 8;have HS := aS (SdAt_of HS0.out (HG.out (by simp)).1.1 (HG.out (by simp)).2.1);have HT := aS (SdAt_of HT0.out (HG.out (by simp)).1.2 (HG.out (by simp)).2.2);clear HS0 HT0;refine (groatref24_Right.at s t p q most _ (HS.out.step D.out.below) (HT.out.step D.out.below) (SdSz_of (HG.out (by simp)).1.1 (HG.out (by simp)).2.1) (SdSz_of (HG.out (by simp)).1.2 (HG.out (by simp)).2.2)).mono ?_;rintro e w3 ⟨⟨br,rfl,hr⟩,hb3⟩;have HRT := aS hr;have D_ := aS (D.out.step hb3);clear D hb3 hr;have D := D_;clear D_;clear c0_ c1_ c2_ c3_ c4_ c5_ c6_ c7_ c8_ c9_ c10_ c11_ c12_ c13_ c14_;obtain ⟨c0_,c1_,c2_,c3_,c4_,c5_,c6_,c7_,c8_,c9_,c10_,c11_,c12_,c13_,c14_⟩ := cells_15 D.out.h1;cases br))
 all_goals go_ret
 all_goals exact ⟨rfl,D9.out.below⟩
section
attribute [local go_sem] wr1_7 wr0_7
set_option maxHeartbeats 40000000 in
theorem topOutcome_1.at (s t : Sd) (p q : Ad) (most : Int) (b : ByteArray) (w : World) (h1 : SdAt0 w s p) (h2 : SdAt0 w t q) :
  Calls prog 3 #[.agg #[.int .i64 t.st,.int .i64 t.ver,.slice q.A1 t.l.length q.c1,.slice q.Am t.ms.length q.cm,.slice q.Ar t.rs.length q.cr,.slice q.Ae t.echo.length q.ce,.slice q.Ac t.cs.length q.cc,.int .i64 s.st,.int .i64 s.ver,.slice p.A1 s.l.length p.c1,.slice p.Am s.ms.length p.cm,.slice p.Ar s.rs.length p.cr,.slice p.Ae s.echo.length p.ce,.slice p.Ac s.cs.length p.cc,.int .i64 most],.int .i64 1,.string b] w fun e w' => e = .returned (.bool true) ∧ Below w.heap.size w w' := by
 have hu35 := underlying35
 have hu33 := underlying33
 have hu32 := underlying32
 have hu28 := underlying28
 have hu24 := underlying24
 have hu42 := underlying42
 have hu45 := underlying45
 have HS0 := aS h1
 have HT0 := aS h2
 clear h1 h2
 obtain ⟨c0_,c1_,c2_,c3_,c4_,c5_,c6_,c7_,c8_,c9_,c10_,c11_,c12_,c13_,c14_⟩ := cells_15 (Box1.start w (.cells #[.int .i64 t.st,.int .i64 t.ver,.slice q.A1 t.l.length q.c1,.slice q.Am t.ms.length q.cm,.slice q.Ar t.rs.length q.cr,.slice q.Ae t.echo.length q.ce,.slice q.Ac t.cs.length q.cc,.int .i64 s.st,.int .i64 s.ver,.slice p.A1 s.l.length p.c1,.slice p.Am s.ms.length p.cm,.slice p.Ar s.rs.length p.cr,.slice p.Ae s.echo.length p.ce,.slice p.Ac s.cs.length p.cc,.int .i64 most] 35)).h1
 rcases Decidable.em ((3000 : Int) < b.size) with u | u
 all_goals first | have b0 : decide ((3000 : Int) < b.size) = true := d_T u | have b0 : decide ((3000 : Int) < b.size) = false := d_F u
 all_goals have HSZ1 := aS u
 all_goals clear u
 all_goals go_enter func3,ntmps3
 all_goals go_wp2_with (first | (have X := HG;clear X;go_at_call 6;refine (groattop_live.at _).mono ?_;rintro e w9 ⟨rfl,hb9⟩;have D9 := aS (D.out.step hb9);clear hb9) | (go_at_call 6;refine (groattop_live.at _).mono ?_;rintro e w1 ⟨rfl,hb1⟩;have D := aS ((Box1.start w (.cells #[.int .i64 t.st,.int .i64 t.ver,.slice q.A1 t.l.length q.c1,.slice q.Am t.ms.length q.cm,.slice q.Ar t.rs.length q.cr,.slice q.Ae t.echo.length q.ce,.slice q.Ac t.cs.length q.cc,.int .i64 s.st,.int .i64 s.ver,.slice p.A1 s.l.length p.c1,.slice p.Am s.ms.length p.cm,.slice p.Ar s.rs.length p.cr,.slice p.Ae s.echo.length p.ce,.slice p.Ac s.cs.length p.cc,.int .i64 most] 35)).step hb1);clear hb1;clear c0_ c1_ c2_ c3_ c4_ c5_ c6_ c7_ c8_ c9_ c10_ c11_ c12_ c13_ c14_;obtain ⟨c0_,c1_,c2_,c3_,c4_,c5_,c6_,c7_,c8_,c9_,c10_,c11_,c12_,c13_,c14_⟩ := cells_15 D.out.h1) | (go_at_call 7;refine (groatref24_Great.at t s q p most _ (HT0.out.step D.out.below) (HS0.out.step D.out.below)).mono ?_;rintro e w2 ⟨⟨bg,rfl,hg⟩,hb2⟩;have HG := aS hg;have D_ := aS (D.out.step hb2);clear D hb2 hg;have D := D_;clear D_;clear c0_ c1_ c2_ c3_ c4_ c5_ c6_ c7_ c8_ c9_ c10_ c11_ c12_ c13_ c14_;obtain ⟨c0_,c1_,c2_,c3_,c4_,c5_,c6_,c7_,c8_,c9_,c10_,c11_,c12_,c13_,c14_⟩ := cells_15 D.out.h1;cases bg) | (go_at_call 8;have HS := aS (SdAt_of HS0.out (HG.out (by simp)).1.2 (HG.out (by simp)).2.2);have HT := aS (SdAt_of HT0.out (HG.out (by simp)).1.1 (HG.out (by simp)).2.1);clear HS0 HT0;refine (groatref24_Right.at t s q p most _ (HT.out.step D.out.below) (HS.out.step D.out.below) (SdSz_of (HG.out (by simp)).1.1 (HG.out (by simp)).2.1) (SdSz_of (HG.out (by simp)).1.2 (HG.out (by simp)).2.2)).mono ?_;rintro e w3 ⟨⟨br,rfl,hr⟩,hb3⟩;have HRT := aS hr;have D_ := aS (D.out.step hb3);clear D hb3 hr;have D := D_;clear D_;clear c0_ c1_ c2_ c3_ c4_ c5_ c6_ c7_ c8_ c9_ c10_ c11_ c12_ c13_ c14_;obtain ⟨c0_,c1_,c2_,c3_,c4_,c5_,c6_,c7_,c8_,c9_,c10_,c11_,c12_,c13_,c14_⟩ := cells_15 D.out.h1;cases br))
 any_goals (go_ret;exact ⟨rfl,D9.out.below⟩)
 have HSZ := aS (show b.size ≤ 100000 by have := HSZ1.out;omega)
 clear HSZ1
 have HK := aS (cfgK_of (HRT.out (by simp)))
 have HSI := aS (sideOk_of HK.out.2.2.1)
 have HLE : Aside0 (s.echo.length ≤ 1000 ∧ s.cs.length ≤ 1000) := ⟨by have := (HG.out (by simp)).1.2.2.1;omega,by have := (HG.out (by simp)).1.2.2.2.1;omega⟩
 have hoc : ∀ W,Below w.heap.size w W → Calls prog 9 #[.agg #[.int .i64 t.st,.int .i64 t.ver,.slice q.A1 t.l.length q.c1,.slice q.Am t.ms.length q.cm,.slice q.Ar t.rs.length q.cr,.slice q.Ae t.echo.length q.ce,.slice q.Ac t.cs.length q.cc,.int .i64 s.st,.int .i64 s.ver,.slice p.A1 s.l.length p.c1,.slice p.Am s.ms.length p.cm,.slice p.Ar s.rs.length p.cr,.slice p.Ae s.echo.length p.ce,.slice p.Ac s.cs.length p.cc,.int .i64 most],.int .i64 1,.string b] W fun e w' => e = .returned (.tuple #[.int .i64 (outS s t most b).1,.string (outS s t most b).2]) ∧ Below W.heap.size W w' := fun W hb => route_Outcome_1.at s t p q most b W (HS.out.step hb) (HT.out.step hb) HK.out HSZ.out HSI.out HLE.out.1 HLE.out.2 (Nat.le_trans (decG_len HSI.out.1) (by decide))
 clear HG HRT
 obtain ⟨o,ho⟩ : ∃ o,outS s t most b = o := ⟨_,rfl⟩
 rw [ho] at hoc
 have HOC := aS hoc
 clear hoc
 unfold outS at ho
 have hmo : ∀ e,reqM (decG s.st s.ver s.l b).1.1 = true → msgOk s.st s.ver s.l (respM (decG s.st s.ver s.l b).1.1) (buildS (decG s.st s.ver s.l b).1.2 s.echo s.cs e) = true := fun e hq => build_msgOk HSI.out hq e
 have hde : ∀ W,Below w.heap.size w W → Calls prog 10 #[.agg #[.int .i64 s.st,.int .i64 s.ver,.slice p.A1 s.l.length p.c1],.string b] W fun e w' => (∃ A' c',e = .returned (.tuple #[.agg #[.string (decG s.st s.ver s.l b).1.1,.slice A' (decG s.st s.ver s.l b).1.2.length c'],.agg #[.int .i64 (decG s.st s.ver s.l b).2.1,.int .i64 (decG s.st s.ver s.l b).2.2]]) ∧ (decG s.st s.ver s.l b).1.2.length ≤ c' ∧ Kd.C k63 w' A' (decG s.st s.ver s.l b).1.2.length (decG s.st s.ver s.l b).1.2) ∧ Below W.heap.size W w' := fun W hb => strict_Decode.at s.st s.ver p.A1 p.c1 s.l b W HS.out.n1 (c_B HS.out.r1 hb) HS.out.h1 HSI.out.1 HSZ.out
 have hdm : (decG s.st s.ver s.l b).2.1 = 0 → msgOk s.st s.ver s.l (decG s.st s.ver s.l b).1.1 (decG s.st s.ver s.l b).1.2 = true := fun h => decG_msgOk HSI.out.1 h
 have hdz : (decG s.st s.ver s.l b).2.1 = 0 → (decG s.st s.ver s.l b).2.2 = 0 := decG_zero
 have hxl : (decG s.st s.ver s.l b).1.2.length ≤ 1000 := Nat.le_trans (decG_len HSI.out.1) (by decide)
 generalize decG s.st s.ver s.l b = d at ho hmo hde hdm hdz hxl
 obtain ⟨⟨m,xs⟩,ec,ef⟩ := d
 simp only at ho hmo hde hdm hdz hxl
 have HO := aS ho
 have HMO := aS hmo
 have HDE := aS hde
 have HDM := aS hdm
 have HDZ := aS hdz
 have HXL := aS hxl
 clear ho hmo hde hdm hdz hxl
 refine region_split (by kernel_rfl) (fun wr hbr hsr => ?_)
 have D_ := aS (D.out.step hbr)
 clear D hbr c0_ c1_ c2_ c3_ c4_ c5_ c6_ c7_ c8_ c9_ c10_ c11_ c12_ c13_ c14_
 have D := D_
 clear D_
 refine wpAny_split 11 dst3 (post4 (.agg #[.int .i64 s.st,.int .i64 s.ver,.slice p.A1 s.l.length p.c1,.slice p.Am s.ms.length p.cm,.slice p.Ar s.rs.length p.cr,.slice p.Ae s.echo.length p.ce,.slice p.Ac s.cs.length p.cc]) (.agg #[.int .i64 t.st,.int .i64 t.ver,.slice q.A1 t.l.length q.c1,.slice q.Am t.ms.length q.cm,.slice q.Ar t.rs.length q.cr,.slice q.Ae t.echo.length q.ce,.slice q.Ac t.cs.length q.cc]) w.heap.size 7 0 1 wr.heap.size #[.int .i64 0,.int .i64 0,.slice none 0 0,.slice none 0 0,.slice none 0 0,.slice none 0 0,.slice none 0 0]) (post4 (.agg #[.int .i64 s.st,.int .i64 s.ver,.slice p.A1 s.l.length p.c1,.slice p.Am s.ms.length p.cm,.slice p.Ar s.rs.length p.cr,.slice p.Ae s.echo.length p.ce,.slice p.Ac s.cs.length p.cc]) (.agg #[.int .i64 t.st,.int .i64 t.ver,.slice q.A1 t.l.length q.c1,.slice q.Am t.ms.length q.cm,.slice q.Ar t.rs.length q.cr,.slice q.Ae t.echo.length q.ce,.slice q.Ac t.cs.length q.cc]) w.heap.size 7 0 1 wr.heap.size #[.int .i64 s.st,.int .i64 s.ver,.slice p.A1 s.l.length p.c1,.slice p.Am s.ms.length p.cm,.slice p.Ar s.rs.length p.cr,.slice p.Ae s.echo.length p.ce,.slice p.Ac s.cs.length p.cc]) rel4 _ wr rfl _ _ rfl rfl (fun i j u v h hij => (h (by omega)).symm) post4_st post4_st ?rlow ?rgrow done4 ?rdone ?rgrow2 ?rinj ?rsz rfl rfl (by decide) (by decide) ⟨⟨11,.chain⟩,by simp,rfl,rfl⟩ ?rall ?rs1 ?rs2 _ _ _ (Nat.le_refl _) ⟨rfl,rfl,fun _ _ => rfl⟩ (Below.refl _ _)
 case rlow =>
  intro i o hi ho
  rcases (show i = 0 ∨ i = 1 ∨ i = 2 ∨ i = 3 ∨ i = 4 ∨ i = 5 ∨ i = 6 ∨ i = 7 ∨ i = 8 ∨ i = 9 ∨ i = 10 by omega) with rfl | rfl | rfl | rfl | rfl | rfl | rfl | rfl | rfl | rfl | rfl <;> (cases ho;exact ⟨rfl,rfl,by decide⟩)
 case rinj =>
  intro i j hi hj
  revert j
  revert i
  decide
 case rsz =>
  intro i hi
  exact Nat.lt_of_lt_of_le ((by decide : ∀ i,i < 11 → dst3 i < 100) i hi) (Nat.le_of_ble_eq_true rfl)
 case rdone =>
  intro i hi hd
  rcases (show i = 0 ∨ i = 1 ∨ i = 2 ∨ i = 3 ∨ i = 4 ∨ i = 5 ∨ i = 6 ∨ i = 7 ∨ i = 8 ∨ i = 9 ∨ i = 10 by omega) with rfl | rfl | rfl | rfl | rfl | rfl | rfl | rfl | rfl | rfl | rfl
  ·exact ⟨⟨0,.phase⟩,by simp,rfl,rfl⟩
  ·exact ⟨⟨1,.phase⟩,by simp,rfl,rfl⟩
  ·exact ⟨⟨2,.phase⟩,by simp,rfl,rfl⟩
  ·exact ⟨⟨3,.phase⟩,by simp,rfl,rfl⟩
  ·cases hd
  ·cases hd
  ·cases hd
  ·cases hd
  ·cases hd
  ·exact ⟨⟨9,.phase⟩,by simp,rfl,rfl⟩
  ·exact ⟨⟨10,.phase⟩,by simp,rfl,rfl⟩
 case rall =>
  intro j hj
  refine ⟨⟨j,.phase⟩,?_,rfl,rfl⟩
  rcases (show j = 0 ∨ j = 1 ∨ j = 2 ∨ j = 3 ∨ j = 4 ∨ j = 5 ∨ j = 6 ∨ j = 7 ∨ j = 8 ∨ j = 9 ∨ j = 10 by omega) with rfl | rfl | rfl | rfl | rfl | rfl | rfl | rfl | rfl | rfl | rfl <;> simp
 case rgrow =>
  intro i o hi ho a W hb hf hp K' hK
  have HK := aS hK
  have HB := aS hb
  have D2 := aS (D.out.step hb)
  clear hK hb D
  rcases (show i = 0 ∨ i = 1 ∨ i = 2 ∨ i = 3 ∨ i = 4 ∨ i = 5 ∨ i = 6 ∨ i = 7 ∨ i = 8 ∨ i = 9 ∨ i = 10 by omega) with rfl | rfl | rfl | rfl | rfl | rfl | rfl | rfl | rfl | rfl | rfl
  ·cases ho
   have e1 : a.tmps[1]? = some (.int .i64 1) := (hf.2.2 1 (by decide)).trans rfl
   clear hp hf
   unfold Oper.wp
   go_simp
   exact HK.out _ _ (Below.refl _ _) rfl (fun _ _ _ _ _ h => by omega)
  ·cases ho
   have e3 : a.tmps[3]? = some (.pointer (some ⟨w.heap.size,0,none⟩)) := (hf.2.2 3 (by decide)).trans rfl
   clear hp hf
   unfold Oper.wp
   go_simp
   exact HK.out _ _ (Below.refl _ _) rfl (fun _ _ _ _ _ h => by omega)
  ·cases ho
   have h0 : a.eval (.tmp 46) = .int .i64 1 := hp ⟨0,.data⟩ (by simp) rfl
   have h1 : a.eval (.tmp 47) = .pointer (some ⟨w.heap.size,0,none⟩) := hp ⟨1,.data⟩ (by simp) rfl
   clear hp hf
   simp only [Act.eval,Array.getD_eq_getD_getElem?] at h0 h1
   unfold Oper.wp
   go_simp
   exact HK.out _ _ (Below.refl _ _) rfl (fun _ _ _ _ _ h => by omega)
  ·cases ho
   have h2 : a.eval (.tmp 48) = .pointer (some ⟨w.heap.size,7,none⟩) := hp ⟨2,.data⟩ (by simp) rfl
   clear hp hf
   simp only [Act.eval,Array.getD_eq_getD_getElem?] at h2
   obtain ⟨c0_,c1_,c2_,c3_,c4_,c5_,c6_,c7_,c8_,c9_,c10_,c11_,c12_,c13_,c14_⟩ := cells_15 D2.out.h1
   unfold Oper.wp
   go_simp
   exact HK.out _ _ (Below.refl _ _) rfl (fun _ _ _ _ _ h => by omega)
  ·cases ho
   have e1 : a.tmps[1]? = some (.int .i64 1) := (hf.2.2 1 (by decide)).trans rfl
   clear hp hf
   unfold Oper.wp
   go_simp
   exact HK.out _ _ (Below.refl _ _) rfl (fun _ _ _ _ _ h => by omega)
  ·cases ho
   have h4 : a.eval (.tmp 50) = .int .i64 1 := hp ⟨4,.data⟩ (by simp) rfl
   clear hp hf
   simp only [Act.eval,Array.getD_eq_getD_getElem?] at h4
   unfold Oper.wp
   go_simp
   exact HK.out _ _ (Below.refl _ _) rfl (fun _ _ _ _ _ h => by omega)
  ·cases ho
   have e3 : a.tmps[3]? = some (.pointer (some ⟨w.heap.size,0,none⟩)) := (hf.2.2 3 (by decide)).trans rfl
   clear hp hf
   unfold Oper.wp
   go_simp
   exact HK.out _ _ (Below.refl _ _) rfl (fun _ _ _ _ _ h => by omega)
  ·cases ho
   have h5 : a.eval (.tmp 51) = .int .i64 (1 - 1) := hp ⟨5,.data⟩ (by simp) rfl
   have h6 : a.eval (.tmp 52) = .pointer (some ⟨w.heap.size,0,none⟩) := hp ⟨6,.data⟩ (by simp) rfl
   clear hp hf
   simp only [Act.eval,Array.getD_eq_getD_getElem?] at h5 h6
   unfold Oper.wp
   go_simp
   exact HK.out _ _ (Below.refl _ _) rfl (fun _ _ _ _ _ h => by omega)
  ·cases ho
   have h7 : a.eval (.tmp 53) = .pointer (some ⟨w.heap.size,0,none⟩) := hp ⟨7,.data⟩ (by simp) rfl
   clear hp hf
   simp only [Act.eval,Array.getD_eq_getD_getElem?] at h7
   obtain ⟨c0_,c1_,c2_,c3_,c4_,c5_,c6_,c7_,c8_,c9_,c10_,c11_,c12_,c13_,c14_⟩ := cells_15 D2.out.h1
   unfold Oper.wp
   go_simp
   exact HK.out _ _ (Below.refl _ _) rfl (fun _ _ _ _ _ h => by omega)
  ·cases ho
   clear hp hf
   unfold Oper.wp
   go_simp
   refine HK.out _ _ (bO _) ⟨_,rfl,HB.out.size,blk_new W _⟩ (fun j v hj hji hpj hj9 => ?_)
   obtain rfl : j = 10 := by omega
   obtain ⟨B,rfl,_,hB⟩ := hpj
   have := blk_lt hB
   intro hE
   have hE2 := congrArg (fun v => match v with | .pointer (some q) => q.block | _ => 0) hE
   have hE3 : W.heap.size = B := hE2
   omega
  ·cases ho
   clear hp hf
   unfold Oper.wp
   go_simp
   refine HK.out _ _ (bO _) ⟨_,rfl,HB.out.size,blk_new W _⟩ (fun j v hj hji hpj hj9 => ?_)
   obtain rfl : j = 9 := by omega
   obtain ⟨B,rfl,_,hB⟩ := hpj
   have := blk_lt hB
   intro hE
   have hE2 := congrArg (fun v => match v with | .pointer (some q) => q.block | _ => 0) hE
   have hE3 : W.heap.size = B := hE2
   omega
 case rgrow2 =>
  intro i o hi ho hd a W hb hf hp K' hK
  have HK := aS hK
  have HB := aS hb
  have D2 := aS (D.out.step hb)
  clear hK hb D
  rcases (show i = 0 ∨ i = 1 ∨ i = 2 ∨ i = 3 ∨ i = 4 ∨ i = 5 ∨ i = 6 ∨ i = 7 ∨ i = 8 ∨ i = 9 ∨ i = 10 by omega) with rfl | rfl | rfl | rfl | rfl | rfl | rfl | rfl | rfl | rfl | rfl
  ·cases hd
  ·cases hd
  ·cases hd
  ·cases hd
  ·cases ho
   have e1 : a.tmps[1]? = some (.int .i64 1) := (hf.2.2 1 (by decide)).trans rfl
   clear hp hf
   unfold Oper.wp
   go_simp
   exact HK.out _ _ (Below.refl _ _) rfl (fun _ _ _ _ _ h => by omega)
  ·cases ho
   have h4 : a.eval (.tmp 50) = .int .i64 1 := hp ⟨4,.data⟩ (by simp) rfl
   clear hp hf
   simp only [Act.eval,Array.getD_eq_getD_getElem?] at h4
   unfold Oper.wp
   go_simp
   exact HK.out _ _ (Below.refl _ _) rfl (fun _ _ _ _ _ h => by omega)
  ·cases ho
   have e3 : a.tmps[3]? = some (.pointer (some ⟨w.heap.size,0,none⟩)) := (hf.2.2 3 (by decide)).trans rfl
   clear hp hf
   unfold Oper.wp
   go_simp
   exact HK.out _ _ (Below.refl _ _) rfl (fun _ _ _ _ _ h => by omega)
  ·cases ho
   have h5 : a.eval (.tmp 51) = .int .i64 (1 - 1) := hp ⟨5,.data⟩ (by simp) rfl
   have h6 : a.eval (.tmp 52) = .pointer (some ⟨w.heap.size,0,none⟩) := hp ⟨6,.data⟩ (by simp) rfl
   clear hp hf
   simp only [Act.eval,Array.getD_eq_getD_getElem?] at h5 h6
   unfold Oper.wp
   go_simp
   exact HK.out _ _ (Below.refl _ _) rfl (fun _ _ _ _ _ h => by omega)
  ·cases ho
   have h7 : a.eval (.tmp 53) = .pointer (some ⟨w.heap.size,0,none⟩) := hp ⟨7,.data⟩ (by simp) rfl
   clear hp hf
   simp only [Act.eval,Array.getD_eq_getD_getElem?] at h7
   obtain ⟨c0_,c1_,c2_,c3_,c4_,c5_,c6_,c7_,c8_,c9_,c10_,c11_,c12_,c13_,c14_⟩ := cells_15 D2.out.h1
   unfold Oper.wp
   go_simp
   exact HK.out _ _ (Below.refl _ _) rfl (fun _ _ _ _ _ h => by omega)
  ·cases hd
  ·cases hd
 case rs1 =>
  intro listed a W hb hf hl hp hr K' hK
  have HB := aS hb
  have l9 := hl ⟨9,.data⟩ (by simp) rfl
  have l3 := hl ⟨3,.data⟩ (by simp) rfl
  have l10 := hl ⟨10,.phase⟩ (by simp) rfl
  have HP := aS hp
  obtain ⟨B,h9,hB,hc9⟩ := hp 9 (by omega) l9
  obtain ⟨C,h10,hC,hc10⟩ := hp 10 (by omega) l10
  have h3 : a.eval (.tmp 49) = .agg #[.int .i64 s.st,.int .i64 s.ver,.slice p.A1 s.l.length p.c1,.slice p.Am s.ms.length p.cm,.slice p.Ar s.rs.length p.cr,.slice p.Ae s.echo.length p.ce,.slice p.Ac s.cs.length p.cc] := hp 3 (by omega) l3
  have hne : C ≠ B := fun h => by
   have := hr 9 10 (by omega) (by omega) (by omega) l9 l10 (.inl ⟨rfl,rfl⟩)
   exact this (by rw [h9,h10,h])
  have HC := aS hc9
  have HC2 := aS hc10
  have HKK := aS hK
  have H9 := aS h9
  have H10 := aS h10
  obtain ⟨x0,x1,x2,x3,x4,x5,x6⟩ := cells_7 hc9
  obtain ⟨f0,f1,f2,f3,f4,f5,f6⟩ := froz_7 hc9
  replace h9 : a.eval (.tmp 7) = .pointer (some ⟨B,0,none⟩) := h9
  clear hp hr hl hf hb hK hc9 hc10 h10 l9 l3 l10 D HS HT HK
  simp only [Act.eval,Array.getD_eq_getD_getElem?] at h9 h3
  unfold Oper.wp
  go_simp
  obtain ⟨n9,nb,nf⟩ := put7 HC.out hB (.int .i64 s.st) (.int .i64 s.ver) (.slice p.A1 s.l.length p.c1) (.slice p.Am s.ms.length p.cm) (.slice p.Ar s.rs.length p.cr) (.slice p.Ae s.echo.length p.ce) (.slice p.Ac s.cs.length p.cc)
  refine HKK.out _ nb (fun i hi hli => ?_)
  rcases (show i = 0 ∨ i = 1 ∨ i = 2 ∨ i = 3 ∨ i = 4 ∨ i = 5 ∨ i = 6 ∨ i = 7 ∨ i = 8 ∨ i = 9 ∨ i = 10 by omega) with rfl | rfl | rfl | rfl | rfl | rfl | rfl | rfl | rfl | rfl | rfl
  ·exact HP.out 0 (by omega) hli
  ·exact HP.out 1 (by omega) hli
  ·exact HP.out 2 (by omega) hli
  ·exact HP.out 3 (by omega) hli
  ·exact HP.out 4 (by omega) hli
  ·exact HP.out 5 (by omega) hli
  ·exact HP.out 6 (by omega) hli
  ·exact HP.out 7 (by omega) hli
  ·exact HP.out 8 (by omega) hli
  ·exact ⟨B,H9.out,hB,n9⟩
  ·exact ⟨C,H10.out,hC,nf C _ HC2.out hne⟩
 case rs2 =>
  intro a W hb hf hp hr
  obtain ⟨C,h9,hC,hc9⟩ := hp 9 (by omega)
  obtain ⟨B,h10,hB,hc10⟩ := hp 10 (by omega)
  have h8 : a.eval (.tmp 54) = .agg #[.int .i64 t.st,.int .i64 t.ver,.slice q.A1 t.l.length q.c1,.slice q.Am t.ms.length q.cm,.slice q.Ar t.rs.length q.cr,.slice q.Ae t.echo.length q.ce,.slice q.Ac t.cs.length q.cc] := hp 8 (by omega)
  have hne : C ≠ B := fun h => by
   have := hr 9 10 (by omega) (by omega) (by omega) (.inl ⟨rfl,rfl⟩)
   exact this (by rw [h9,h10,h])
  have he := hf.eq
  have v0 := hp 0 (by omega)
  have v1 := hp 1 (by omega)
  have v2 := hp 2 (by omega)
  have v3 := hp 3 (by omega)
  have v4 := hp 4 (by omega)
  have v5 := hp 5 (by omega)
  have v6 := hp 6 (by omega)
  have v7 := hp 7 (by omega)
  have v8 := hp 8 (by omega)
  replace he : putL _ [(46,a.eval (.tmp 46)),(47,a.eval (.tmp 47)),(48,a.eval (.tmp 48)),(49,a.eval (.tmp 49)),(50,a.eval (.tmp 50)),(51,a.eval (.tmp 51)),(52,a.eval (.tmp 52)),(53,a.eval (.tmp 53)),(54,a.eval (.tmp 54)),(7,a.eval (.tmp 7)),(8,a.eval (.tmp 8))] = a := he
  replace h9 : a.eval (.tmp 7) = .pointer (some ⟨C,0,none⟩) := h9
  replace h10 : a.eval (.tmp 8) = .pointer (some ⟨B,0,none⟩) := h10
  rw [h9,h10,h8,show a.eval (.tmp 49) = _ from v3] at he
  clear hp hr v0 v1 v2 v3 v4 v5 v6 v7 v8 h8 h9 h10 hf
  generalize a.eval (.tmp 46) = z46 at he
  generalize a.eval (.tmp 47) = z47 at he
  generalize a.eval (.tmp 48) = z48 at he
  generalize a.eval (.tmp 50) = z50 at he
  generalize a.eval (.tmp 51) = z51 at he
  generalize a.eval (.tmp 52) = z52 at he
  generalize a.eval (.tmp 53) = z53 at he
  simp only [putL,Act.put,sA,sB,sC] at he
  subst he
  obtain ⟨x0,x1,x2,x3,x4,x5,x6⟩ := cells_7 hc10
  obtain ⟨f0,f1,f2,f3,f4,f5,f6⟩ := froz_7 hc10
  have HN : ∃ W',W' = (((((((W.setCell ⟨B,0,none⟩ (.int .i64 t.st)).setCell ⟨B,1,none⟩ (.int .i64 t.ver)).setCell ⟨B,2,none⟩ (.slice q.A1 t.l.length q.c1)).setCell ⟨B,3,none⟩ (.slice q.Am t.ms.length q.cm)).setCell ⟨B,4,none⟩ (.slice q.Ar t.rs.length q.cr)).setCell ⟨B,5,none⟩ (.slice q.Ae t.echo.length q.ce)).setCell ⟨B,6,none⟩ (.slice q.Ac t.cs.length q.cc)) ∧ Aside0 (W'.heap[C]? = some (.cells #[.int .i64 s.st,.int .i64 s.ver,.slice p.A1 s.l.length p.c1,.slice p.Am s.ms.length p.cm,.slice p.Ar s.rs.length p.cr,.slice p.Ae s.echo.length p.ce,.slice p.Ac s.cs.length p.cc] 32 (0,0))) ∧ Aside0 (W'.heap[B]? = some (.cells #[.int .i64 t.st,.int .i64 t.ver,.slice q.A1 t.l.length q.c1,.slice q.Am t.ms.length q.cm,.slice q.Ar t.rs.length q.cr,.slice q.Ae t.echo.length q.ce,.slice q.Ac t.cs.length q.cc] 32 (0,0))) ∧ Aside0 (Box1 w W' (.cells #[.int .i64 t.st,.int .i64 t.ver,.slice q.A1 t.l.length q.c1,.slice q.Am t.ms.length q.cm,.slice q.Ar t.rs.length q.cr,.slice q.Ae t.echo.length q.ce,.slice q.Ac t.cs.length q.cc,.int .i64 s.st,.int .i64 s.ver,.slice p.A1 s.l.length p.c1,.slice p.Am s.ms.length p.cm,.slice p.Ar s.rs.length p.cr,.slice p.Ae s.echo.length p.ce,.slice p.Ac s.cs.length p.cc,.int .i64 most] 35)) := by
   obtain ⟨n9,nb,nf⟩ := put7 hc10 hB (.int .i64 t.st) (.int .i64 t.ver) (.slice q.A1 t.l.length q.c1) (.slice q.Am t.ms.length q.cm) (.slice q.Ar t.rs.length q.cr) (.slice q.Ae t.echo.length q.ce) (.slice q.Ac t.cs.length q.cc)
   exact ⟨_,rfl,⟨nf C _ hc9 hne⟩,⟨n9⟩,⟨D.out.step (hb.trans nb)⟩⟩
  obtain ⟨W',hW,HC9,HC10,D9⟩ := HN
  clear hc9 hc10 hb D hsr
  unfold Oper.wp
  go_simp
  rw [← hW]
  clear hW x0 x1 x2 x3 x4 x5 x6 f0 f1 f2 f3 f4 f5 f6
  clear hC hB hne
  obtain ⟨c0_,c1_,c2_,c3_,c4_,c5_,c6_,c7_,c8_,c9_,c10_,c11_,c12_,c13_,c14_⟩ := cells_15 D9.out.h1
  have HTR : Aside0 (msgOk s.st s.ver s.l m xs = true → ∀ W A' c',Below w.heap.size w W → Kd.C k63 W A' xs.length xs → xs.length ≤ c' → Calls prog 11 #[.agg #[.slice p.Am s.ms.length p.cm,.slice p.Ar s.rs.length p.cr],.agg #[.int .i64 s.st,.int .i64 s.ver,.slice p.A1 s.l.length p.c1],.agg #[.int .i64 t.st,.int .i64 t.ver,.slice q.A1 t.l.length q.c1],.agg #[.string m,.slice A' xs.length c']] W fun e w' => (∃ A2 c2,e = .returned (.tuple #[.agg #[.string (transS s.ms s.rs t.l m xs).1.1,.slice A2 (transS s.ms s.rs t.l m xs).1.2.length c2],.agg #[.int .i64 (transS s.ms s.rs t.l m xs).2.1,.int .i64 (transS s.ms s.rs t.l m xs).2.2]]) ∧ (transS s.ms s.rs t.l m xs).1.2.length ≤ c2 ∧ Kd.C k63 w' A2 (transS s.ms s.rs t.l m xs).1.2.length (transS s.ms s.rs t.l m xs).1.2 ∧ MsgAt w' (.slice A2 (transS s.ms s.rs t.l m xs).1.2.length c2) (transS s.ms s.rs t.l m xs).1.2) ∧ Below W.heap.size W w') := ⟨fun HM W A' c' hb hr hc => xlate_Translate.at p.Am p.cm s.ms p.Ar p.cr s.rs s.st s.ver p.A1 p.c1 s.l t.st t.ver q.A1 q.c1 t.l m A' c' xs W (fun W2 hb2 => r38 (HS.out.step (b_s hb hb2)) (HT.out.step (b_s hb hb2)) HK.out.2.2.2) HM HS.out.n1 HT.out.n1 (by have := HK.out.2.2.2.2.2.1;omega) (by have := HK.out.2.2.2.2.2.2.2.2.1;omega) HXL.out (HS.out.step hb).rm HS.out.hm (HS.out.step hb).rr HS.out.hr (HS.out.step hb).r1 HS.out.h1 (HT.out.step hb).r1 HT.out.h1 hr hc (trans_hap HK.out.2.2.2 HM)⟩
  have HTM : Aside0 (msgOk s.st s.ver s.l m xs = true → (transS s.ms s.rs t.l m xs).2.1 = 0 → msgOk t.st t.ver t.l (transS s.ms s.rs t.l m xs).1.1 (transS s.ms s.rs t.l m xs).1.2 = true) := ⟨fun hm h => transS_ok HK.out.2.2.2 hm h⟩
  have HTZ : Aside0 ((transS s.ms s.rs t.l m xs).2.1 = 0 → (transS s.ms s.rs t.l m xs).2.2 = 0) := ⟨transS_zero⟩
  go_wp2_with (first | (have X_ := HR3;clear X_;go_at_call 12;refine (HEN2.out _ A3 c3 (b_l D8.out.below _) (c_B HR3.out (bO _)) HC3.out).mono ?_;rintro e w9 ⟨rfl,hb⟩;have D9a := aS (b_s (b_l D8.out.below _) hb);have D9b := aS ((D8.out.step (bO _)).step hb);clear hb ys;have hmost : ∀ o_,(w9.alloc o_).cell? ⟨w.heap.size,14,none⟩ = some (.int .i64 most) := fun o_ => blk_cell (blk_alloc D9b.out.h1 o_) 14) | (go_at_call 9;refine (HOC.out _ D9.out.below).mono ?_;rintro e w4 ⟨rfl,hb⟩;have D9_ := aS (D9.out.step hb);have HC9_ := aS (k_B HC9.out hb);have HC10_ := aS (k_B HC10.out hb);clear HOC D9 HC9 HC10 hb c0_ c1_ c2_ c3_ c4_ c5_ c6_ c7_ c8_ c9_ c10_ c11_ c12_ c13_ c14_;have D9 := D9_;have HC9 := HC9_;have HC10 := HC10_;clear D9_ HC9_ HC10_;obtain ⟨y0,y1,y2,y3,y4,y5,y6⟩ := cells_7 HC9.out) | (go_at_call 10;refine (HDE.out _ D9.out.below).mono ?_;rintro e w5 ⟨⟨A',c',rfl,hc',hr'⟩,hb⟩;have HR' := aS hr';have HC' := aS hc';have D9_ := aS (D9.out.step hb);have HC9_ := aS (k_B HC9.out hb);have HC10_ := aS (k_B HC10.out hb);clear HDE D9 HC9 HC10 hb hc' hr' y0 y1 y2 y3 y4 y5 y6;have D9 := D9_;have HC9 := HC9_;have HC10 := HC10_;clear D9_ HC9_ HC10_;have E5 := aS (Box2.start w5 (.cells #[.string m,.slice A' xs.length c'] 42) (.cells #[.int .i64 ec,.int .i64 ef] 45));rcases (Decidable.em (ec = 0)).symm with u | u <;> (first | (have b1 : (ec == 0) = false := beq_eq_false_iff_ne.mpr u;have ha := HO.out;rw [if_pos u] at ha;clear u HTR HTM HTZ HDM HDZ;rcases ans_cases (p := p) HS.out HMO.out ha with ⟨hq,ho⟩ | ⟨hq,bb2,hen,⟨u5,ho⟩ | ⟨u5,ho⟩⟩ <;> (subst ho;have HQ := aS hq;(try have HEN2 := aS hen);(try have b5 : decide (most < (bb2.size : Int)) = true := d_T u5);(try have b5 : decide (most < (bb2.size : Int)) = false := d_F u5);(try clear hen);(try clear u5);clear hq ha HO HMO)) | (subst u;have HM := aS (HDM.out rfl);obtain rfl : ef = 0 := HDZ.out rfl;have htr := HTR.out HM.out;have htm := HTM.out HM.out;have htz := HTZ.out;have ho := HO.out;rw [if_neg (by simp)] at ho;clear HTR HTM HTZ HO HDM HDZ;generalize transS s.ms s.rs t.l m xs = x at htr htm htz ho;obtain ⟨⟨m2,xs2⟩,tc,tf⟩ := x;simp only at htr htm htz ho;have HTR := aS htr;have HTM := aS htm;have HTZ := aS htz;have HO := aS ho;clear htr htm htz ho;obtain ⟨y0,y1,y2,y3,y4,y5,y6⟩ := cells_7 (k_B HC9.out E5.out.below);obtain ⟨n0,n1,n2,n3,n4,n5,n6⟩ := cells_7 (k_B HC10.out E5.out.below)))) | (go_at_call 11;refine (HTR.out _ A' c' (D9.out.step E5.out.below).below (c_B HR'.out E5.out.below) HC'.out).mono ?_;rintro e w6 ⟨⟨A2,c2,rfl,hc2,hr2,hm2⟩,hb⟩;have HC2 := aS hc2;have HA2 := aS hm2;have E6 := aS (E5.out.step hb);clear HTR hb hc2 hr2 hm2 y0 y1 y2 y3 y4 y5 y6 n0 n1 n2 n3 n4 n5 n6;obtain ⟨f0_,f1_⟩ := froz_2 (blk_alloc (blk_alloc E6.out.h2 (.cells #[.string m2,.slice A2 xs2.length c2] 42)) (.cells #[.int .i64 tc,.int .i64 tf] 45));obtain ⟨r0_,r1_⟩ := cells_2 (blk_alloc (blk_alloc E6.out.h2 (.cells #[.string m2,.slice A2 xs2.length c2] 42)) (.cells #[.int .i64 tc,.int .i64 tf] 45));obtain ⟨g0_,g1_⟩ := cells_2 (far ⟨w5.heap.size + 1,1,none⟩ (.int .i64 tf) (far ⟨w5.heap.size + 1,0,none⟩ (.int .i64 tc) (alloc2 w6 (.cells #[.string m2,.slice A2 xs2.length c2] 42) (.cells #[.int .i64 tc,.int .i64 tf] 45)) (by show w6.heap.size + 1 ≠ w5.heap.size + 1;have := blk_lt E6.out.h2;omega)) (by show w6.heap.size + 1 ≠ w5.heap.size + 1;have := blk_lt E6.out.h2;omega));obtain ⟨m0_,m1_⟩ := cells_2 (far ⟨w5.heap.size + 1,1,none⟩ (.int .i64 tf) (far ⟨w5.heap.size + 1,0,none⟩ (.int .i64 tc) (blk_alloc (blk_alloc E6.out.h1 (.cells #[.string m2,.slice A2 xs2.length c2] 42)) (.cells #[.int .i64 tc,.int .i64 tf] 45)) (by show w5.heap.size ≠ w5.heap.size + 1;have := blk_lt E6.out.h2;omega)) (by show w5.heap.size ≠ w5.heap.size + 1;have := blk_lt E6.out.h2;omega));rcases (Decidable.em (tc = 0)).symm with u | u <;> (first | (have b2 : (tc == 0) = false := beq_eq_false_iff_ne.mpr u;have ha := HO.out;rw [if_pos u] at ha;clear u HTM HTZ;rcases ans_cases (p := p) HS.out HMO.out ha with ⟨hq,ho⟩ | ⟨hq,bb2,hen,⟨u5,ho⟩ | ⟨u5,ho⟩⟩ <;> (subst ho;have HQ := aS hq;(try have HEN2 := aS hen);(try have b5 : decide (most < (bb2.size : Int)) = true := d_T u5);(try have b5 : decide (most < (bb2.size : Int)) = false := d_F u5);(try clear hen);(try clear u5);clear hq ha HO HMO)) | (subst u;obtain rfl : tf = 0 := HTZ.out rfl;have HM2 := aS (HTM.out rfl);have ho := HO.out;rw [if_neg (by simp)] at ho;clear HO HTM HTZ;have HML : Aside0 (∀ {W : World} {A2 : Option Addr} {c2 : Nat},MsgAt W (.slice A2 xs2.length c2) xs2 → Kd.C k63 W A2 xs2.length xs2) := ⟨fun h => by obtain ⟨A',c',e',_,hC⟩ := h.reads (by have := msgOk_len HM2.out;omega);cases e';exact hC⟩;have hen := fun (W : World) (A2 : Option Addr) (c2 : Nat) (hb : Below w.heap.size w W) (hr : Kd.C k63 W A2 xs2.length xs2) (hc : xs2.length ≤ c2) => wire_Encode.at t.st t.ver q.A1 q.c1 t.l m2 A2 c2 xs2 W HT.out.n1 (HT.out.step hb).r1 HT.out.h1 (by have := msgOk_len HM2.out;omega) hr hc HM2.out;generalize encS t.st t.l m2 xs2 = bb at hen ho;have HEN := aS hen;have HO := aS ho;clear hen ho;obtain ⟨x0_,x1_⟩ := cells_2 (far ⟨w5.heap.size + 1,1,none⟩ (.int .i64 0) (far ⟨w5.heap.size + 1,0,none⟩ (.int .i64 0) (blk_alloc (blk_new w6 (.cells #[.string m2,.slice A2 xs2.length c2] 42)) (.cells #[.int .i64 0,.int .i64 0] 45)) (by show w6.heap.size ≠ w5.heap.size + 1;have := blk_lt E6.out.h2;omega)) (by show w6.heap.size ≠ w5.heap.size + 1;have := blk_lt E6.out.h2;omega));obtain ⟨n0,n1,n2,n3,n4,n5,n6⟩ := cells_7 (k_B HC10.out (((b_l (b_l E6.out.below (.cells #[.string m2,.slice A2 xs2.length c2] 42)) (.cells #[.int .i64 0,.int .i64 0] 45)).setCell (p := ⟨w5.heap.size + 1,0,none⟩) (by show w5.heap.size ≤ w5.heap.size + 1;omega) (.int .i64 0)).setCell (p := ⟨w5.heap.size + 1,1,none⟩) (by show w5.heap.size ≤ w5.heap.size + 1;omega) (.int .i64 0)))))) | (have X_ := HEN;clear X_;(fail_if_success (have X_ := EZ));go_at_call 12;refine (HEN.out _ A2 c2 (D9.out.step (((b_l (b_l E6.out.below (.cells #[.string m2,.slice A2 xs2.length c2] 42)) (.cells #[.int .i64 0,.int .i64 0] 45)).setCell (p := ⟨w5.heap.size + 1,0,none⟩) (by show w5.heap.size ≤ w5.heap.size + 1;omega) (.int .i64 0)).setCell (p := ⟨w5.heap.size + 1,1,none⟩) (by show w5.heap.size ≤ w5.heap.size + 1;omega) (.int .i64 0))).below (HML.out (((HA2.out.step (b_l (b_l (Below.refl _ _) (.cells #[.string m2,.slice A2 xs2.length c2] 42)) (.cells #[.int .i64 0,.int .i64 0] 45))).far (blk_alloc (blk_alloc E6.out.h2 (.cells #[.string m2,.slice A2 xs2.length c2] 42)) (.cells #[.int .i64 0,.int .i64 0] 45)) (by decide) 0 (.int .i64 0)).far (blk_put (blk_alloc (blk_alloc E6.out.h2 (.cells #[.string m2,.slice A2 xs2.length c2] 42)) (.cells #[.int .i64 0,.int .i64 0] 45)) 0 _ rfl) (by decide) 1 (.int .i64 0))) HC2.out).mono ?_;rintro e wz ⟨rfl,hb⟩;have EZ : Aside0 (Box2 w5 wz (.cells #[.string m,.slice A' xs.length c'] 42) (.cells #[.int .i64 0,.int .i64 0] 45)) := ⟨⟨k_B (far ⟨w5.heap.size + 1,1,none⟩ (.int .i64 0) (far ⟨w5.heap.size + 1,0,none⟩ (.int .i64 0) (blk_alloc (blk_alloc E6.out.h1 (.cells #[.string m2,.slice A2 xs2.length c2] 42)) (.cells #[.int .i64 0,.int .i64 0] 45)) (by show w5.heap.size ≠ w5.heap.size + 1;have := blk_lt E6.out.h2;omega)) (by show w5.heap.size ≠ w5.heap.size + 1;have := blk_lt E6.out.h2;omega)) hb,k_B (blk_put (blk_put (blk_alloc (blk_alloc E6.out.h2 (.cells #[.string m2,.slice A2 xs2.length c2] 42)) (.cells #[.int .i64 0,.int .i64 0] 45)) 0 (.int .i64 0) rfl) 1 (.int .i64 0) rfl) hb,b_s (((b_l (b_l E6.out.below (.cells #[.string m2,.slice A2 xs2.length c2] 42)) (.cells #[.int .i64 0,.int .i64 0] 45)).setCell (p := ⟨w5.heap.size + 1,0,none⟩) (by show w5.heap.size ≤ w5.heap.size + 1;omega) (.int .i64 0)).setCell (p := ⟨w5.heap.size + 1,1,none⟩) (by show w5.heap.size ≤ w5.heap.size + 1;omega) (.int .i64 0)) hb⟩⟩;have DZ := aS (D9.out.step EZ.out.below);clear hb f0_ f1_ r0_ r1_ g0_ g1_ m0_ m1_ x0_ x1_ n0 n1 n2 n3 n4 n5 n6;have hmost : ∀ o_,(wz.alloc o_).cell? ⟨w.heap.size,14,none⟩ = some (.int .i64 most) := fun o_ => blk_cell (blk_alloc DZ.out.h1 o_) 14;have fz := froz_2a EZ.out.h2;have kz := cells_2a EZ.out.h2;obtain ⟨m0_,m1_⟩ := cells_2 (far ⟨w5.heap.size + 1,1,none⟩ (.int .i64 129) (far ⟨w5.heap.size + 1,0,none⟩ (.int .i64 5) (blk_alloc EZ.out.h1 (.cells #[.int .i64 0,.int .i64 0] 45)) (by show w5.heap.size ≠ w5.heap.size + 1;omega)) (by show w5.heap.size ≠ w5.heap.size + 1;omega));rcases Decidable.em (most < (bb.size : Int)) with u | u <;> (first | (have b3 : decide (most < (bb.size : Int)) = true := d_T u;have b4 : decide ((bb.size : Int) ≤ most) = false := d_F (by omega);have ha := HO.out;rw [if_pos u] at ha;clear u;rcases ans_cases (p := p) HS.out HMO.out ha with ⟨hq,ho⟩ | ⟨hq,bb2,hen,⟨u5,ho⟩ | ⟨u5,ho⟩⟩ <;> (subst ho;have HQ := aS hq;(try have HEN2 := aS hen);(try have b5 : decide (most < (bb2.size : Int)) = true := d_T u5);(try have b5 : decide (most < (bb2.size : Int)) = false := d_F u5);(try clear hen);(try clear u5);clear hq ha HO HMO)) | (have b3 : decide (most < (bb.size : Int)) = false := d_F u;have b4 : decide ((bb.size : Int) ≤ most) = true := d_T (by omega);have ho := HO.out;rw [if_neg u] at ho;clear u HO;subst ho))) | (go_at_call 13;refine (mti_Request.at m _).mono ?_;rintro e w7 ⟨rfl,hb⟩;(first | (have E7 : Aside0 (Box2 w5 w7 (.cells #[.string m,.slice A' xs.length c'] 42) (.cells #[.int .i64 5,.int .i64 129] 45)) := ⟨⟨k_B (far ⟨w5.heap.size + 1,1,none⟩ (.int .i64 129) (far ⟨w5.heap.size + 1,0,none⟩ (.int .i64 5) (blk_alloc EZ.out.h1 (.cells #[.int .i64 0,.int .i64 0] 45)) (by show w5.heap.size ≠ w5.heap.size + 1;omega)) (by show w5.heap.size ≠ w5.heap.size + 1;omega)) hb,k_B (blk_put (blk_put (blk_alloc EZ.out.h2 (.cells #[.int .i64 0,.int .i64 0] 45)) 0 (.int .i64 5) rfl) 1 (.int .i64 129) rfl) hb,b_s (((b_l EZ.out.below (.cells #[.int .i64 0,.int .i64 0] 45)).setCell (p := ⟨w5.heap.size + 1,0,none⟩) (by show w5.heap.size ≤ w5.heap.size + 1;omega) (.int .i64 5)).setCell (p := ⟨w5.heap.size + 1,1,none⟩) (by show w5.heap.size ≤ w5.heap.size + 1;omega) (.int .i64 129)) hb⟩⟩;clear hmost fz kz m0_ m1_) | (have E7 : Aside0 (Box2 w5 w7 (.cells #[.string m,.slice A' xs.length c'] 42) (.cells #[.int .i64 tc,.int .i64 tf] 45)) := ⟨⟨k_B (far ⟨w5.heap.size + 1,1,none⟩ (.int .i64 tf) (far ⟨w5.heap.size + 1,0,none⟩ (.int .i64 tc) (blk_alloc (blk_alloc E6.out.h1 (.cells #[.string m2,.slice A2 xs2.length c2] 42)) (.cells #[.int .i64 tc,.int .i64 tf] 45)) (by show w5.heap.size ≠ w5.heap.size + 1;have := blk_lt E6.out.h2;omega)) (by show w5.heap.size ≠ w5.heap.size + 1;have := blk_lt E6.out.h2;omega)) hb,k_B (blk_put (blk_put (blk_alloc (blk_alloc E6.out.h2 (.cells #[.string m2,.slice A2 xs2.length c2] 42)) (.cells #[.int .i64 tc,.int .i64 tf] 45)) 0 (.int .i64 tc) rfl) 1 (.int .i64 tf) rfl) hb,b_s (((b_l (b_l E6.out.below (.cells #[.string m2,.slice A2 xs2.length c2] 42)) (.cells #[.int .i64 tc,.int .i64 tf] 45)).setCell (p := ⟨w5.heap.size + 1,0,none⟩) (by show w5.heap.size ≤ w5.heap.size + 1;omega) (.int .i64 tc)).setCell (p := ⟨w5.heap.size + 1,1,none⟩) (by show w5.heap.size ≤ w5.heap.size + 1;omega) (.int .i64 tf)) hb⟩⟩;clear f0_ f1_ r0_ r1_ g0_ g1_ m0_ m1_) | (have E7_ := E5.out.step hb;have E7 := aS E7_));have D7 := aS (D9.out.step E7.out.below);have HC7 := aS (k_B HC9.out E7.out.below);have HR7 := aS (c_B HR'.out E7.out.below);clear hb;obtain ⟨y0,y1,y2,y3,y4,y5,y6⟩ := cells_7 HC7.out;obtain ⟨m0_,m1_⟩ := cells_2 E7.out.h1;obtain ⟨k0_,k1_⟩ := cells_2 E7.out.h2;rw [HQ.out]) | (go_at_call 14;refine (reject_Build.at s.st s.ver _ _ _ p.Ae p.ce s.echo p.Ac p.cc s.cs m A' c' xs _ _ _ ⟨⟨_,_,_,rfl⟩,⟨_,_,_,rfl⟩,⟨_,_,_,rfl⟩⟩ HLE.out.1 (HS.out.step D7.out.below).re HS.out.he HLE.out.2 (HS.out.step D7.out.below).rc HS.out.hc (by have := HXL.out;omega) HR7.out HC'.out HQ.out).mono ?_;rintro e w8 ⟨⟨A3,c3,rfl,hc3,hr3⟩,hb⟩;have HR3 := aS hr3;have HC3 := aS hc3;have D8 := aS (D7.out.step hb);have HC8 := aS (k_B HC7.out hb);clear hb hr3 hc3 y0 y1 y2 y3 y4 y5 y6 m0_ m1_ k0_ k1_;have ys := fun o_ => cells_7 (blk_alloc HC8.out o_)))
  all_goals go_ret
  all_goals first | exact ⟨rfl,b_l D9a.out _⟩ | exact ⟨rfl,D7.out.below⟩ | exact ⟨rfl,b_l DZ.out.below _⟩
end
end Go.Proofs.YtgbmnpgaddhfpaaGreatDoor.T
