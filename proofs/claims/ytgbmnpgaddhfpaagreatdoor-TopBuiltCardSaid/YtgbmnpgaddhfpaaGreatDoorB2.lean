/- Walks and plain laws beneath the law TopBuilt. No conditions but what each statement names. -/
import Derived.Test.YtgbmnpgaddhfpaaGreatDoorB1
set_option linter.unusedVariables false
set_option linter.unusedSimpArgs false
namespace Go.Proofs.YtgbmnpgaddhfpaaGreatDoor.T
open Go.RowKit Go.Proofs.YtgbmnpgaddhfpaaGreatDoorW.PrintWords Go.Proofs.YtgbmnpgaddhfpaaGreatDoorW.PrintLast Go.Proofs.YtgbmnpgaddhfpaaGreatDoorW.PrintMore
attribute [local go_sem] max2_int min2_int max_two min_two
open Tryz
set_option maxRecDepth 100000
def groatref22_Turn.l0 : Nat → Int → List (S66) → List (S94) → List (S66) → List (S94) → Option ((List (S66)) × (List (S94)))
 | 0,_,_,_,_,_ => none
 | k + 1,x4,x851000,x851001,x856000,x856001 => if x4 < (x851001.length : Int) then (if 0 ≤ x4 then ((groatref19_Turn.f k ((rd_T94 x851001 x4).f4)).bind fun t858 => (if x856001.length < 2199023255552 then (groatref22_Turn.l0 k (wrap64 (x4 + 1)) x851000 x851001 x856000 (x856001 ++ [(⟨(rd_T94 x851001 x4).f0,(rd_T94 x851001 x4).f2,(rd_T94 x851001 x4).f1,(rd_T94 x851001 x4).f3,t858⟩ : S94)])) else (none))) else (none)) else (some (x856000,x856001))
def groatref22_Turn.f (k : Nat) (l0_0 : List (S66)) (l0_1 : List (S94)) : Option ((List (S66)) × (List (S94))) := (groatref19_Turn.f k l0_0).bind fun t852 => (groatref22_Turn.l0 k 0 l0_0 l0_1 t852 ([] : List (S94)))
def groatref22_Turn.T6 : Bool × List (List Nat × List Nat) := (true,[([],[]),([0],[0]),([],[]),([2],[2]),([],[]),([4],[4]),([],[]),([6],[6]),([],[]),([8],[8]),([],[]),([10],[10]),([11],[11]),([3,5,7,9,12],[3,5,7,9,12]),([13],[13]),([1,14,12],[1,14]),([0,1,2,3,4,5,6,7,8,9,10,11,12,13,14,15],[]),([16,15,15,0,1,2,3,4,5,6,7,8,9,10,11,12,13,14,15],[15,16])])
def groatref22_Turn.B6 : List Nat := [0,1,0,4,0,16,0,64,0,256,0,1024,3072,8188,16380,32767,65535,131071]
theorem groatref22_Turn.tab6 : rtab .any (opsOf Tryz.f63 6) = groatref22_Turn.T6 := by kernel_rfl
theorem groatref22_Turn.bits6 : waitsOk groatref22_Turn.T6.2 groatref22_Turn.B6 = true := by kernel_rfl
set_option maxHeartbeats 8000000 in
theorem groatref22_Turn.calls (k : Nat) (A0_0 : Option Addr) (c0_0 : Nat) (l0_0 : List (S66)) (A0_1 : Option Addr) (c0_1 : Nat) (l0_1 : List (S94)) (r1 : List (S66)) (r2 : List (S94)) (w : World) (hr0_0 : Kd.C k66 w A0_0 l0_0.length l0_0) (hc0_0 : l0_0.length ≤ c0_0) (hr0_1 : Kd.C k94 w A0_1 l0_1.length l0_1) (hc0_1 : l0_1.length ≤ c0_1) (h : groatref22_Turn.f k l0_0 l0_1 = some (r1,r2)) :
  Calls prog 63 #[.agg #[.slice A0_0 l0_0.length c0_0,.slice A0_1 l0_1.length c0_1]] w fun e w' => ∃ v0_ v1_ : Value,e = .returned (.agg #[v0_,v1_]) ∧ Kd.R k66 66 w' w.heap.size (fun _ => True) v0_ r1 ∧ Kd.S k94 94 w' w.heap.size (fun k_ => some k_ ≠ (v0_ : Value).ownBlock) v1_ r2 ∧ Below w.heap.size w w' := by
 have hu28 := underlying28
 have hu94 := underlying94
 have HR0_0 := aS hr0_0
 have HC0_0 := aS hc0_0
 clear hr0_0 hc0_0
 have HR0_1 := aS hr0_1
 have HC0_1 := aS hc0_1
 clear hr0_1 hc0_1
 have HB := aS (Below.refl w.heap.size w)
 have H : ((groatref19_Turn.f k l0_0).bind fun t852 => (groatref22_Turn.l0 k 0 l0_0 l0_1 t852 ([] : List (S94)))) = some (r1,r2) := h
 clear h
 replace H := Option.bind_eq_some_iff.mp H
 obtain ⟨t852,A20,H⟩ := H
 replace H : (groatref22_Turn.l0 k 0 l0_0 l0_1 t852 ([] : List (S94))) = some (r1,r2) := H
 have A2 := aS A20
 clear A20
 have H' := aS H
 clear H
 go_enter func63,ntmps63
 go_wp2_with (first | ((with_reducible refine gate_dst (N := 1) rfl ?_);refine box_event ?hg (N := 1) ?hd (cs := #[.slice A0_0 l0_0.length c0_0,.slice A0_1 l0_1.length c0_1]) (t := 28) ?hr ?_;(case hd => rfl);(case hg => rfl);(case hr => first | (go_simp;done) | (go_simp;rfl));intro gb850 hg w3 hbox hb;have n0_ := aS (b_s (by repeat (first | (with_reducible first | exact HB.out | apply b_l | apply pw_below_drewN | apply below_drew1) | exact HB.out)) hb);have n1_ := aS (hbox);have n2_ := aS ((by rw [hg];exact (below_size (by repeat (first | (with_reducible first | exact HB.out | apply b_l | apply pw_below_drewN | apply below_drew1) | exact HB.out))) : w.heap.size ≤ gb850));have n3_ := aS ((by rw [hg];exact (below_size (by repeat (first | (with_reducible first | exact HB.out | apply b_l | apply pw_below_drewN | apply below_drew1) | exact HB.out))) : w.heap.size ≤ gb850));clear HB;have HB := n0_;have BK850 := n1_;have GW850 := n2_;have GE850 := n3_;clear n0_ n1_ n2_ n3_;clear hb hbox hg) | ((with_reducible refine gate_dst (N := 2) rfl ?_);refine box_event ?hg (N := 2) ?hd (cs := #[.slice none 0 0,.slice none 0 0]) (t := 28) ?hr ?_;(case hd => rfl);(case hg => rfl);(case hr => first | (go_simp;done) | (go_simp;rfl));intro gb851 hg w4 hbox hb;have n0_ := aS (k_B (g := gb850) (o := .cells #[.slice A0_0 l0_0.length c0_0,.slice A0_1 l0_1.length c0_1] 28 (0,0)) (by (with_reducible repeat (first | refine blk_drewN ?_ _ | refine blk_drew ?_ | refine blk_alloc ?_ _));exact BK850.out) hb);have n1_ := aS (b_s (by repeat (first | (with_reducible first | exact HB.out | apply b_l | apply pw_below_drewN | apply below_drew1 | refine below_set ?_ GE850.out) | exact HB.out)) hb);have n2_ := aS (hbox);have n3_ := aS ((by rw [hg];exact (below_size (by repeat (first | (with_reducible first | exact HB.out | apply b_l | apply pw_below_drewN | apply below_drew1 | refine below_set ?_ GE850.out) | exact HB.out))) : w.heap.size ≤ gb851));have n4_ := aS ((by rw [hg];exact (below_size (by repeat (first | (with_reducible first | exact HB.out | apply b_l | apply pw_below_drewN | apply below_drew1 | refine below_set ?_ GE850.out) | exact HB.out))) : w.heap.size ≤ gb851));have n5_ := aS ((by rw [hg];exact Nat.ne_of_lt (blk_lt (g := gb850) (o := .cells #[.slice A0_0 l0_0.length c0_0,.slice A0_1 l0_1.length c0_1] 28 (0,0)) (by (with_reducible repeat (first | refine blk_drewN ?_ _ | refine blk_drew ?_ | refine blk_alloc ?_ _));exact BK850.out)) : gb850 ≠ gb851));have n6_ := aS ((by rw [hg];exact Nat.ne_of_gt (blk_lt (g := gb850) (o := .cells #[.slice A0_0 l0_0.length c0_0,.slice A0_1 l0_1.length c0_1] 28 (0,0)) (by (with_reducible repeat (first | refine blk_drewN ?_ _ | refine blk_drew ?_ | refine blk_alloc ?_ _));exact BK850.out)) : gb851 ≠ gb850));clear BK850;clear HB;have BK850 := n0_;have HB := n1_;have BK851 := n2_;have GW851 := n3_;have GE851 := n4_;have NB850_851 := n5_;have NB851_850 := n6_;clear n0_ n1_ n2_ n3_ n4_ n5_ n6_;clear hb hbox hg;have hnb5 := NB850_851.out;have hnc5 := NB851_850.out;have hcz6_0 : w4.cell? ⟨gb850,0,none⟩ = some (.slice A0_0 l0_0.length c0_0) := (blk_cell BK850.out 0).trans rfl;have hcz6_1 : w4.cell? ⟨gb850,1,none⟩ = some (.slice A0_1 l0_1.length c0_1) := (blk_cell BK850.out 1).trans rfl;have hfz6_0 := blk_frozen BK850.out 0;have hfz6_1 := blk_frozen BK850.out 1) | ((with_reducible refine gate_callee (f := 71) rfl ?_);refine goesL_ (some 8) rfl rfl func71 (by kernel_rfl) rfl #[.slice A0_0 l0_0.length c0_0] rfl (by (try simp only [List.map_toArray,List.map_cons,List.map_nil]);first | done | rfl | (simp only [List.length_drop,List.length_take];rfl)) ?_;(with_reducible refine (groatref19_Turn.calls k _ _ l0_0 t852 _ ?side1 ?side2 A2.out).mono ?_);(case side1 => repeat (first | exact (c_B HR0_0.out HB.out) | (with_reducible refine Kd.C_alloc ?_ _) | (with_reducible refine Kd.C_drewN ?_ _) | (with_reducible refine Kd.C_drew ?_)));(case side2 => exact HC0_0.out);rintro e w7 ⟨v853,rfl,ho0,hb⟩;refine ⟨_,rfl,?_⟩;have n0_ := aS (Kd.R_lower ho0 (below_size (by repeat (first | (with_reducible first | exact HB.out | apply b_l | apply pw_below_drewN | apply below_drew1 | refine below_set ?_ GE850.out | refine below_set ?_ GE851.out) | exact HB.out))));have n1_ := aS (k_B (g := gb850) (o := .cells #[.slice A0_0 l0_0.length c0_0,.slice A0_1 l0_1.length c0_1] 28 (0,0)) (by (with_reducible repeat (first | refine blk_drewN ?_ _ | refine blk_drew ?_ | refine blk_alloc ?_ _));exact BK850.out) hb);have n2_ := aS (k_B (g := gb851) (o := .cells #[.slice none 0 0,.slice none 0 0] 28 (0,0)) (by (with_reducible repeat (first | refine blk_drewN ?_ _ | refine blk_drew ?_ | refine blk_alloc ?_ _));exact BK851.out) hb);have n3_ := aS (b_s (by repeat (first | (with_reducible first | exact HB.out | apply b_l | apply pw_below_drewN | apply below_drew1 | refine below_set ?_ GE850.out | refine below_set ?_ GE851.out) | exact HB.out)) hb);clear BK850;clear BK851;clear HB;have HO854 := n0_;have BK850 := n1_;have BK851 := n2_;have HB := n3_;clear n0_ n1_ n2_ n3_;(try clear hb);(try clear hb2);(try clear hk);(try clear hi);(try clear ho0);obtain ⟨Ao8,co8,eo8⟩ := Kd.R_slice HO854.out;subst eo8) | ((with_reducible refine gate_dst (N := 3) rfl ?_);refine box_event ?hg (N := 3) ?hd (cs := #[.slice none 0 0,.slice none 0 0]) (t := 28) ?hr ?_;(case hd => rfl);(case hg => rfl);(case hr => first | (go_simp;done) | (go_simp;rfl));intro gb855 hg w9 hbox hb;have n0_ := aS (Kd.R_below (by (with_reducible repeat (first | apply Kd.R_alloc | apply Kd.R_drewN | apply Kd.R_drew));exact HO854.out) hb);have n1_ := aS (k_B (g := gb850) (o := .cells #[.slice A0_0 l0_0.length c0_0,.slice A0_1 l0_1.length c0_1] 28 (0,0)) (by (with_reducible repeat (first | refine blk_drewN ?_ _ | refine blk_drew ?_ | refine blk_alloc ?_ _));exact BK850.out) hb);have n2_ := aS (k_B (g := gb851) (o := .cells #[.slice none 0 0,.slice none 0 0] 28 (0,0)) (by (with_reducible repeat (first | refine blk_drewN ?_ _ | refine blk_drew ?_ | refine blk_alloc ?_ _));exact BK851.out) hb);have n3_ := aS (b_s (by repeat (first | (with_reducible first | exact HB.out | apply b_l | apply pw_below_drewN | apply below_drew1 | refine below_set ?_ GE850.out | refine below_set ?_ GE851.out) | exact HB.out)) hb);have n4_ := aS (hbox);have n5_ := aS ((by rw [hg];exact (below_size (by repeat (first | (with_reducible first | exact HB.out | apply b_l | apply pw_below_drewN | apply below_drew1 | refine below_set ?_ GE850.out | refine below_set ?_ GE851.out) | exact HB.out))) : w.heap.size ≤ gb855));have n6_ := aS ((by rw [hg];exact (below_size (by repeat (first | (with_reducible first | exact HB.out | apply b_l | apply pw_below_drewN | apply below_drew1 | refine below_set ?_ GE850.out | refine below_set ?_ GE851.out) | exact HB.out))) : w.heap.size ≤ gb855));have n7_ := aS ((by rw [hg];exact Nat.ne_of_lt (blk_lt (g := gb850) (o := .cells #[.slice A0_0 l0_0.length c0_0,.slice A0_1 l0_1.length c0_1] 28 (0,0)) (by (with_reducible repeat (first | refine blk_drewN ?_ _ | refine blk_drew ?_ | refine blk_alloc ?_ _));exact BK850.out)) : gb850 ≠ gb855));have n8_ := aS ((by rw [hg];exact Nat.ne_of_gt (blk_lt (g := gb850) (o := .cells #[.slice A0_0 l0_0.length c0_0,.slice A0_1 l0_1.length c0_1] 28 (0,0)) (by (with_reducible repeat (first | refine blk_drewN ?_ _ | refine blk_drew ?_ | refine blk_alloc ?_ _));exact BK850.out)) : gb855 ≠ gb850));have n9_ := aS ((by rw [hg];exact Nat.ne_of_lt (blk_lt (g := gb851) (o := .cells #[.slice none 0 0,.slice none 0 0] 28 (0,0)) (by (with_reducible repeat (first | refine blk_drewN ?_ _ | refine blk_drew ?_ | refine blk_alloc ?_ _));exact BK851.out)) : gb851 ≠ gb855));have n10_ := aS ((by rw [hg];exact Nat.ne_of_gt (blk_lt (g := gb851) (o := .cells #[.slice none 0 0,.slice none 0 0] 28 (0,0)) (by (with_reducible repeat (first | refine blk_drewN ?_ _ | refine blk_drew ?_ | refine blk_alloc ?_ _));exact BK851.out)) : gb855 ≠ gb851));clear HO854;clear BK850;clear BK851;clear HB;have HO854 := n0_;have BK850 := n1_;have BK851 := n2_;have HB := n3_;have BK855 := n4_;have GW855 := n5_;have GE855 := n6_;have NB850_855 := n7_;have NB855_850 := n8_;have NB851_855 := n9_;have NB855_851 := n10_;clear n0_ n1_ n2_ n3_ n4_ n5_ n6_ n7_ n8_ n9_ n10_;clear hb hbox hg;have hnb10 := NB855_850.out;have hnc10 := NB850_855.out;have hnb11 := NB855_851.out;have hnc11 := NB851_855.out;have hcz12_0 : w9.cell? ⟨gb855,0,none⟩ = some (.slice none 0 0) := (blk_cell BK855.out 0).trans rfl;have hcz12_1 : w9.cell? ⟨gb855,1,none⟩ = some (.slice none 0 0) := (blk_cell BK855.out 1).trans rfl;have hfz12_0 := blk_frozen BK855.out 0;have hfz12_1 := blk_frozen BK855.out 1))
 go_loopg [4] k (fun kq v4 w' => ∃ (x4_1 : Int) (x856001_1 : List (S94)) (u856001 : Value),v4 = .int .i64 x4_1 ∧ Aside0 (groatref22_Turn.l0 kq x4_1 l0_0 l0_1 t852 x856001_1 = some (r1,r2)) ∧ Aside0 (kq ≤ k) ∧ Aside0 (Kd.R k66 66 w' w.heap.size (fun _ => True) (.slice Ao8 t852.length co8) t852) ∧ Aside0 (Kd.S k94 94 w' w.heap.size (fun k_ => some k_ ≠ ((.slice Ao8 t852.length co8) : Value).ownBlock) u856001 x856001_1) ∧ Aside0 (w'.heap[gb850]? = some (.cells #[(.slice A0_0 l0_0.length c0_0),(.slice A0_1 l0_1.length c0_1)] 28 (0,0))) ∧ Aside0 (w'.heap[gb851]? = some (.cells #[(.slice none 0 0),(.slice none 0 0)] 28 (0,0))) ∧ Aside0 (w'.heap[gb855]? = some (.cells #[(.slice Ao8 t852.length co8),u856001] 28 (0,0))) ∧ Aside0 (Below w.heap.size w w'))
 case atStart => exact ⟨(0),(([] : List (S94))),(.slice none 0 0),(by first | rfl | (simp;done) | (simp [*];done)),H',⟨Nat.le_refl _⟩,⟨by (with_reducible repeat (first | apply Kd.R_alloc | apply Kd.R_drewN | apply Kd.R_drew));exact Kd.R_mono (Kd.R_far (p := ⟨gb855,1,none⟩) (Kd.R_far (p := ⟨gb855,0,none⟩) (Kd.R_types HO854.out BK855.out (by decide)) (fun _ hk => hk.2) (.slice Ao8 t852.length co8)) (fun _ hk => hk.2) (.slice none 0 0)) (fun _ hk => trivial)⟩,⟨by first | exact Kd.S_nil _ _ _ _ _ | exact Kd.N_nil _ _ _ _ _ | exact Kd.V_nil _ _ _ _ _ | exact Kd.Q_nil _ _ _ _ _ | exact Kd.R_nil _ _ _ _ _⟩,⟨by (with_reducible repeat (first | refine blk_drewN ?_ _ | refine blk_drew ?_ | refine blk_alloc ?_ _));refine blk_far ?_ NB850_855.out _;(with_reducible repeat (first | refine blk_drewN ?_ _ | refine blk_drew ?_ | refine blk_alloc ?_ _));refine blk_far ?_ NB850_855.out _;(with_reducible repeat (first | refine blk_drewN ?_ _ | refine blk_drew ?_ | refine blk_alloc ?_ _));exact BK850.out⟩,⟨by (with_reducible repeat (first | refine blk_drewN ?_ _ | refine blk_drew ?_ | refine blk_alloc ?_ _));refine blk_far ?_ NB851_855.out _;(with_reducible repeat (first | refine blk_drewN ?_ _ | refine blk_drew ?_ | refine blk_alloc ?_ _));refine blk_far ?_ NB851_855.out _;(with_reducible repeat (first | refine blk_drewN ?_ _ | refine blk_drew ?_ | refine blk_alloc ?_ _));exact BK851.out⟩,⟨by (with_reducible repeat (first | refine blk_drewN ?_ _ | refine blk_drew ?_ | refine blk_alloc ?_ _));refine blk_put (cs := #[.slice Ao8 t852.length co8,.slice none 0 0]) ?_ 1 _ rfl;(with_reducible repeat (first | refine blk_drewN ?_ _ | refine blk_drew ?_ | refine blk_alloc ?_ _));refine blk_put (cs := #[.slice none 0 0,.slice none 0 0]) ?_ 0 _ rfl;(with_reducible repeat (first | refine blk_drewN ?_ _ | refine blk_drew ?_ | refine blk_alloc ?_ _));exact BK855.out⟩,⟨by repeat (first | (with_reducible first | exact HB.out | apply b_l | apply pw_below_drewN | apply below_drew1 | refine below_set ?_ GE850.out | refine below_set ?_ GE851.out | refine below_set ?_ GE855.out) | exact HB.out)⟩⟩
 case round =>
  clear H'
  try clear c1
  try clear p2
  try clear c5
  try clear c6
  try clear c7
  try clear c10
  try clear c11
  try clear hcz12_0
  try clear hcz12_1
  try clear hcz6_0
  try clear hcz6_1
  try clear hfz12_0
  try clear hfz12_1
  try clear hfz6_0
  try clear hfz6_1
  obtain ⟨x4_1,x856001_1,u856001,rfl,HA,HK1,HO_856000,HO_856001,BK850,BK851,BK855,HB⟩ := hrel
  cases gk with
  | zero => exact absurd HA.out (by simp [groatref22_Turn.l0])
  | succ k1 =>
   have H := HA.out
   clear HA
   simp only [groatref22_Turn.l0] at H
   by_cases c13 : x4_1 < (l0_1.length : Int)
   ·rw [if_pos c13] at H
    have c13b0 : decide (x4_1 < (l0_1.length : Int)) = true := d_T c13
    clear c13
    by_cases c14 : 0 ≤ x4_1
    ·rw [if_pos c14] at H
     have c14b0 : decide (0 ≤ x4_1) = true := d_T c14
     clear c14
     replace H := Option.bind_eq_some_iff.mp H
     obtain ⟨t858,A150,H⟩ := H
     replace H : (if x856001_1.length < 2199023255552 then (groatref22_Turn.l0 k1 (wrap64 (x4_1 + 1)) l0_0 l0_1 t852 (x856001_1 ++ [(⟨(rd_T94 l0_1 x4_1).f0,(rd_T94 l0_1 x4_1).f2,(rd_T94 l0_1 x4_1).f1,(rd_T94 l0_1 x4_1).f3,t858⟩ : S94)])) else (none)) = some (r1,r2) := H
     have A15 := aS A150
     clear A150
     by_cases c16 : x856001_1.length < 2199023255552
     ·rw [if_pos c16] at H
      have LMc16 := aS c16
      clear c16
      obtain ⟨y861,hy861⟩ : ∃ y_ : List (S94),y_ = (x856001_1 ++ [(⟨(rd_T94 l0_1 x4_1).f0,(rd_T94 l0_1 x4_1).f2,(rd_T94 l0_1 x4_1).f1,(rd_T94 l0_1 x4_1).f3,t858⟩ : S94)]) := ⟨_,rfl⟩
      replace H : (groatref22_Turn.l0 k1 (wrap64 (x4_1 + 1)) l0_0 l0_1 t852 y861) = some (r1,r2) := by first | (rw [hy861];with_reducible exact H) | (have H2_ := (Option.bind_some _ _).symm.trans H;rw [hy861];with_reducible exact H2_) | (have H2_ := (Option.bind_some _ _).symm.trans H;with_reducible exact H2_) | with_reducible exact H | (rw [hy861];exact H) | exact H
      have Ny861 := aS hy861
      clear hy861
      have H' := aS H
      clear H
      have hnb17 := NB850_851.out
      have hnc17 := NB851_850.out
      have hnb18 := NB850_855.out
      have hnc18 := NB855_850.out
      have hcz19_0 : wr.cell? ⟨gb850,0,none⟩ = some (.slice A0_0 l0_0.length c0_0) := (blk_cell BK850.out 0).trans rfl
      have hcz19_1 : wr.cell? ⟨gb850,1,none⟩ = some (.slice A0_1 l0_1.length c0_1) := (blk_cell BK850.out 1).trans rfl
      have hfz19_0 := blk_frozen BK850.out 0
      have hfz19_1 := blk_frozen BK850.out 1
      have p856 : 0 ≤ (x4_1 : Int) := of_decide_eq_true (by first | (with_reducible assumption) | assumption)
      have q856 : x4_1 < (l0_1.length : Int) := of_decide_eq_true (by first | (with_reducible assumption) | assumption)
      obtain ⟨ad856,A856_4,c856_4,e856,hx856_0,hx856_1,hx856_2,hx856_3,hx856_4,hl856_4,hi856_4⟩ := at_T94 HR0_1.out x4_1 p856 q856
      cases e856
      replace hx856_0 := (HB.out.cell (World.block_lt_of_cell? w _ hx856_0)).trans hx856_0
      replace hx856_1 := (HB.out.cell (World.block_lt_of_cell? w _ hx856_1)).trans hx856_1
      replace hx856_2 := (HB.out.cell (World.block_lt_of_cell? w _ hx856_2)).trans hx856_2
      replace hx856_3 := (HB.out.cell (World.block_lt_of_cell? w _ hx856_3)).trans hx856_3
      replace hx856_4 := (HB.out.cell (World.block_lt_of_cell? w _ hx856_4)).trans hx856_4
      have HR856_4 := aS hi856_4
      have HC856_4 := aS hl856_4
      clear hi856_4 hl856_4
      replace p856 := eq_true p856
      replace q856 := eq_true q856
      try go_wp2_with (first | ((with_reducible refine gate_dst (N := 5) rfl ?_);refine box_event ?hg (N := 5) ?hd (cs := #[.int .i64 0,.int .i64 0,.int .i64 0,.string (⟨#[]⟩ : ByteArray),.slice none 0 0]) (t := 94) ?hr ?_;(case hd => rfl);(case hg => rfl);(case hr => first | (go_simp;done) | (go_simp;rfl));intro gb857 hg w20 hbox hb;have n0_ := aS (Kd.R_below (by (with_reducible repeat (first | apply Kd.R_alloc | apply Kd.R_drewN | apply Kd.R_drew));exact HO_856000.out) hb);have n1_ := aS (Kd.S_below (Kd.S_elderB (by (with_reducible repeat (first | apply Kd.S_alloc | apply Kd.S_drewN | apply Kd.S_drew));exact HO_856001.out) gb857 (Nat.le_of_eq hg.symm)) hb);have n2_ := aS (k_B (g := gb850) (o := .cells #[.slice A0_0 l0_0.length c0_0,.slice (some ad856) l0_1.length c0_1] 28 (0,0)) (by (with_reducible repeat (first | refine blk_drewN ?_ _ | refine blk_drew ?_ | refine blk_alloc ?_ _));exact BK850.out) hb);have n3_ := aS (k_B (g := gb851) (o := .cells #[.slice none 0 0,.slice none 0 0] 28 (0,0)) (by (with_reducible repeat (first | refine blk_drewN ?_ _ | refine blk_drew ?_ | refine blk_alloc ?_ _));exact BK851.out) hb);have n4_ := aS (k_B (g := gb855) (o := .cells #[.slice Ao8 t852.length co8,u856001] 28 (0,0)) (by (with_reducible repeat (first | refine blk_drewN ?_ _ | refine blk_drew ?_ | refine blk_alloc ?_ _));exact BK855.out) hb);have n5_ := aS (b_s (by repeat (first | (with_reducible first | exact HB.out | apply b_l | apply pw_below_drewN | apply below_drew1 | refine below_set ?_ GE850.out | refine below_set ?_ GE851.out | refine below_set ?_ GE855.out) | exact HB.out)) hb);have n6_ := aS (hbox);have n7_ := aS ((by rw [hg];exact (below_size (by repeat (first | (with_reducible first | exact HB.out | apply b_l | apply pw_below_drewN | apply below_drew1 | refine below_set ?_ GE850.out | refine below_set ?_ GE851.out | refine below_set ?_ GE855.out) | exact HB.out))) : w.heap.size ≤ gb857));have n8_ := aS ((by rw [hg];exact (below_size (by repeat (first | (with_reducible first | exact HB.out | apply b_l | apply pw_below_drewN | apply below_drew1 | refine below_set ?_ GE850.out | refine below_set ?_ GE851.out | refine below_set ?_ GE855.out) | exact HB.out))) : w.heap.size ≤ gb857));have n9_ := aS ((by rw [hg];exact Nat.ne_of_lt (blk_lt (g := gb850) (o := .cells #[.slice A0_0 l0_0.length c0_0,.slice (some ad856) l0_1.length c0_1] 28 (0,0)) (by (with_reducible repeat (first | refine blk_drewN ?_ _ | refine blk_drew ?_ | refine blk_alloc ?_ _));exact BK850.out)) : gb850 ≠ gb857));have n10_ := aS ((by rw [hg];exact Nat.ne_of_gt (blk_lt (g := gb850) (o := .cells #[.slice A0_0 l0_0.length c0_0,.slice (some ad856) l0_1.length c0_1] 28 (0,0)) (by (with_reducible repeat (first | refine blk_drewN ?_ _ | refine blk_drew ?_ | refine blk_alloc ?_ _));exact BK850.out)) : gb857 ≠ gb850));have n11_ := aS ((by rw [hg];exact Nat.ne_of_lt (blk_lt (g := gb851) (o := .cells #[.slice none 0 0,.slice none 0 0] 28 (0,0)) (by (with_reducible repeat (first | refine blk_drewN ?_ _ | refine blk_drew ?_ | refine blk_alloc ?_ _));exact BK851.out)) : gb851 ≠ gb857));have n12_ := aS ((by rw [hg];exact Nat.ne_of_gt (blk_lt (g := gb851) (o := .cells #[.slice none 0 0,.slice none 0 0] 28 (0,0)) (by (with_reducible repeat (first | refine blk_drewN ?_ _ | refine blk_drew ?_ | refine blk_alloc ?_ _));exact BK851.out)) : gb857 ≠ gb851));have n13_ := aS ((by rw [hg];exact Nat.ne_of_lt (blk_lt (g := gb855) (o := .cells #[.slice Ao8 t852.length co8,u856001] 28 (0,0)) (by (with_reducible repeat (first | refine blk_drewN ?_ _ | refine blk_drew ?_ | refine blk_alloc ?_ _));exact BK855.out)) : gb855 ≠ gb857));have n14_ := aS ((by rw [hg];exact Nat.ne_of_gt (blk_lt (g := gb855) (o := .cells #[.slice Ao8 t852.length co8,u856001] 28 (0,0)) (by (with_reducible repeat (first | refine blk_drewN ?_ _ | refine blk_drew ?_ | refine blk_alloc ?_ _));exact BK855.out)) : gb857 ≠ gb855));clear HO_856000;clear HO_856001;clear BK850;clear BK851;clear BK855;clear HB;have HO_856000 := n0_;have HO_856001 := n1_;have BK850 := n2_;have BK851 := n3_;have BK855 := n4_;have HB := n5_;have BK857 := n6_;have GW857 := n7_;have GE857 := n8_;have NB850_857 := n9_;have NB857_850 := n10_;have NB851_857 := n11_;have NB857_851 := n12_;have NB855_857 := n13_;have NB857_855 := n14_;clear n0_ n1_ n2_ n3_ n4_ n5_ n6_ n7_ n8_ n9_ n10_ n11_ n12_ n13_ n14_;clear hb hbox hg;have hnb21 := NB857_850.out;have hnc21 := NB850_857.out;have hnb22 := NB857_851.out;have hnc22 := NB851_857.out;have hnb23 := NB857_855.out;have hnc23 := NB855_857.out;have hcz24_0 : w20.cell? ⟨gb857,0,none⟩ = some (.int .i64 0) := (blk_cell BK857.out 0).trans rfl;have hcz24_1 : w20.cell? ⟨gb857,1,none⟩ = some (.int .i64 0) := (blk_cell BK857.out 1).trans rfl;have hcz24_2 : w20.cell? ⟨gb857,2,none⟩ = some (.int .i64 0) := (blk_cell BK857.out 2).trans rfl;have hcz24_3 : w20.cell? ⟨gb857,3,none⟩ = some (.string (⟨#[]⟩ : ByteArray)) := (blk_cell BK857.out 3).trans rfl;have hcz24_4 : w20.cell? ⟨gb857,4,none⟩ = some (.slice none 0 0) := (blk_cell BK857.out 4).trans rfl;have hfz24_0 := blk_frozen BK857.out 0;have hfz24_1 := blk_frozen BK857.out 1;have hfz24_2 := blk_frozen BK857.out 2;have hfz24_3 := blk_frozen BK857.out 3;have hfz24_4 := blk_frozen BK857.out 4))
      have n0_ : Aside0 (Kd.R k66 66 (((((w20.setCell ⟨gb857,0,none⟩ (.int .i64 ((rd_T94 l0_1 x4_1).f0))).setCell ⟨gb857,1,none⟩ (.int .i64 ((rd_T94 l0_1 x4_1).f1))).setCell ⟨gb857,2,none⟩ (.int .i64 ((rd_T94 l0_1 x4_1).f2))).setCell ⟨gb857,3,none⟩ (.string ((rd_T94 l0_1 x4_1).f3))).setCell ⟨gb857,4,none⟩ (.slice A856_4 ((rd_T94 l0_1 x4_1).f4).length c856_4)) w.heap.size (fun _ => True) (.slice Ao8 t852.length co8) t852) := ⟨by (with_reducible repeat (first | apply Kd.R_alloc | apply Kd.R_drewN | apply Kd.R_drew));exact Kd.R_mono (Kd.R_far (p := ⟨gb857,4,none⟩) (Kd.R_far (p := ⟨gb857,3,none⟩) (Kd.R_far (p := ⟨gb857,2,none⟩) (Kd.R_far (p := ⟨gb857,1,none⟩) (Kd.R_far (p := ⟨gb857,0,none⟩) (Kd.R_types HO_856000.out BK857.out (by decide)) (fun _ hk => hk.2) (.int .i64 ((rd_T94 l0_1 x4_1).f0))) (fun _ hk => hk.2) (.int .i64 ((rd_T94 l0_1 x4_1).f1))) (fun _ hk => hk.2) (.int .i64 ((rd_T94 l0_1 x4_1).f2))) (fun _ hk => hk.2) (.string ((rd_T94 l0_1 x4_1).f3))) (fun _ hk => hk.2) (.slice A856_4 ((rd_T94 l0_1 x4_1).f4).length c856_4)) (fun _ hk => trivial)⟩
      have n1_ : Aside0 (Kd.S k94 94 (((((w20.setCell ⟨gb857,0,none⟩ (.int .i64 ((rd_T94 l0_1 x4_1).f0))).setCell ⟨gb857,1,none⟩ (.int .i64 ((rd_T94 l0_1 x4_1).f1))).setCell ⟨gb857,2,none⟩ (.int .i64 ((rd_T94 l0_1 x4_1).f2))).setCell ⟨gb857,3,none⟩ (.string ((rd_T94 l0_1 x4_1).f3))).setCell ⟨gb857,4,none⟩ (.slice A856_4 ((rd_T94 l0_1 x4_1).f4).length c856_4)) w.heap.size (fun k_ => some k_ ≠ (.slice Ao8 t852.length co8 : Value).ownBlock ∧ k_ ≠ gb857) u856001 x856001_1) := ⟨by (with_reducible repeat (first | apply Kd.S_alloc | apply Kd.S_drewN | apply Kd.S_drew));exact Kd.S_mono (Kd.S_far (p := ⟨gb857,4,none⟩) (Kd.S_far (p := ⟨gb857,3,none⟩) (Kd.S_far (p := ⟨gb857,2,none⟩) (Kd.S_far (p := ⟨gb857,1,none⟩) (Kd.S_far (p := ⟨gb857,0,none⟩) (Kd.S_mono HO_856001.out (fun k_ hk => (⟨hk,hk.2⟩ : _ ∧ k_ ≠ gb857))) (fun _ hk => hk.2) (.int .i64 ((rd_T94 l0_1 x4_1).f0))) (fun _ hk => hk.2) (.int .i64 ((rd_T94 l0_1 x4_1).f1))) (fun _ hk => hk.2) (.int .i64 ((rd_T94 l0_1 x4_1).f2))) (fun _ hk => hk.2) (.string ((rd_T94 l0_1 x4_1).f3))) (fun _ hk => hk.2) (.slice A856_4 ((rd_T94 l0_1 x4_1).f4).length c856_4)) (fun _ hk => ⟨hk.1.1,hk.1.2⟩)⟩
      have n2_ : Aside0 ((((((w20.setCell ⟨gb857,0,none⟩ (.int .i64 ((rd_T94 l0_1 x4_1).f0))).setCell ⟨gb857,1,none⟩ (.int .i64 ((rd_T94 l0_1 x4_1).f1))).setCell ⟨gb857,2,none⟩ (.int .i64 ((rd_T94 l0_1 x4_1).f2))).setCell ⟨gb857,3,none⟩ (.string ((rd_T94 l0_1 x4_1).f3))).setCell ⟨gb857,4,none⟩ (.slice A856_4 ((rd_T94 l0_1 x4_1).f4).length c856_4)).heap[gb850]? = some (.cells #[.slice A0_0 l0_0.length c0_0,.slice (some ad856) l0_1.length c0_1] 28 (0,0))) := ⟨by (with_reducible repeat (first | refine blk_drewN ?_ _ | refine blk_drew ?_ | refine blk_alloc ?_ _));refine blk_far ?_ NB850_857.out _;(with_reducible repeat (first | refine blk_drewN ?_ _ | refine blk_drew ?_ | refine blk_alloc ?_ _));refine blk_far ?_ NB850_857.out _;(with_reducible repeat (first | refine blk_drewN ?_ _ | refine blk_drew ?_ | refine blk_alloc ?_ _));refine blk_far ?_ NB850_857.out _;(with_reducible repeat (first | refine blk_drewN ?_ _ | refine blk_drew ?_ | refine blk_alloc ?_ _));refine blk_far ?_ NB850_857.out _;(with_reducible repeat (first | refine blk_drewN ?_ _ | refine blk_drew ?_ | refine blk_alloc ?_ _));refine blk_far ?_ NB850_857.out _;(with_reducible repeat (first | refine blk_drewN ?_ _ | refine blk_drew ?_ | refine blk_alloc ?_ _));exact BK850.out⟩
      have n3_ : Aside0 ((((((w20.setCell ⟨gb857,0,none⟩ (.int .i64 ((rd_T94 l0_1 x4_1).f0))).setCell ⟨gb857,1,none⟩ (.int .i64 ((rd_T94 l0_1 x4_1).f1))).setCell ⟨gb857,2,none⟩ (.int .i64 ((rd_T94 l0_1 x4_1).f2))).setCell ⟨gb857,3,none⟩ (.string ((rd_T94 l0_1 x4_1).f3))).setCell ⟨gb857,4,none⟩ (.slice A856_4 ((rd_T94 l0_1 x4_1).f4).length c856_4)).heap[gb851]? = some (.cells #[.slice none 0 0,.slice none 0 0] 28 (0,0))) := ⟨by (with_reducible repeat (first | refine blk_drewN ?_ _ | refine blk_drew ?_ | refine blk_alloc ?_ _));refine blk_far ?_ NB851_857.out _;(with_reducible repeat (first | refine blk_drewN ?_ _ | refine blk_drew ?_ | refine blk_alloc ?_ _));refine blk_far ?_ NB851_857.out _;(with_reducible repeat (first | refine blk_drewN ?_ _ | refine blk_drew ?_ | refine blk_alloc ?_ _));refine blk_far ?_ NB851_857.out _;(with_reducible repeat (first | refine blk_drewN ?_ _ | refine blk_drew ?_ | refine blk_alloc ?_ _));refine blk_far ?_ NB851_857.out _;(with_reducible repeat (first | refine blk_drewN ?_ _ | refine blk_drew ?_ | refine blk_alloc ?_ _));refine blk_far ?_ NB851_857.out _;(with_reducible repeat (first | refine blk_drewN ?_ _ | refine blk_drew ?_ | refine blk_alloc ?_ _));exact BK851.out⟩
      have n4_ : Aside0 ((((((w20.setCell ⟨gb857,0,none⟩ (.int .i64 ((rd_T94 l0_1 x4_1).f0))).setCell ⟨gb857,1,none⟩ (.int .i64 ((rd_T94 l0_1 x4_1).f1))).setCell ⟨gb857,2,none⟩ (.int .i64 ((rd_T94 l0_1 x4_1).f2))).setCell ⟨gb857,3,none⟩ (.string ((rd_T94 l0_1 x4_1).f3))).setCell ⟨gb857,4,none⟩ (.slice A856_4 ((rd_T94 l0_1 x4_1).f4).length c856_4)).heap[gb855]? = some (.cells #[.slice Ao8 t852.length co8,u856001] 28 (0,0))) := ⟨by (with_reducible repeat (first | refine blk_drewN ?_ _ | refine blk_drew ?_ | refine blk_alloc ?_ _));refine blk_far ?_ NB855_857.out _;(with_reducible repeat (first | refine blk_drewN ?_ _ | refine blk_drew ?_ | refine blk_alloc ?_ _));refine blk_far ?_ NB855_857.out _;(with_reducible repeat (first | refine blk_drewN ?_ _ | refine blk_drew ?_ | refine blk_alloc ?_ _));refine blk_far ?_ NB855_857.out _;(with_reducible repeat (first | refine blk_drewN ?_ _ | refine blk_drew ?_ | refine blk_alloc ?_ _));refine blk_far ?_ NB855_857.out _;(with_reducible repeat (first | refine blk_drewN ?_ _ | refine blk_drew ?_ | refine blk_alloc ?_ _));refine blk_far ?_ NB855_857.out _;(with_reducible repeat (first | refine blk_drewN ?_ _ | refine blk_drew ?_ | refine blk_alloc ?_ _));exact BK855.out⟩
      have n5_ : Aside0 ((((((w20.setCell ⟨gb857,0,none⟩ (.int .i64 ((rd_T94 l0_1 x4_1).f0))).setCell ⟨gb857,1,none⟩ (.int .i64 ((rd_T94 l0_1 x4_1).f1))).setCell ⟨gb857,2,none⟩ (.int .i64 ((rd_T94 l0_1 x4_1).f2))).setCell ⟨gb857,3,none⟩ (.string ((rd_T94 l0_1 x4_1).f3))).setCell ⟨gb857,4,none⟩ (.slice A856_4 ((rd_T94 l0_1 x4_1).f4).length c856_4)).heap[gb857]? = some (.cells #[.int .i64 ((rd_T94 l0_1 x4_1).f0),.int .i64 ((rd_T94 l0_1 x4_1).f1),.int .i64 ((rd_T94 l0_1 x4_1).f2),.string ((rd_T94 l0_1 x4_1).f3),.slice A856_4 ((rd_T94 l0_1 x4_1).f4).length c856_4] 94 (0,0))) := ⟨by (with_reducible repeat (first | refine blk_drewN ?_ _ | refine blk_drew ?_ | refine blk_alloc ?_ _));refine blk_put (cs := #[.int .i64 ((rd_T94 l0_1 x4_1).f0),.int .i64 ((rd_T94 l0_1 x4_1).f1),.int .i64 ((rd_T94 l0_1 x4_1).f2),.string ((rd_T94 l0_1 x4_1).f3),.slice none 0 0]) ?_ 4 _ rfl;(with_reducible repeat (first | refine blk_drewN ?_ _ | refine blk_drew ?_ | refine blk_alloc ?_ _));refine blk_put (cs := #[.int .i64 ((rd_T94 l0_1 x4_1).f0),.int .i64 ((rd_T94 l0_1 x4_1).f1),.int .i64 ((rd_T94 l0_1 x4_1).f2),.string (⟨#[]⟩ : ByteArray),.slice none 0 0]) ?_ 3 _ rfl;(with_reducible repeat (first | refine blk_drewN ?_ _ | refine blk_drew ?_ | refine blk_alloc ?_ _));refine blk_put (cs := #[.int .i64 ((rd_T94 l0_1 x4_1).f0),.int .i64 ((rd_T94 l0_1 x4_1).f1),.int .i64 0,.string (⟨#[]⟩ : ByteArray),.slice none 0 0]) ?_ 2 _ rfl;(with_reducible repeat (first | refine blk_drewN ?_ _ | refine blk_drew ?_ | refine blk_alloc ?_ _));refine blk_put (cs := #[.int .i64 ((rd_T94 l0_1 x4_1).f0),.int .i64 0,.int .i64 0,.string (⟨#[]⟩ : ByteArray),.slice none 0 0]) ?_ 1 _ rfl;(with_reducible repeat (first | refine blk_drewN ?_ _ | refine blk_drew ?_ | refine blk_alloc ?_ _));refine blk_put (cs := #[.int .i64 0,.int .i64 0,.int .i64 0,.string (⟨#[]⟩ : ByteArray),.slice none 0 0]) ?_ 0 _ rfl;(with_reducible repeat (first | refine blk_drewN ?_ _ | refine blk_drew ?_ | refine blk_alloc ?_ _));exact BK857.out⟩
      have n6_ : Aside0 (Below w.heap.size w (((((w20.setCell ⟨gb857,0,none⟩ (.int .i64 ((rd_T94 l0_1 x4_1).f0))).setCell ⟨gb857,1,none⟩ (.int .i64 ((rd_T94 l0_1 x4_1).f1))).setCell ⟨gb857,2,none⟩ (.int .i64 ((rd_T94 l0_1 x4_1).f2))).setCell ⟨gb857,3,none⟩ (.string ((rd_T94 l0_1 x4_1).f3))).setCell ⟨gb857,4,none⟩ (.slice A856_4 ((rd_T94 l0_1 x4_1).f4).length c856_4))) := ⟨by repeat (first | (with_reducible first | exact HB.out | apply b_l | apply pw_below_drewN | apply below_drew1 | refine below_set ?_ GE850.out | refine below_set ?_ GE851.out | refine below_set ?_ GE855.out | refine below_set ?_ GE857.out) | exact HB.out)⟩
      (try clear HO_856000)
      (try clear HO_856001)
      (try clear BK850)
      (try clear BK851)
      (try clear BK855)
      (try clear BK857)
      (try clear HB)
      generalize (((((w20.setCell ⟨gb857,0,none⟩ (.int .i64 ((rd_T94 l0_1 x4_1).f0))).setCell ⟨gb857,1,none⟩ (.int .i64 ((rd_T94 l0_1 x4_1).f1))).setCell ⟨gb857,2,none⟩ (.int .i64 ((rd_T94 l0_1 x4_1).f2))).setCell ⟨gb857,3,none⟩ (.string ((rd_T94 l0_1 x4_1).f3))).setCell ⟨gb857,4,none⟩ (.slice A856_4 ((rd_T94 l0_1 x4_1).f4).length c856_4)) = w25 at n0_ n1_ n2_ n3_ n4_ n5_ n6_ ⊢
      have HO_856000 := n0_
      have HO_856001 := n1_
      have BK850 := n2_
      have BK851 := n3_
      have BK855 := n4_
      have BK857 := n5_
      have HB := n6_
      clear n0_ n1_ n2_ n3_ n4_ n5_ n6_
      have n0_ := aS (Kd.R_drew HO_856000.out)
      have n1_ := aS (Kd.S_drew HO_856001.out)
      have n2_ := aS (blk_drew BK850.out)
      have n3_ := aS (blk_drew BK851.out)
      have n4_ := aS (blk_drew BK855.out)
      have n5_ := aS (blk_drew BK857.out)
      have n6_ := aS (below_drew1 HB.out)
      clear HO_856000
      clear HO_856001
      clear BK850
      clear BK851
      clear BK855
      clear BK857
      clear HB
      have HO_856000 := n0_
      have HO_856001 := n1_
      have BK850 := n2_
      have BK851 := n3_
      have BK855 := n4_
      have BK857 := n5_
      have HB := n6_
      clear n0_ n1_ n2_ n3_ n4_ n5_ n6_
      refine start_ (n := 18) (S := fun w' => w'.cell? ⟨gb855,0,none⟩ = some (.slice Ao8 t852.length co8) ∧ w'.cell? ⟨gb855,1,none⟩ = some (u856001) ∧ w'.cell? ⟨gb857,0,none⟩ = some (.int .i64 ((rd_T94 l0_1 x4_1).f0)) ∧ w'.cell? ⟨gb857,1,none⟩ = some (.int .i64 ((rd_T94 l0_1 x4_1).f1)) ∧ w'.cell? ⟨gb857,2,none⟩ = some (.int .i64 ((rd_T94 l0_1 x4_1).f2)) ∧ w'.cell? ⟨gb857,3,none⟩ = some (.string ((rd_T94 l0_1 x4_1).f3)) ∧ w'.cell? ⟨gb857,4,none⟩ = some (.slice A856_4 ((rd_T94 l0_1 x4_1).f4).length c856_4)) (ds := [17]) #[false,false,false,false,false,false,false,false,false,false,false,false,false,false,false,false,false,false] (by kernel_rfl) rfl rfl ⟨(blk_cell BK855.out 0).trans rfl,(blk_cell BK855.out 1).trans rfl,(blk_cell BK857.out 0).trans rfl,(blk_cell BK857.out 1).trans rfl,(blk_cell BK857.out 2).trans rfl,(blk_cell BK857.out 3).trans rfl,(blk_cell BK857.out 4).trans rfl⟩ (fun hHeld => ?_);refine with_tabW groatref22_Turn.tab6 groatref22_Turn.bits6 (fun HT_ HW_ => ?_)
      generalize w25.drew = w26 at HO_856000 HO_856001 BK850 BK851 BK855 BK857 HB hHeld ⊢
      refine pure_ (i := 0) (N := some 22) (v := ?_) (a' := ?_) #[true,false,false,false,false,false,false,false,false,false,false,false,false,false,false,false,false,false] rfl rfl (any_of HT_.out (by kernel_rfl)) (fun _ _ _ h => h) (Or.inl ⟨by rfl,?_⟩) ?_ ?_
      rotate_left
      ·intro w'
       go_simp
       with_reducible rfl
      rotate_left
      ·simp only [Act.put,sA,sB,sC,i64_w,i32_w]
       rfl
      refine pure_ (i := 2) (N := some 24) (v := ?_) (a' := ?_) #[true,false,true,false,false,false,false,false,false,false,false,false,false,false,false,false,false,false] rfl rfl (any_of HT_.out (by kernel_rfl)) (fun _ _ _ h => h) (Or.inl ⟨by rfl,?_⟩) ?_ ?_
      rotate_left
      ·intro w'
       go_simp
       with_reducible rfl
      rotate_left
      ·simp only [Act.put,sA,sB,sC,i64_w,i32_w]
       rfl
      refine pure_ (i := 4) (N := some 26) (v := ?_) (a' := ?_) #[true,false,true,false,true,false,false,false,false,false,false,false,false,false,false,false,false,false] rfl rfl (any_of HT_.out (by kernel_rfl)) (fun _ _ _ h => h) (Or.inl ⟨by rfl,?_⟩) ?_ ?_
      rotate_left
      ·intro w'
       go_simp
       with_reducible rfl
      rotate_left
      ·simp only [Act.put,sA,sB,sC,i64_w,i32_w]
       rfl
      refine pure_ (i := 6) (N := some 28) (v := ?_) (a' := ?_) #[true,false,true,false,true,false,true,false,false,false,false,false,false,false,false,false,false,false] rfl rfl (any_of HT_.out (by kernel_rfl)) (fun _ _ _ h => h) (Or.inl ⟨by rfl,?_⟩) ?_ ?_
      rotate_left
      ·intro w'
       go_simp
       with_reducible rfl
      rotate_left
      ·simp only [Act.put,sA,sB,sC,i64_w,i32_w]
       rfl
      refine pure_ (i := 8) (N := some 30) (v := ?_) (a' := ?_) #[true,false,true,false,true,false,true,false,true,false,false,false,false,false,false,false,false,false] rfl rfl (any_of HT_.out (by kernel_rfl)) (fun _ _ _ h => h) (Or.inl ⟨by rfl,?_⟩) ?_ ?_
      rotate_left
      ·intro w'
       go_simp
       with_reducible rfl
      rotate_left
      ·simp only [Act.put,sA,sB,sC,i64_w,i32_w]
       rfl
      refine pure_ (i := 10) (N := some 32) (v := ?_) (a' := ?_) #[true,false,true,false,true,false,true,false,true,false,true,false,false,false,false,false,false,false] rfl rfl (any_of HT_.out (by kernel_rfl)) (fun _ _ _ h => h) (Or.inl ⟨by rfl,?_⟩) ?_ ?_
      rotate_left
      ·intro w'
       go_simp
       with_reducible rfl
      rotate_left
      ·simp only [Act.put,sA,sB,sC,i64_w,i32_w]
       rfl
      refine take_ (i := 1) (N := some 23) (v := ?_) (a' := ?_) #[true,true,true,false,true,false,true,false,true,false,true,false,false,false,false,false,false,false] rfl rfl (take_ofW HT_.out HW_.out (by kernel_rfl)) (fun _ _ _ h => h) (Or.inl ⟨by rfl,?_⟩) hHeld ?_ ?_
      rotate_left
      ·rintro w' ⟨s0,s1,s2,s3,s4,s5,s6⟩
       go_simp
       with_reducible rfl
      rotate_left
      ·simp only [Act.put,sA,sB,sC,i64_w,i32_w]
       rfl
      refine take_ (i := 3) (N := some 25) (v := ?_) (a' := ?_) #[true,true,true,true,true,false,true,false,true,false,true,false,false,false,false,false,false,false] rfl rfl (take_ofW HT_.out HW_.out (by kernel_rfl)) (fun _ _ _ h => h) (Or.inl ⟨by rfl,?_⟩) hHeld ?_ ?_
      rotate_left
      ·rintro w' ⟨s0,s1,s2,s3,s4,s5,s6⟩
       go_simp
       with_reducible rfl
      rotate_left
      ·simp only [Act.put,sA,sB,sC,i64_w,i32_w]
       rfl
      refine take_ (i := 5) (N := some 27) (v := ?_) (a' := ?_) #[true,true,true,true,true,true,true,false,true,false,true,false,false,false,false,false,false,false] rfl rfl (take_ofW HT_.out HW_.out (by kernel_rfl)) (fun _ _ _ h => h) (Or.inl ⟨by rfl,?_⟩) hHeld ?_ ?_
      rotate_left
      ·rintro w' ⟨s0,s1,s2,s3,s4,s5,s6⟩
       go_simp
       with_reducible rfl
      rotate_left
      ·simp only [Act.put,sA,sB,sC,i64_w,i32_w]
       rfl
      refine take_ (i := 7) (N := some 29) (v := ?_) (a' := ?_) #[true,true,true,true,true,true,true,true,true,false,true,false,false,false,false,false,false,false] rfl rfl (take_ofW HT_.out HW_.out (by kernel_rfl)) (fun _ _ _ h => h) (Or.inl ⟨by rfl,?_⟩) hHeld ?_ ?_
      rotate_left
      ·rintro w' ⟨s0,s1,s2,s3,s4,s5,s6⟩
       go_simp
       with_reducible rfl
      rotate_left
      ·simp only [Act.put,sA,sB,sC,i64_w,i32_w]
       rfl
      refine take_ (i := 9) (N := some 31) (v := ?_) (a' := ?_) #[true,true,true,true,true,true,true,true,true,true,true,false,false,false,false,false,false,false] rfl rfl (take_ofW HT_.out HW_.out (by kernel_rfl)) (fun _ _ _ h => h) (Or.inl ⟨by rfl,?_⟩) hHeld ?_ ?_
      rotate_left
      ·rintro w' ⟨s0,s1,s2,s3,s4,s5,s6⟩
       go_simp
       with_reducible rfl
      rotate_left
      ·simp only [Act.put,sA,sB,sC,i64_w,i32_w]
       rfl
      refine take_ (i := 11) (N := some 33) (v := ?_) (a' := ?_) #[true,true,true,true,true,true,true,true,true,true,true,true,false,false,false,false,false,false] rfl rfl (take_ofW HT_.out HW_.out (by kernel_rfl)) (fun _ _ _ h => h) (Or.inl ⟨by rfl,?_⟩) hHeld ?_ ?_
      rotate_left
      ·rintro w' ⟨s0,s1,s2,s3,s4,s5,s6⟩
       go_simp
       with_reducible rfl
      rotate_left
      ·simp only [Act.put,sA,sB,sC,i64_w,i32_w]
       rfl
      refine one_ (i := 12) (N := some 34) #[true,true,true,true,true,true,true,true,true,true,true,true,true,false,false,false,false,false] rfl rfl (one_of HT_.out (by kernel_rfl)) (by decide) (fun K hK => ?_)
      refine goes_ func71 (by kernel_rfl) rfl #[.slice A856_4 ((rd_T94 l0_1 x4_1).f4).length c856_4] (by rfl) rfl rfl (by (try simp only [List.map_toArray,List.map_cons,List.map_nil]);first | done | rfl | (simp only [List.length_drop,List.length_take];rfl)) ?_
      with_reducible refine (groatref19_Turn.calls k1 _ _ ((rd_T94 l0_1 x4_1).f4) t858 _ ?side1 ?side2 A15.out).mono ?_
      (case side1 => repeat (first | exact (c_B HR856_4.out HB.out) | (with_reducible refine Kd.C_alloc ?_ _) | (with_reducible refine Kd.C_drewN ?_ _) | (with_reducible refine Kd.C_drew ?_)))
      (case side2 => exact HC856_4.out)
      rintro e w27 ⟨v859,rfl,ho0,hb⟩
      refine ⟨_,rfl,?_⟩
      have n0_ := aS (Kd.R_elder' (by (with_reducible repeat (first | apply Kd.R_alloc | apply Kd.R_drewN | apply Kd.R_drew));exact HO_856000.out) (Kd.R_base ho0) hb)
      have n1_ := aS (Kd.S_elder' (by (with_reducible repeat (first | apply Kd.S_alloc | apply Kd.S_drewN | apply Kd.S_drew));exact HO_856001.out) (Kd.R_base ho0) hb)
      have n2_ := aS (Kd.R_lower (Kd.R_new' ho0 (Kd.R_lt (by (with_reducible repeat (first | apply Kd.R_alloc | apply Kd.R_drewN | apply Kd.R_drew));exact HO_856000.out))) (below_size (by repeat (first | (with_reducible first | exact HB.out | apply b_l | apply pw_below_drewN | apply below_drew1 | refine below_set ?_ GE850.out | refine below_set ?_ GE851.out | refine below_set ?_ GE855.out | refine below_set ?_ GE857.out) | exact HB.out))))
      have n3_ := aS (k_B (g := gb850) (o := .cells #[.slice A0_0 l0_0.length c0_0,.slice (some ad856) l0_1.length c0_1] 28 (0,0)) (by (with_reducible repeat (first | refine blk_drewN ?_ _ | refine blk_drew ?_ | refine blk_alloc ?_ _));exact BK850.out) hb)
      have n4_ := aS (k_B (g := gb851) (o := .cells #[.slice none 0 0,.slice none 0 0] 28 (0,0)) (by (with_reducible repeat (first | refine blk_drewN ?_ _ | refine blk_drew ?_ | refine blk_alloc ?_ _));exact BK851.out) hb)
      have n5_ := aS (k_B (g := gb855) (o := .cells #[.slice Ao8 t852.length co8,u856001] 28 (0,0)) (by (with_reducible repeat (first | refine blk_drewN ?_ _ | refine blk_drew ?_ | refine blk_alloc ?_ _));exact BK855.out) hb)
      have n6_ := aS (k_B (g := gb857) (o := .cells #[.int .i64 ((rd_T94 l0_1 x4_1).f0),.int .i64 ((rd_T94 l0_1 x4_1).f1),.int .i64 ((rd_T94 l0_1 x4_1).f2),.string ((rd_T94 l0_1 x4_1).f3),.slice A856_4 ((rd_T94 l0_1 x4_1).f4).length c856_4] 94 (0,0)) (by (with_reducible repeat (first | refine blk_drewN ?_ _ | refine blk_drew ?_ | refine blk_alloc ?_ _));exact BK857.out) hb)
      have n7_ := aS (b_s (by repeat (first | (with_reducible first | exact HB.out | apply b_l | apply pw_below_drewN | apply below_drew1 | refine below_set ?_ GE850.out | refine below_set ?_ GE851.out | refine below_set ?_ GE855.out | refine below_set ?_ GE857.out) | exact HB.out)) hb)
      clear HO_856000
      clear HO_856001
      clear BK850
      clear BK851
      clear BK855
      clear BK857
      clear HB
      have HO_856000 := n0_
      have HO_856001 := n1_
      have HO860 := n2_
      have BK850 := n3_
      have BK851 := n4_
      have BK855 := n5_
      have BK857 := n6_
      have HB := n7_
      clear n0_ n1_ n2_ n3_ n4_ n5_ n6_ n7_
      (try clear hb)
      (try clear hb2)
      (try clear hk)
      (try clear hi)
      (try clear ho0)
      obtain ⟨Ao28,co28,eo28⟩ := Kd.R_slice HO860.out
      (first | subst eo28 | (injection eo28 with f1_ f2_ f3_;have f4_ := f1_.symm;have f5_ := f3_.symm;clear f1_ f2_ f3_;subst f4_;subst f5_))
      refine hK.out _ _ ⟨(blk_cell BK855.out 0).trans rfl,(blk_cell BK855.out 1).trans rfl,(blk_cell BK857.out 0).trans rfl,(blk_cell BK857.out 1).trans rfl,(blk_cell BK857.out 2).trans rfl,(blk_cell BK857.out 3).trans rfl,(blk_cell BK857.out 4).trans rfl⟩ (fun hHeld => ?_)
      clear hK K
      refine norm_ (a' := ?_) ?_ ?_
      rotate_left
      ·show Act.put _ (some 34) _ = _
       simp only [Act.put,sA,sB,sC,i64_w,i32_w]
       rfl
      refine pure_ (i := 13) (N := some 35) (v := ?_) (a' := ?_) #[true,true,true,true,true,true,true,true,true,true,true,true,true,true,false,false,false,false] rfl rfl (any_of HT_.out (by kernel_rfl)) (fun _ _ _ h => h) (Or.inl ⟨by rfl,?_⟩) ?_ ?_
      rotate_left
      ·intro w'
       go_simp
       with_reducible rfl
      rotate_left
      ·simp only [Act.put,sA,sB,sC,i64_w,i32_w]
       rfl
      refine one_ (i := 14) (N := some 36) #[true,true,true,true,true,true,true,true,true,true,true,true,true,true,true,false,false,false] rfl rfl (one_of HT_.out (by kernel_rfl)) (by decide) (fun K hK => ?_)
      refine value_ (w1 := ?_) (v := ?_) (by rfl) rfl ?_ ?_
      rotate_left 2
      ·go_simp
       constructor
       ·rfl
       ·rfl
      refine hK.out _ _ ⟨(blk_cell (blk_alloc BK855.out _) 0).trans rfl,(blk_cell (blk_alloc BK855.out _) 1).trans rfl,(blk_cell (blk_alloc BK857.out _) 0).trans rfl,(blk_cell (blk_alloc BK857.out _) 1).trans rfl,(blk_cell (blk_alloc BK857.out _) 2).trans rfl,(blk_cell (blk_alloc BK857.out _) 3).trans rfl,(blk_cell (blk_alloc BK857.out _) 4).trans rfl⟩ (fun hHeld => ?_)
      clear hK K
      refine norm_ (a' := ?_) ?_ ?_
      rotate_left
      ·show Act.put _ (some 36) _ = _
       simp only [Act.put,sA,sB,sC,i64_w,i32_w]
       rfl
      refine one_ (i := 15) (N := some 37) #[true,true,true,true,true,true,true,true,true,true,true,true,true,true,true,true,false,false] rfl rfl (one_of HT_.out (by kernel_rfl)) (by decide) (fun K hK => ?_)
      refine Kd.S_append_step k94 (w0 := w) w.heap.size (by rfl) (.tmp 23) (.tmp 36) 26 94 (.agg #[(.int .i64 0),(.int .i64 0),(.int .i64 0),(.string ⟨#[]⟩),(.slice none 0 0)]) 64 rfl underlying26 info94 rfl (by decide) (by omega) u856001 x856001_1 (⟨(rd_T94 l0_1 x4_1).f0,(rd_T94 l0_1 x4_1).f2,(rd_T94 l0_1 x4_1).f1,(rd_T94 l0_1 x4_1).f3,t858⟩ : S94) [.int .i64 ((rd_T94 l0_1 x4_1).f0),.int .i64 ((rd_T94 l0_1 x4_1).f2),.int .i64 ((rd_T94 l0_1 x4_1).f1),.string ((rd_T94 l0_1 x4_1).f3),.slice Ao28 t858.length co28] (fun k_ => some k_ ≠ (.slice Ao8 t852.length co8 : Value).ownBlock ∧ k_ ≠ gb857) (fun k_ => some k_ = (.slice Ao28 t858.length co28 : Value).ownBlock) rfl rfl ?aP (fun k_ hk_ => ((Kd.R_mono (ok' := fun k_ => ((fun k_ => some k_ ≠ (.slice Ao8 t852.length co8 : Value).ownBlock ∧ k_ ≠ gb857)) k_ ∧ some k_ ≠ (u856001 : Value).ownBlock) (Kd.R_types (Kd.R_apart' (HO860.out) (Kd.S_typed HO_856001.out) (by decide)) BK857.out (by decide)) (fun k_ hk => ⟨⟨hk.1.1.2,hk.2⟩,hk.1.2⟩))).1 k_ hk_.symm) ?aF ?aO ?aB ?aS ?aL ?_
      (case aP => exact k94_mkM _ _ _ (⟨(rd_T94 l0_1 x4_1).f0,(rd_T94 l0_1 x4_1).f2,(rd_T94 l0_1 x4_1).f1,(rd_T94 l0_1 x4_1).f3,t858⟩ : S94) (Kd.R_mono (Kd.R_tight rfl (Kd.R_mono (ok' := fun k_ => ((fun k_ => some k_ ≠ (.slice Ao8 t852.length co8 : Value).ownBlock ∧ k_ ≠ gb857)) k_ ∧ some k_ ≠ (u856001 : Value).ownBlock) (Kd.R_types (Kd.R_apart' (HO860.out) (Kd.S_typed HO_856001.out) (by decide)) BK857.out (by decide)) (fun k_ hk => ⟨⟨hk.1.1.2,hk.2⟩,hk.1.2⟩))) (fun _ h_ => h_)))
      (case aB => exact (by repeat (first | (with_reducible first | exact HB.out | apply b_l | apply pw_below_drewN | apply below_drew1 | refine below_set ?_ GE850.out | refine below_set ?_ GE851.out | refine below_set ?_ GE855.out | refine below_set ?_ GE857.out) | exact HB.out)))
      (case aF => exact (fun k_ hk => ⟨Kd.fresh' (Kd.R_lt (by (with_reducible repeat (first | apply Kd.R_alloc | apply Kd.R_drewN | apply Kd.R_drew));exact HO_856000.out)) k_ hk,Kd.freshB (g := gb857) (o := .cells #[.int .i64 ((rd_T94 l0_1 x4_1).f0),.int .i64 ((rd_T94 l0_1 x4_1).f1),.int .i64 ((rd_T94 l0_1 x4_1).f2),.string ((rd_T94 l0_1 x4_1).f3),.slice A856_4 ((rd_T94 l0_1 x4_1).f4).length c856_4] 94 (0,0)) (by (with_reducible repeat (first | refine blk_drewN ?_ _ | refine blk_drew ?_ | refine blk_alloc ?_ _));exact BK857.out) k_ hk⟩))
      (case aO => exact (by (with_reducible repeat (first | apply Kd.S_alloc | apply Kd.S_drewN | apply Kd.S_drew));exact Kd.S_mono HO_856001.out (fun k_ hk => ⟨⟨hk.1.1,hk.1.2⟩,fun e_ => hk.2 e_⟩)))
      (case aS => exact (below_size (by repeat (first | (with_reducible first | exact HB.out | apply b_l | apply pw_below_drewN | apply below_drew1 | refine below_set ?_ GE850.out | refine below_set ?_ GE851.out | refine below_set ?_ GE855.out | refine below_set ?_ GE857.out) | exact HB.out))))
      (case aL => have := LMc16.out;omega)
      intro v862 w29 ho hb hg hat
      rw [← Ny861.out] at ho
      have n0_ := aS (Kd.R_over' (by (with_reducible repeat (first | apply Kd.R_alloc | apply Kd.R_drewN | apply Kd.R_drew));exact HO_856000.out) (Kd.S_typed (by (with_reducible repeat (first | apply Kd.S_alloc | apply Kd.S_drewN | apply Kd.S_drew));exact HO_856001.out)) (by decide) hg)
      have n1_ := aS (blk_grown (g := gb850) (o := .cells #[.slice A0_0 l0_0.length c0_0,.slice (some ad856) l0_1.length c0_1] 28 (0,0)) (by (with_reducible repeat (first | refine blk_drewN ?_ _ | refine blk_drew ?_ | refine blk_alloc ?_ _));exact BK850.out) hg (Kd.S_ne HO_856001.out BK850.out (by decide)))
      have n2_ := aS (blk_grown (g := gb851) (o := .cells #[.slice none 0 0,.slice none 0 0] 28 (0,0)) (by (with_reducible repeat (first | refine blk_drewN ?_ _ | refine blk_drew ?_ | refine blk_alloc ?_ _));exact BK851.out) hg (Kd.S_ne HO_856001.out BK851.out (by decide)))
      have n3_ := aS (blk_grown (g := gb855) (o := .cells #[.slice Ao8 t852.length co8,u856001] 28 (0,0)) (by (with_reducible repeat (first | refine blk_drewN ?_ _ | refine blk_drew ?_ | refine blk_alloc ?_ _));exact BK855.out) hg (Kd.S_ne HO_856001.out BK855.out (by decide)))
      have n4_ := aS (blk_grown (g := gb857) (o := .cells #[.int .i64 ((rd_T94 l0_1 x4_1).f0),.int .i64 ((rd_T94 l0_1 x4_1).f1),.int .i64 ((rd_T94 l0_1 x4_1).f2),.string ((rd_T94 l0_1 x4_1).f3),.slice A856_4 ((rd_T94 l0_1 x4_1).f4).length c856_4] 94 (0,0)) (by (with_reducible repeat (first | refine blk_drewN ?_ _ | refine blk_drew ?_ | refine blk_alloc ?_ _));exact BK857.out) hg (Kd.S_away HO_856001.out (fun _ hk => hk.1.2)))
      have n5_ := aS (hb)
      have n6_ := aS (ho)
      clear HO_856000
      clear BK850
      clear BK851
      clear BK855
      clear BK857
      clear HB
      clear HO_856001
      clear HO860
      have HO_856000 := n0_
      have BK850 := n1_
      have BK851 := n2_
      have BK855 := n3_
      have BK857 := n4_
      have HB := n5_
      have HO863 := n6_
      clear n0_ n1_ n2_ n3_ n4_ n5_ n6_
      clear ho hb hg hat
      obtain ⟨Ao30,co30,eo30⟩ := Kd.S_slice HO863.out
      (first | subst eo30 | (injection eo30 with f1_ f2_ f3_;have f4_ := f1_.symm;have f5_ := f3_.symm;clear f1_ f2_ f3_;subst f4_;subst f5_))
      refine hK.out _ _ ⟨(blk_cell BK855.out 0).trans rfl,(blk_cell BK855.out 1).trans rfl,(blk_cell BK857.out 0).trans rfl,(blk_cell BK857.out 1).trans rfl,(blk_cell BK857.out 2).trans rfl,(blk_cell BK857.out 3).trans rfl,(blk_cell BK857.out 4).trans rfl⟩ (fun hHeld => ?_)
      clear hK K
      refine norm_ (a' := ?_) ?_ ?_
      rotate_left
      ·show Act.put _ (some 37) _ = _
       simp only [Act.put,sA,sB,sC,i64_w,i32_w]
       rfl
      refine pure_ (i := 16) (N := some 38) (v := ?_) (a' := ?_) #[true,true,true,true,true,true,true,true,true,true,true,true,true,true,true,true,true,false] rfl rfl (any_of HT_.out (by kernel_rfl)) (fun _ _ _ h => h) (Or.inl ⟨by rfl,?_⟩) ?_ ?_
      rotate_left
      ·intro w'
       go_simp
       with_reducible rfl
      rotate_left
      ·simp only [Act.put,sA,sB,sC,i64_w,i32_w]
       rfl
      refine last_ (i := 17) (N := none) #[true,true,true,true,true,true,true,true,true,true,true,true,true,true,true,true,true,true] rfl rfl (one_of HT_.out (by kernel_rfl)) (by decide) (fun K hK => ?_)
      have hs31 : w29.cell? ⟨gb855,1,none⟩ = some (u856001) := (blk_cell BK855.out 1).trans rfl
      have hfs31 := blk_frozen BK855.out 1
      have hns31_0 := NB850_855.out
      have hns31_1 := NB851_855.out
      have hns31_3 := NB857_855.out
      have hms31_0 := NB855_850.out
      have hms31_1 := NB855_851.out
      have hms31_3 := NB855_857.out
      refine skip_ (w1 := ?_) (by rfl) rfl ?_ ?_
      rotate_left
      ·go_simp
       rfl
      refine hK.out _ _ ?_
      clear hK K
      refine done_ (done_of HT_.out (by kernel_rfl)) ?_
      try go_wp2
      go_roundg k1
      case measure => have := HK1.out;omega
      case rel => exact ⟨(wrap64 (x4_1 + 1)),(y861),(.slice Ao30 y861.length co30),(by first | rfl | (simp;done) | (simp [*];done)),H',⟨by have := HK1.out;omega⟩,⟨by (with_reducible repeat (first | apply Kd.R_alloc | apply Kd.R_drewN | apply Kd.R_drew));exact Kd.R_mono (Kd.R_far (p := ⟨gb855,1,none⟩) (Kd.R_types HO_856000.out BK855.out (by decide)) (fun _ hk => hk.2) (.slice Ao30 y861.length co30)) (fun _ hk => trivial)⟩,⟨by (with_reducible repeat (first | apply Kd.S_alloc | apply Kd.S_drewN | apply Kd.S_drew));exact Kd.S_mono (Kd.S_far (p := ⟨gb855,1,none⟩) (Kd.S_types HO863.out BK855.out (by decide)) (fun _ hk => hk.2) (.slice Ao30 y861.length co30)) (fun _ hk => hk.1.1)⟩,⟨by (with_reducible repeat (first | refine blk_drewN ?_ _ | refine blk_drew ?_ | refine blk_alloc ?_ _));refine blk_far ?_ NB850_855.out _;(with_reducible repeat (first | refine blk_drewN ?_ _ | refine blk_drew ?_ | refine blk_alloc ?_ _));exact BK850.out⟩,⟨by (with_reducible repeat (first | refine blk_drewN ?_ _ | refine blk_drew ?_ | refine blk_alloc ?_ _));refine blk_far ?_ NB851_855.out _;(with_reducible repeat (first | refine blk_drewN ?_ _ | refine blk_drew ?_ | refine blk_alloc ?_ _));exact BK851.out⟩,⟨by (with_reducible repeat (first | refine blk_drewN ?_ _ | refine blk_drew ?_ | refine blk_alloc ?_ _));refine blk_put (cs := #[.slice Ao8 t852.length co8,u856001]) ?_ 1 _ rfl;(with_reducible repeat (first | refine blk_drewN ?_ _ | refine blk_drew ?_ | refine blk_alloc ?_ _));exact BK855.out⟩,⟨by repeat (first | (with_reducible first | exact HB.out | apply b_l | apply pw_below_drewN | apply below_drew1 | refine below_set ?_ GE850.out | refine below_set ?_ GE851.out | refine below_set ?_ GE855.out | refine below_set ?_ GE857.out) | exact HB.out)⟩⟩
     ·rw [if_neg c16] at H
      exact absurd H (by simp)
    ·rw [if_neg c14] at H
     exact absurd H (by simp)
   ·rw [if_neg c13] at H
    have c13b0 : decide (x4_1 < (l0_1.length : Int)) = false := d_F c13
    clear c13
    simp only [Option.some.injEq,Prod.mk.injEq] at H
    obtain ⟨rfl,rfl⟩ := H
    have hnb32 := NB850_851.out
    have hnc32 := NB851_850.out
    have hnb33 := NB850_855.out
    have hnc33 := NB855_850.out
    have hcz34_0 : wr.cell? ⟨gb850,0,none⟩ = some (.slice A0_0 l0_0.length c0_0) := (blk_cell BK850.out 0).trans rfl
    have hcz34_1 : wr.cell? ⟨gb850,1,none⟩ = some (.slice A0_1 l0_1.length c0_1) := (blk_cell BK850.out 1).trans rfl
    have hfz34_0 := blk_frozen BK850.out 0
    have hfz34_1 := blk_frozen BK850.out 1
    have hnb35 := NB855_851.out
    have hnc35 := NB851_855.out
    have hcz36_0 : wr.cell? ⟨gb855,0,none⟩ = some (.slice Ao8 t852.length co8) := (blk_cell BK855.out 0).trans rfl
    have hcz36_1 : wr.cell? ⟨gb855,1,none⟩ = some (u856001) := (blk_cell BK855.out 1).trans rfl
    have hfz36_0 := blk_frozen BK855.out 0
    have hfz36_1 := blk_frozen BK855.out 1
    have hcz37_0 : wr.cell? ⟨gb851,0,none⟩ = some (.slice none 0 0) := (blk_cell BK851.out 0).trans rfl
    have hcz37_1 : wr.cell? ⟨gb851,1,none⟩ = some (.slice none 0 0) := (blk_cell BK851.out 1).trans rfl
    have hfz37_0 := blk_frozen BK851.out 0
    have hfz37_1 := blk_frozen BK851.out 1
    obtain ⟨Ao38,co38,eo38⟩ := Kd.S_slice HO_856001.out
    subst eo38
    go_wp2
    refine bodyPost_ret (results_cell_row rfl _ _ gb851 28 #[.slice Ao8 t852.length co8,.slice Ao38 x856001_1.length co38] (0,0) _ rfl (by (with_reducible repeat (first | refine blk_drewN ?_ _ | refine blk_drew ?_ | refine blk_alloc ?_ _));refine blk_put (cs := #[.slice Ao8 t852.length co8,.slice none 0 0]) ?_ 1 _ rfl;(with_reducible repeat (first | refine blk_drewN ?_ _ | refine blk_drew ?_ | refine blk_alloc ?_ _));refine blk_put (cs := #[.slice none 0 0,.slice none 0 0]) ?_ 0 _ rfl;(with_reducible repeat (first | refine blk_drewN ?_ _ | refine blk_drew ?_ | refine blk_alloc ?_ _));exact BK851.out) underlying28 rfl (by kernel_rfl)) rfl ?_
    exact ⟨_,_,by first | rfl | (simp [errW_none,errW_some] <;> rfl) | (simp [*,errW_none,errW_some] <;> rfl),by (with_reducible repeat (first | apply Kd.R_alloc | apply Kd.R_drewN | apply Kd.R_drew));exact Kd.R_mono (Kd.R_far (p := ⟨gb851,1,none⟩) (Kd.R_far (p := ⟨gb851,0,none⟩) (Kd.R_types HO_856000.out BK851.out (by decide)) (fun _ hk => hk.2) (.slice Ao8 t852.length co8)) (fun _ hk => hk.2) (.slice Ao38 x856001_1.length co38)) (fun _ hk => trivial),by (with_reducible repeat (first | apply Kd.S_alloc | apply Kd.S_drewN | apply Kd.S_drew));exact Kd.S_mono (Kd.S_far (p := ⟨gb851,1,none⟩) (Kd.S_far (p := ⟨gb851,0,none⟩) (Kd.S_types HO_856001.out BK851.out (by decide)) (fun _ hk => hk.2) (.slice Ao8 t852.length co8)) (fun _ hk => hk.2) (.slice Ao38 x856001_1.length co38)) (fun _ hk => hk.1),by repeat (first | (with_reducible first | exact HB.out | apply b_l | apply pw_below_drewN | apply below_drew1 | refine below_set ?_ GE850.out | refine below_set ?_ GE851.out | refine below_set ?_ GE855.out) | exact HB.out)⟩
def findS (no : Int) : List S87 → S87 × Bool
 | [] => (⟨0,0,0,0,0⟩,false)
 | x :: xs => if x.f0 = no then (x,true) else findS no xs
set_option maxHeartbeats 800000 in
theorem schema_Find.at (st ver : Int) (A : Option Addr) (c : Nat) (l : List S87) (no : Int) (w : World) (hl : l.length ≤ 4611686018427387904) (hr : Kd.C k87 w A l.length l) (hc : l.length ≤ c) :
  Calls prog 36 #[.agg #[.int .i64 st,.int .i64 ver,.slice A l.length c],.int .i64 no] w fun e w' => e = .returned (.tuple #[v87 (findS no l).1,.bool (findS no l).2]) ∧ Below w.heap.size w w' := by
 have hu24 := underlying24
 have hu87 := underlying87
 have HR := aS hr
 have HC := aS hc
 clear hr hc
 go_enter func36,ntmps36
 go_wp2
 generalize hw1 : (w.alloc _).alloc _ = w1
 have HB1 : Aside0 (Below w.heap.size w w1) := ⟨by rw [← hw1];exact b_l (bO _) _⟩
 have HBK : Aside0 (w1.heap[w.heap.size + 1]? = some (.cells #[.int .i64 0,.int .i64 0,.int .i64 0,.int .i64 0,.int .i64 0] 87 (0,0))) := ⟨by rw [← hw1];unfold World.alloc;rw [Array.getElem?_push,Array.size_push,if_pos rfl]⟩
 clear hw1
 go_loopg [11] l.length (fun g v11 w' => ∃ i : Nat,v11 = .int .i64 i ∧ i + g = l.length ∧ findS no (l.drop i) = findS no l ∧ Aside0 (Below w1.heap.size w1 w'))
 case atStart => exact ⟨0,rfl,Nat.zero_add _,rfl,⟨Below.refl _ _⟩⟩
 case round =>
  obtain ⟨i,rfl,hi,hf,HB⟩ := hrel
  have HBW : Aside0 (Below w.heap.size w wr) := ⟨b_s HB1.out HB.out⟩
  have HBR : Aside0 (wr.heap[w.heap.size + 1]? = some (.cells #[.int .i64 0,.int .i64 0,.int .i64 0,.int .i64 0,.int .i64 0] 87 (0,0))) := ⟨(HB.out.block _ (blk_lt HBK.out)).trans HBK.out⟩
  by_cases c : i < l.length
  ·have c0 : decide ((i : Int) < l.length) = true := d_T (by omega)
   obtain ⟨ad,rfl,hx0,hx1,hx2,hx3,hx4⟩ := at87 HR.out HBW.out i c
   have p : (0 ≤ (i : Int)) = True := eq_true (by omega)
   have q : ((i : Int) < l.length) = True := eq_true (by omega)
   rw [drop87 c,findS] at hf
   by_cases e : (rd_T87 l i).f0 = no
   ·have e0 : ((rd_T87 l i).f0 == no) = true := beq_iff_eq.mpr e
    rw [if_pos e] at hf
    have HF := aS hf
    clear hf
    have hcz0 := fun o => blk_cell (blk_alloc HBR.out o) 0
    have hcz1 := fun o => blk_cell (blk_alloc HBR.out o) 1
    have hcz2 := fun o => blk_cell (blk_alloc HBR.out o) 2
    have hcz3 := fun o => blk_cell (blk_alloc HBR.out o) 3
    have hcz4 := fun o => blk_cell (blk_alloc HBR.out o) 4
    have hfz0 := fun o => blk_frozen (blk_alloc HBR.out o) 0
    have hfz1 := fun o => blk_frozen (blk_alloc HBR.out o) 1
    have hfz2 := fun o => blk_frozen (blk_alloc HBR.out o) 2
    have hfz3 := fun o => blk_frozen (blk_alloc HBR.out o) 3
    have hfz4 := fun o => blk_frozen (blk_alloc HBR.out o) 4
    go_wp2
    refine bodyPost_ret (results_ct rfl _ _ (w.heap.size + 1) 87 _ (0,0) _ rfl (put5 (blk_alloc HBR.out _)) hu87 rfl (by kernel_rfl)) rfl ?_
    exact ⟨by rw [← HF.out,← e];rfl,below5 (b_l HBW.out _) (Nat.le_succ _)⟩
   ·have e0 : ((rd_T87 l i).f0 == no) = false := beq_eq_false_iff_ne.mpr e
    rw [if_neg e] at hf
    have HF := aS hf
    clear hf
    go_wp2
    obtain ⟨g,rfl⟩ : ∃ g,gk = g + 1 := ⟨gk - 1,by omega⟩
    go_roundg g
    case rel => exact ⟨i + 1,rfl,by omega,HF.out,⟨below_then HB.out HB.out.size (bO _)⟩⟩
    case measure => omega
  ·have c0 : decide ((i : Int) < l.length) = false := d_F (by omega)
   rw [List.drop_of_length_le (by omega),findS] at hf
   have HF := aS hf
   clear hf
   have hcz0 := blk_cell HBR.out 0
   have hfz0 := blk_frozen HBR.out 0
   have hcz1 := blk_cell HBR.out 1
   have hfz1 := blk_frozen HBR.out 1
   have hcz2 := blk_cell HBR.out 2
   have hfz2 := blk_frozen HBR.out 2
   have hcz3 := blk_cell HBR.out 3
   have hfz3 := blk_frozen HBR.out 3
   have hcz4 := blk_cell HBR.out 4
   have hfz4 := blk_frozen HBR.out 4
   go_wp2
   refine bodyPost_ret (results_ct rfl _ _ (w.heap.size + 1) 87 _ (0,0) _ rfl (put5 HBR.out) hu87 rfl (by kernel_rfl)) rfl ?_
   exact ⟨by rw [← HF.out];rfl,below5 HBW.out (Nat.le_succ _)⟩
def most (form : Int) : Int := if form = 2 then 99 else if form = 3 then 999 else 0
def specCheck (x : S87) : Int :=
 if x.f0 < 2 ∨ x.f0 > 128 then 1 else if x.f1 < 1 ∨ x.f1 > 6 then 6 else if x.f2 < 1 ∨ x.f2 > 3 then 3 else
 if x.f3 < 1 ∨ x.f3 > x.f4 ∨ x.f4 > 999 then 5 else if x.f2 = 1 ∧ x.f3 ≠ x.f4 then 5 else if x.f2 ≠ 1 ∧ x.f4 > most x.f2 then 5 else if x.f2 = 1 ∧ x.f1 = 6 then 13 else 0
theorem class_Known.at (c : Int) (w : World) : Calls prog 133 #[.int .i64 c] w fun e w' => e = .returned (.bool (decide (1 ≤ c ∧ c ≤ 6))) ∧ w' = w := by
 go_enter func133,ntmps133
 go_wp2
 all_goals go_ret
 all_goals refine ⟨ret_bool ?_,rfl⟩
 all_goals simp only [beq_eq_false_iff_ne,beq_iff_eq,decide_eq_true_eq,decide_eq_false_iff_not,ne_eq] at *
 all_goals first | (rw [eq_comm,decide_eq_true_eq];omega) | (rw [eq_comm,decide_eq_false_iff_not];omega)
def width (form : Int) : Int := if form = 2 then 2 else if form = 3 then 3 else 0
theorem prefix_width.at (c : Int) (w : World) : Calls prog 137 #[.int .i64 c] w fun e w' => e = .returned (.int .i64 (width c)) ∧ w' = w := by
 go_enter func137,ntmps137
 go_wp2
 all_goals go_ret
 all_goals refine ⟨ret_int ?_,rfl⟩
 all_goals simp only [beq_eq_false_iff_ne,beq_iff_eq,ne_eq] at *
 all_goals (unfold width;(repeat' split) <;> first | rfl | omega)
def nines : Nat → Int
 | 0 => 0
 | n + 1 => 10 * nines n + 9
theorem prefix_Most.at (c : Int) (w : World) : Calls prog 134 #[.int .i64 c] w fun e w' => e = .returned (.int .i64 (most c)) ∧ w' = w := by
 have hm : ∃ n : Nat,n ≤ 3 ∧ most c = nines n ∧ width c = (n : Int) := by
  unfold most width
  split
  ·exact ⟨2,by decide,by decide,rfl⟩
  ·split
   ·exact ⟨3,by decide,by decide,rfl⟩
   ·exact ⟨0,by decide,by decide,rfl⟩
 obtain ⟨n,hn,hmn,he⟩ := hm
 rw [hmn]
 go_enter func134,ntmps134
 go_wp2_with (first | (go_at_call 137;refine (prefix_width.at _ _).mono ?_;rintro e w1 ⟨rfl,rfl⟩;rw [he]))
 go_loopg [3,6] n (fun g v3 v6 w' => ∃ i : Nat,v3 = .int .i64 (nines i) ∧ v6 = .int .i64 i ∧ i + g = n ∧ w' = w1)
 case atStart => exact ⟨0,rfl,rfl,Nat.zero_add _,rfl⟩
 case round =>
  obtain ⟨i,rfl,rfl,hi,rfl⟩ := hrel
  have hb : nines i ≤ 999 ∧ 0 ≤ nines i := by
   rcases i with _ | _ | _ | _ | i
   all_goals first | decide | omega
  by_cases c1 : i < n
  ·have c0 : decide ((i : Int) < n) = true := d_T (by omega)
   go_wp2
   obtain ⟨g,rfl⟩ : ∃ g,gk = g + 1 := ⟨gk - 1,by omega⟩
   go_roundg g
   case rel => exact ⟨i + 1,rfl,rfl,by omega,rfl⟩
   case measure => omega
  ·have c0 : decide ((i : Int) < n) = false := d_F (by omega)
   obtain rfl : i = n := by omega
   go_wp2
   go_ret
   exact ⟨rfl,rfl⟩
set_option maxHeartbeats 800000 in
theorem spec_Check.at (x : S87) (w : World) :
  Calls prog 77 #[v87 x] w fun e w' => e = .returned (.int .i64 (specCheck x)) ∧ Below w.heap.size w w' := by
 have hu87 := underlying87
 unfold v87
 go_enter func77,ntmps77
 go_wp2_with (first | (go_at_call 133;refine (class_Known.at _ _).mono ?_;rintro e w1 ⟨rfl,rfl⟩) | (go_at_call 134;refine (prefix_Most.at _ _).mono ?_;rintro e w1 ⟨rfl,rfl⟩))
 all_goals try (go_quiet (first | (go_at_call 134;exact Calls.quiet_of_same (prefix_Most.at _ _)));try go_wp2)
 all_goals go_ret
 all_goals refine ⟨ret_int ?_,by repeat (first | exact Below.refl _ _ | apply b_l | apply pw_below_drewN)⟩
 all_goals try simp only [beq_eq_false_iff_ne,beq_iff_eq,bne_iff_ne,bne_eq_false_iff_eq,decide_eq_true_eq,decide_eq_false_iff_not,ne_eq,Bool.not_eq_true',Bool.not_eq_false',Bool.not_eq_true,Bool.not_eq_false] at *
 all_goals (unfold specCheck;(repeat' split) <;> first | rfl | omega)
theorem blk_nb {w w1 : World} {o : Obj} (hb : Below (w.alloc o).heap.size (w.alloc o) w1) : w1.heap[w.heap.size]? = some o := (hb.block _ (by rw [size_alloc];omega)).trans (blk_new w o)
theorem blk_nb1 {w w1 : World} {a b : Obj} (hb : Below ((w.alloc a).alloc b).heap.size ((w.alloc a).alloc b) w1) : w1.heap[w.heap.size]? = some a := by
 refine (hb.block _ (by rw [size_alloc,size_alloc];omega)).trans ?_
 have h := (b_l (Below.refl (w.alloc a).heap.size (w.alloc a)) b).block w.heap.size (by rw [size_alloc];omega)
 exact h.trans (blk_new w a)
theorem blk_nb2 {w w1 : World} {a b : Obj} (hb : Below ((w.alloc a).alloc b).heap.size ((w.alloc a).alloc b) w1) : w1.heap[w.heap.size + 1]? = some b :=
 (hb.block _ (by rw [size_alloc,size_alloc];omega)).trans (alloc2 w a b)
theorem below_a1 {w w1 : World} {o : Obj} (hb : Below (w.alloc o).heap.size (w.alloc o) w1) : Below w.heap.size w w1 := b_s (bO _) hb
theorem below_a2 {w w1 : World} {a b : Obj} (hb : Below ((w.alloc a).alloc b).heap.size ((w.alloc a).alloc b) w1) : Below w.heap.size w w1 := b_s (bA _ _) hb
theorem four {w w1 : World} {a b c d : Obj} (hb : Below ((((w.alloc a).alloc b).alloc c).alloc d).heap.size ((((w.alloc a).alloc b).alloc c).alloc d) w1) :
  w1.heap[w.heap.size]? = some a ∧ w1.heap[w.heap.size + 1]? = some b ∧ w1.heap[w.heap.size + 1 + 1]? = some c ∧ w1.heap[w.heap.size + 1 + 1 + 1]? = some d ∧ Below w.heap.size w w1 :=
 ⟨k_B (blk_alloc (blk_alloc (blk_alloc (blk_new w a) b) c) d) hb,k_B (blk_alloc (blk_alloc (alloc2 w a b) c) d) hb,k_B (blk_alloc (alloc3 w a b c) d) hb,k_B (blk_top (by rw [size_alloc,size_alloc,size_alloc])) hb,b_s (b_l (b_l (bA _ _) _) _) hb⟩
def allD (s : ByteArray) : Bool := s.data.toList.all (fun c => decide (48 ≤ c.toNat ∧ c.toNat ≤ 57))
def digits_All.f (a0 : ByteArray) : Option Bool := some (allD a0)
theorem allD_step {s : ByteArray} {i : Nat} (h : i < s.size) : (s.data.toList.drop i).all (fun c => decide (48 ≤ c.toNat ∧ c.toNat ≤ 57)) = (decide (48 ≤ (s[i]'h).toNat ∧ (s[i]'h).toNat ≤ 57) && (s.data.toList.drop (i + 1)).all (fun c => decide (48 ≤ c.toNat ∧ c.toNat ≤ 57))) := by
 have hl : i < s.data.toList.length := by rw [Array.length_toList];exact h
 rw [List.drop_eq_getElem_cons hl,List.all_cons]
 rfl
theorem digits_All.calls (a0 : ByteArray) (r : Bool) (w : World) (h : digits_All.f a0 = some r) :
  Calls prog 109 #[.string a0] w fun e w' => e = .returned (.bool r) ∧ Below w.heap.size w w' := by
 obtain rfl : allD a0 = r := Option.some.inj h
 clear h
 go_enter func109,ntmps109
 go_wp2
 go_loopw [4] (fun _ w' => ∃ (pos : Nat),w' = w.iter a0 pos ∧ pos ≤ a0.size ∧ (a0.data.toList.drop pos).all (fun c => decide (48 ≤ c.toNat ∧ c.toNat ≤ 57)) = allD a0) (fun _ w' => a0.size - w'.iterPos w.heap.size)
 case atStart => exact ⟨0,rfl,Nat.zero_le _,rfl⟩
 case round =>
  obtain ⟨pos,rfl,hp0,hc⟩ := hrel
  by_cases hp : pos < a0.size
  ·have hnx : ∀ ty,(Instr.next (.pointer (some ⟨w.heap.size,0,none⟩)) true ty).run prog (w.iter a0 pos) = _ := fun ty => run_next_any w a0 pos ty hp
   rw [allD_step hp] at hc
   by_cases ha : (a0[pos]'hp).toNat < 128
   ·rw [decode_ascii a0 pos hp ha] at hnx
    simp only at hnx
    by_cases c1 : 48 ≤ (a0[pos]'hp).toNat ∧ (a0[pos]'hp).toNat ≤ 57
    ·have d1 : decide (((a0[pos]'hp).toNat : Int) < 48) = false := d_F (by omega)
     have d2 : decide (((a0[pos]'hp).toNat : Int) > 57) = false := d_F (by omega)
     have d3 : decide (57 < ((a0[pos]'hp).toNat : Int)) = false := d_F (by omega)
     rw [d_T c1,Bool.true_and] at hc
     go_wp2
     go_roundw
     case rel => exact ⟨pos + 1,rfl,hp,hc⟩
     case measure =>
      simp
      omega
    ·rw [d_F c1,Bool.false_and] at hc
     have HC := aS hc;clear hc
     by_cases d1 : ((a0[pos]'hp).toNat : Int) < 48
     ·have d2 : decide (((a0[pos]'hp).toNat : Int) < 48) = true := d_T d1
      go_wp2
      go_ret
      exact ⟨by rw [← HC.out];rfl,below_iter _ _ _⟩
     ·have d2 : decide (((a0[pos]'hp).toNat : Int) < 48) = false := d_F d1
      have d3 : decide (57 < ((a0[pos]'hp).toNat : Int)) = true := d_T (by omega)
      go_wp2
      go_ret
      exact ⟨by rw [← HC.out];rfl,below_iter _ _ _⟩
   ·have hd := (decode_high a0 pos hp (by omega)).1
    generalize Utf8.decode a0 pos = u at hnx hd
    obtain ⟨u1,u2⟩ := u
    simp only at hnx hd
    rw [d_F (by omega),Bool.false_and] at hc
    have HC := aS hc;clear hc
    have d2 : decide ((u1 : Int) < 48) = false := d_F (by omega)
    have d3 : decide (57 < (u1 : Int)) = true := d_T (by omega)
    go_wp2
    go_ret
    exact ⟨by rw [← HC.out];rfl,below_iter _ _ _⟩
  ·have hnx : ∀ ty,(Instr.next (.pointer (some ⟨w.heap.size,0,none⟩)) true ty).run prog (w.iter a0 pos) = _ := fun ty => run_next_end w a0 pos ty hp
   rw [List.drop_of_length_le (by rw [Array.length_toList];exact Nat.le_of_not_lt hp)] at hc
   have HC := aS hc;clear hc
   go_wp2
   go_ret
   exact ⟨by rw [← HC.out];rfl,below_iter _ _ _⟩
def numD (s : ByteArray) : Int := s.data.toList.foldl (fun n c => 10 * n + ((c.toNat : Int) - 48)) 0
def digits_Get.f (a0 : ByteArray) : Option (Int × Bool) := some (if a0.size = 0 ∨ a0.size > 18 ∨ allD a0 = false then (0,false) else (numD a0,true))
theorem numD_step {s : ByteArray} {i : Nat} (h : i < s.size) : (s.data.toList.take (i + 1)).foldl (fun (n : Int) c => 10 * n + ((c.toNat : Int) - 48)) 0 = 10 * (s.data.toList.take i).foldl (fun (n : Int) c => 10 * n + ((c.toNat : Int) - 48)) 0 + (((s[i]'h).toNat : Int) - 48) := by
 have hl : i < s.data.toList.length := by rw [Array.length_toList];exact h
 rw [List.take_succ_eq_append_getElem hl,List.foldl_append]
 rfl
theorem allD_at {s : ByteArray} (h : allD s = true) {i : Nat} (hi : i < s.size) : 48 ≤ (s[i]'hi).toNat ∧ (s[i]'hi).toNat ≤ 57 := by
 have hl : i < s.data.toList.length := by rw [Array.length_toList];exact hi
 have := List.all_eq_true.1 h (s.data.toList[i]) (List.getElem_mem hl)
 exact of_decide_eq_true this
theorem digits_Get.calls (a0 : ByteArray) (r1 : Int) (r2 : Bool) (w : World) (h : digits_Get.f a0 = some (r1,r2)) :
  Calls prog 138 #[.string a0] w fun e w' => e = .returned (.tuple #[.int .i64 r1,.bool r2]) ∧ Below w.heap.size w w' := by
 have h := Option.some.inj h
 by_cases c0 : a0.size = 0
 ·rw [if_pos (.inl c0)] at h
  obtain ⟨rfl,rfl⟩ := Prod.mk.inj h
  clear h
  have d0 : (a0.toList == ([] : List UInt8)) = true := by
   rw [beq_iff_eq,ByteArray.toList_eq,← List.length_eq_zero_iff,Array.length_toList];exact c0
  go_enter func138,ntmps138
  go_wp2
  go_ret2
  exact ⟨rfl,Below.refl _ _⟩
 have d0 : (a0.toList == ([] : List UInt8)) = false := by
  rw [beq_eq_false_iff_ne,ne_eq,ByteArray.toList_eq,← List.length_eq_zero_iff,Array.length_toList];exact c0
 by_cases c1 : a0.size > 18
 ·rw [if_pos (.inr (.inl c1))] at h
  obtain ⟨rfl,rfl⟩ := Prod.mk.inj h
  clear h
  have d1 : decide (18 < (a0.size : Int)) = true := d_T (by omega)
  go_enter func138,ntmps138
  go_wp2
  go_ret2
  exact ⟨rfl,Below.refl _ _⟩
 have d1 : decide (18 < (a0.size : Int)) = false := d_F (by omega)
 by_cases c2 : allD a0 = false
 ·rw [if_pos (.inr (.inr c2))] at h
  obtain ⟨rfl,rfl⟩ := Prod.mk.inj h
  clear h
  have A := congrArg some c2
  go_enter func138,ntmps138
  go_wp2_with (go_at_call 109;refine (digits_All.calls a0 false _ A).mono ?_;rintro e w1 ⟨rfl,hb⟩)
  go_ret2
  exact ⟨rfl,hb⟩
 have c3 : allD a0 = true := by simpa using c2
 rw [if_neg (fun c => c.elim c0 (fun c => c.elim c1 c2))] at h
 obtain ⟨rfl,rfl⟩ := Prod.mk.inj h
 clear h
 have A := congrArg some c3
 go_enter func138,ntmps138
 go_wp2_with (go_at_call 109;refine (digits_All.calls a0 true _ A).mono ?_;rintro e w1 ⟨rfl,hb⟩)
 go_loopw [4,6] (fun n _ w' => ∃ (pos : Nat),w' = w1.iter a0 pos ∧ n = .int .i64 ((a0.data.toList.take pos).foldl (fun (n : Int) c => 10 * n + ((c.toNat : Int) - 48)) 0) ∧ pos ≤ a0.size ∧ 0 ≤ (a0.data.toList.take pos).foldl (fun (n : Int) c => 10 * n + ((c.toNat : Int) - 48)) 0 ∧ (a0.data.toList.take pos).foldl (fun (n : Int) c => 10 * n + ((c.toNat : Int) - 48)) 0 < ((10 ^ pos : Nat) : Int)) (fun _ _ w' => a0.size - w'.iterPos w1.heap.size)
 case atStart => exact ⟨0,rfl,rfl,Nat.zero_le _,Int.le_refl 0,by show (0 : Int) < 1;decide⟩
 case round =>
  obtain ⟨pos,rfl,rfl,hp0,hv0,hv1⟩ := hrel
  by_cases hp : pos < a0.size
  ·have hnx : ∀ ty,(Instr.next (.pointer (some ⟨w1.heap.size,0,none⟩)) true ty).run prog (w1.iter a0 pos) = _ := fun ty => run_next_any w1 a0 pos ty hp
   have hd := allD_at c3 hp
   rw [decode_ascii a0 pos hp (by omega)] at hnx
   simp only at hnx
   have hst := numD_step hp
   have hpw : 10 ^ pos ≤ 10 ^ 17 := Nat.pow_le_pow_right (by decide) (by omega)
   have hps : 10 ^ (pos + 1) = 10 ^ pos * 10 := Nat.pow_succ ..
   generalize (a0.data.toList.take pos).foldl (fun (n : Int) c => 10 * n + ((c.toNat : Int) - 48)) 0 = v at *
   have e1 : wrap64 (10 * v) = 10 * v := by unfold wrap64;omega
   go_wp2
   go_roundw
   case rel => exact ⟨pos + 1,rfl,by rw [hst],hp,by rw [hst];omega,by rw [hst,hps];omega⟩
   case measure =>
    simp
    omega
  ·have hnx : ∀ ty,(Instr.next (.pointer (some ⟨w1.heap.size,0,none⟩)) true ty).run prog (w1.iter a0 pos) = _ := fun ty => run_next_end w1 a0 pos ty hp
   have hv : (a0.data.toList.take pos).foldl (fun (n : Int) c => 10 * n + ((c.toNat : Int) - 48)) 0 = numD a0 := by
    rw [List.take_of_length_le (by rw [Array.length_toList];exact Nat.le_of_not_lt hp)];rfl
   rw [hv]
   clear hv hv0 hv1
   go_wp2
   go_ret2
   exact ⟨rfl,below_then hb hb.size (below_iter _ _ _)⟩
theorem digits_All.at (s : ByteArray) (w : World) : Calls prog 109 #[.string s] w fun e w' => e = .returned (.bool (allD s)) ∧ Below w.heap.size w w' := digits_All.calls s _ w rfl
def digG (s : ByteArray) : Int × Bool := if s.size = 0 ∨ s.size > 18 ∨ allD s = false then (0,false) else (numD s,true)
theorem digits_Get.at (s : ByteArray) (w : World) : Calls prog 138 #[.string s] w fun e w' => e = .returned (.tuple #[.int .i64 (digG s).1,.bool (digG s).2]) ∧ Below w.heap.size w w' := digits_Get.calls s _ _ w rfl
section
structure Own8 (w W : World) (v : Value) (xs : List Int) : Prop where
 row : Kd.R (Kd.int .u8) 5 W w.heap.size (fun _ => True) v xs
 below : Below w.heap.size w W
theorem Own8.drewN {w W : World} {v : Value} {xs : List Int} (h : Own8 w W v xs) (n : Nat) : Own8 w (W.drewN n) v xs := ⟨Kd.R_drewN h.row n,below_drewN' h.below⟩
theorem Own8.step {w W W' : World} {v : Value} {xs : List Int} (h : Own8 w W v xs) (hb : Below W.heap.size W W') : Own8 w W' v xs := ⟨Kd.R_below h.row hb,b_s h.below hb⟩
theorem Own8.str {w W : World} {v : Value} {xs : List Int} (h : Own8 w W v xs) : (convert 101 9 v).run prog W = .ok (.string (strOfNums xs)) W :=
 own_string (P := prog) underlying101 underlying5 underlying9 (Kd.own_of_R h.row)
theorem Own8.cut {w W : World} {v : Value} {xs : List Int} (H : Own8 w W v xs) (k : Int) (h0 : 0 ≤ k) (h1 : k ≤ xs.length) : ∃ (A A1 : Option Addr) (c n1 c1 : Nat),v = .slice A xs.length c ∧ (∀ W' : World,(Instr.slice 101 (.slice A xs.length c) (some (.int .i64 k)) none none).run prog W' = .ok (.slice A1 n1 c1) W')
  ∧ (convert 101 9 (.slice A1 n1 c1)).run prog W = .ok (.string (strOfNums (xs.drop k.toNat))) W := by
 obtain ⟨A,c,rfl⟩ := Kd.R_slice H.row
 obtain ⟨i0,hi0,_,hsz,_⟩ := info_parts info5
 obtain ⟨_,hroom,hC⟩ := Kd.R_reads' H.row
 have hcut := cut_from (P := prog) 101 5 .i64 underlying101 hi0 1 hsz A xs.length c k h0 h1
 have hr := Kd.C_drop (m := k.toNat) (c := c) hC (by omega) hroom
 refine ⟨A,_,c,_,_,rfl,hcut,?_⟩
 have hl : (xs.drop k.toNat).length = xs.length - k.toNat := List.length_drop
 rw [← hl]
 exact Kd.C_string (P := prog) underlying101 underlying5 underlying9 hr
section
variable {ops : Array Oper} {rest : List Oper} {o : Oper} {a : Act} {Q : Exit → Act → World → Prop}
theorem make8 {w W : World} (hB : Below w.heap.size w W) (hgd : o.guard = none) {N : Tmp} (hd : o.dst = some N) (x y : Operand) (ho : o.op = .makeSlice 101 x y) (m : Nat) (hx : a.eval x = .int .i64 0) (hy : a.eval y = .int .i64 m)
  (hl : m ≤ 281474976710656) (h : ∀ v1 w1,Own8 w w1 v1 [] → wpList prog ops Q rest (a.put o.dst v1) w1) : wpList prog ops Q (o :: rest) a W := by
 refine Go.Proofs.YtgbmnpgaddhfpaaGreatDoor.G.R_make0 (Kd.int .u8) _ 5 hgd hd 101 x y ho m hx hy underlying101 _ 1 info5 rfl (by decide) (by decide) (0 : Int) (ok := fun _ => True) (okp := fun _ => True) rfl (fun _ hk => hk) trivial (by omega) hB hB.size ?_
 intro v1 w1 hr hb _ _
 exact h v1 w1 ⟨hr,hb⟩
theorem app8 {w W : World} {v : Value} {xs : List Int} (H : Own8 w W v xs) (hgd : o.guard = none) (s x : Operand) (y : Int) (ho : o.op = .call { callee := .builtin .append,args := #[s,x],argTypes := #[101,101] })
  (hs : a.eval s = v) (hx : a.eval x = .slice (some ⟨W.heap.size,0,none⟩) 1 1) (hl : xs.length ≤ 140737488355326)
  (h : ∀ v1 w1,Own8 w w1 v1 (xs ++ [y]) → wpList prog ops Q rest (a.put o.dst v1) w1) : wpList prog ops Q (o :: rest) a (W.alloc (.cells #[.int .u8 y] 5)) := by
 refine Kd.R_append (Kd.int .u8) (w0 := w) w.heap.size hgd s x 101 5 (.int .u8 0) 1 ho underlying101 info5 rfl (by decide) (by omega) v xs y [.int .u8 y] (fun _ => True) (fun _ => False) hs hx rfl (fun _ hk => hk.elim) (fun _ _ => trivial) H.row H.below H.below.size (by omega) ?_
 intro v1 w1 hr hb _ _
 exact h v1 w1 ⟨hr,hb⟩
theorem app8two {w W : World} {v : Value} {xs : List Int} (H : Own8 w W v xs) (hgd : o.guard = none) (s x : Operand) (y z : Int) (ho : o.op = .call { callee := .builtin .append,args := #[s,x],argTypes := #[101,101] })
  (hs : a.eval s = v) (hx : a.eval x = .slice (some ⟨W.heap.size,0,none⟩) 2 2) (hl : xs.length ≤ 140737488355326)
  (h : ∀ v1 w1,Own8 w w1 v1 (xs ++ [y,z]) → wpList prog ops Q rest (a.put o.dst v1) w1) : wpList prog ops Q (o :: rest) a (W.alloc (.cells #[.int .u8 y,.int .u8 z] 5)) := by
 refine Kd.R_append_rows (Kd.int .u8) (Rr := (Kd.int .u8).K (W.alloc (.cells #[.int .u8 y,.int .u8 z] 5))) (w0 := w) w.heap.size hgd s x 101 5 (.int .u8 0) 1 ho underlying101 info5 rfl (by decide) (by omega) v xs [y,z] (some ⟨W.heap.size,0,none⟩) 2 2 (fun _ => True) (fun _ => False) hs hx (Kd.R_alloc H.row _) ?_ (fun _ _ h => h) (fun _ h => h.elim) (fun _ _ => trivial) (b_l H.below _) (below_size (b_l H.below _)) (by omega) ?_
 ·refine ⟨rfl,by omega,fun _ => ⟨_,rfl,fun j p hj => ⟨[.int .u8 p],rfl,rfl,fun i u hu => ?_⟩⟩⟩
  have hblk : (W.alloc (.cells #[.int .u8 y,.int .u8 z] 5)).heap[W.heap.size]? = some (.cells #[.int .u8 y,.int .u8 z] 5 (0,0)) := blk_new _ _
  rcases i with _ | i
  ·rcases j with _ | _ | j
   ·simp at hj hu
    subst hj hu
    exact blk_cell hblk 0
   ·simp at hj hu
    subst hj hu
    exact blk_cell hblk 1
   ·simp at hj
  ·simp at hu
 ·intro v1 w1 hr hb _ _
  exact h v1 w1 ⟨hr,hb⟩
end
end
def vSet (p : Int × Int) : Value := .agg #[.int .u64 p.1,.int .u64 p.2]
def bitS (n : Int) : Int × Int := if n < 1 ∨ n > 128 then (0,0) else if n ≤ 64 then (IntKind.u64.wrap (2 ^ (64 - n).toNat),0) else (0,IntKind.u64.wrap (2 ^ (128 - n).toNat))
theorem ret_set {p q : Int × Int} (h : p = q) : Ending.returned (.agg #[.int .u64 p.1,.int .u64 p.2]) = Ending.returned (vSet q) := by rw [h];rfl
theorem fields_bit.at (n : Int) (w : World) : Calls prog 149 #[.int .i64 n] w fun e w' => e = .returned (vSet (bitS n)) ∧ Below w.heap.size w w' := by
 have hu82 := underlying82
 go_enter func149,ntmps149
 go_wp2
 all_goals refine bodyPost_ret (results_cell_row rfl _ _ w.heap.size 82 _ (0,0) _ rfl (blk_new _ _) hu82 rfl (by kernel_rfl)) rfl ?_
 all_goals refine ⟨ret_set (p := (_,_)) ?_,b_l (Below.refl _ _) _⟩
 all_goals (unfold bitS;(repeat' split) <;> first | rfl | omega)
def bothS (p q : Int × Int) : Int × Int := (Go.bits .and .u64 p.1 q.1,Go.bits .and .u64 p.2 q.2)
def eithS (p q : Int × Int) : Int × Int := (Go.bits .or .u64 p.1 q.1,Go.bits .or .u64 p.2 q.2)
theorem fields_Both.at (p q : Int × Int) (w : World) : Calls prog 94 #[vSet p,vSet q] w fun e w' => e = .returned (vSet (bothS p q)) ∧ Below w.heap.size w w' := by
 have hu82 := underlying82
 unfold vSet
 go_enter func94,ntmps94
 go_wp2
 refine bodyPost_ret (results_cell_row rfl _ _ (w.heap.size + 1 + 1) 82 _ (0,0) _ rfl (alloc3 _ _ _ _) hu82 rfl (by kernel_rfl)) rfl ?_
 exact ⟨rfl,b_l (bA _ _) _⟩
theorem fields_Either.at (p q : Int × Int) (w : World) : Calls prog 95 #[vSet p,vSet q] w fun e w' => e = .returned (vSet (eithS p q)) ∧ Below w.heap.size w w' := by
 have hu82 := underlying82
 unfold vSet
 go_enter func95,ntmps95
 go_wp2
 refine bodyPost_ret (results_cell_row rfl _ _ (w.heap.size + 1 + 1) 82 _ (0,0) _ rfl (alloc3 _ _ _ _) hu82 rfl (by kernel_rfl)) rfl ?_
 exact ⟨rfl,b_l (bA _ _) _⟩
theorem fields_Bits.at (a b : Int) (w : World) : Calls prog 84 #[.int .u64 a,.int .u64 b] w fun e w' => e = .returned (vSet (a,b)) ∧ Below w.heap.size w w' := by
 have hu82 := underlying82
 go_enter func84,ntmps84
 go_wp2
 refine bodyPost_ret (results_cell_row rfl _ _ w.heap.size 82 _ (0,0) _ rfl (blk_new _ _) hu82 rfl (by kernel_rfl)) rfl ?_
 exact ⟨rfl,b_l (Below.refl _ _) _⟩
def withS (p : Int × Int) (n : Int) : Int × Int := eithS p (bitS n)
def hasS (p : Int × Int) (n : Int) : Bool := if (bothS p (bitS n)).1 = 0 then if (bothS p (bitS n)).2 = 0 then false else true else true
set_option maxHeartbeats 1000000 in
theorem fields_With.at (p : Int × Int) (n : Int) (w : World) : Calls prog 107 #[vSet p,.int .i64 n] w fun e w' => e = .returned (vSet (withS p n)) ∧ Below w.heap.size w w' := by
 have hu82 := underlying82
 unfold vSet
 go_enter func107,ntmps107
 go_wp2
 go_region_with (first | (go_at_call 149;refine (fields_bit.at _ _).mono ?_;rintro e w1 ⟨rfl,hb⟩;have hc := below_cells hb;have hf := below_frozen hb) | (go_at_call 95;refine (fields_Either.at p _ _).mono ?_;rintro e w2 ⟨rfl,hb2⟩;have hc2 := below_cells hb2;have hf2 := below_frozen hb2;simp only [vSet,eithS,bothS]))
 all_goals go_wp2
 all_goals refine bodyPost_ret (results_cell_row rfl _ _ (w.heap.size + 1) 82 _ (0,0) _ rfl (blk_put (blk_put (k_B (k_B (show (World.drew ((w.alloc _).alloc _)).heap[w.heap.size + 1]? = some _ from alloc2 w _ _) hb) hb2) 0 _ rfl) 1 _ rfl) hu82 rfl (by kernel_rfl)) rfl ?_
 all_goals exact ⟨rfl,Below.setCell (p := ⟨_,1,none⟩) (Below.setCell (p := ⟨_,0,none⟩) (b_s (b_s (below_drew1 (bA _ _)) hb) hb2) (Nat.le_succ _) _) (Nat.le_succ _) _⟩
set_option maxHeartbeats 1000000 in
theorem fields_Has.at (p : Int × Int) (n : Int) (w : World) : Calls prog 103 #[vSet p,.int .i64 n] w fun e w' => e = .returned (.bool (hasS p n)) ∧ Below w.heap.size w w' := by
 have hu82 := underlying82
 unfold vSet
 go_enter func103,ntmps103
 go_wp2
 refine wp_region_below (by kernel_rfl) (by kernel_rfl) ?_
 refine wpQuiet_step (fun K hK => ?_)
 refine (if_pos rfl).mpr ⟨.agg #[.int .u64 p.1,.int .u64 p.2],fun w' hw' => ?_,hK _ ?_⟩
 ·have hc := below_cells hw'
  unfold Oper.quietAt
  go_simp
 clear hK K
 refine wpQuiet_step (fun K hK => ?_)
 refine (if_pos rfl).mpr ⟨.int .i64 n,fun w' hw' => ?_,hK _ ?_⟩
 ·unfold Oper.quietAt
  go_simp
 clear hK K
 refine wpQuiet_step (fun K hK => ?_)
 refine (if_pos rfl).mpr ⟨vSet (bitS n),fun w' hw' => ?_,hK _ ?_⟩
 ·unfold Oper.quietAt
  have h3 : Below (w.alloc (.cells #[.int .u64 p.1,.int .u64 p.2] 82)).heap.size (w.alloc (.cells #[.int .u64 p.1,.int .u64 p.2] 82)) w' := hw'
  rw [size_alloc] at h3
  go_simp
  go_at_call 149
  exact (fields_bit.at _ _).mono fun e w2 ⟨he,hb⟩ => ⟨he,below_then h3 (by have := h3.size;rwa [size_alloc] at this) hb⟩
 clear hK K
 refine wpQuiet_step (fun K hK => ?_)
 refine (if_pos rfl).mpr ⟨vSet (bothS p (bitS n)),fun w' hw' => ?_,hK _ ?_⟩
 ·unfold Oper.quietAt
  have h3 : Below (w.alloc (.cells #[.int .u64 p.1,.int .u64 p.2] 82)).heap.size (w.alloc (.cells #[.int .u64 p.1,.int .u64 p.2] 82)) w' := hw'
  rw [size_alloc] at h3
  go_simp
  go_at_call 94
  exact (fields_Both.at p _ _).mono fun e w2 ⟨he,hb⟩ => ⟨he,below_then h3 (by have := h3.size;rwa [size_alloc] at this) hb⟩
 clear hK K
 refine wpQuiet_step (fun K hK => ?_)
 refine (if_pos rfl).mpr ⟨vSet (0,0),fun w' hw' => ?_,hK _ ?_⟩
 ·unfold Oper.quietAt
  go_simp
  all_goals first | rfl | exact ⟨rfl,rfl⟩
 clear hK K
 refine wpQuiet_step (fun K hK => ?_)
 refine (if_pos rfl).mpr ⟨.bool (hasS p n),fun w' hw' => ?_,hK _ ?_⟩
 ·unfold Oper.quietAt
  simp only [vSet]
  go_simp
  unfold hasS
  by_cases c1 : (bothS p (bitS n)).1 = 0
  ·by_cases c2 : (bothS p (bitS n)).2 = 0
   ·rw [if_pos c1,if_pos c2,if_pos c1,if_pos c2]
    exact ⟨rfl,rfl⟩
   ·rw [if_pos c1,if_neg c2,if_pos c1,if_neg c2]
    exact ⟨rfl,rfl⟩
  ·rw [if_neg c1,if_neg c1]
   exact ⟨rfl,rfl⟩
 clear hK K
 refine wpQuiet_step (fun K hK => ?_)
 refine (if_pos rfl).mpr ⟨.bool (hasS p n),fun w' hw' => ?_,hK _ ?_⟩
 ·unfold Oper.quietAt
  go_simp
  all_goals first | rfl | exact ⟨rfl,rfl⟩
 clear hK K
 refine wpQuiet_nil ?_
 intro w' hw'
 go_wp2
 go_ret
 exact ⟨rfl,b_s (bO _) hw'⟩
def setsV (c : Int) : Int := if c = 1 then 1 else if c = 2 then 2 else if c = 3 then 3 else if c = 4 then 7 else if c = 5 ∨ c = 6 then 15 else 0
def ofV (b : Int) : Int := if 48 ≤ b ∧ b ≤ 57 then 1 else if (65 ≤ b ∧ b ≤ 90) ∨ (97 ≤ b ∧ b ≤ 122) then 2 else if 32 ≤ b ∧ b ≤ 126 then 4 else 8
def inCls (c b : Int) : Bool :=
 if c = 1 then decide (48 ≤ b ∧ b ≤ 57) else if c = 2 then decide ((65 ≤ b ∧ b ≤ 90) ∨ (97 ≤ b ∧ b ≤ 122)) else
 if c = 3 then decide ((48 ≤ b ∧ b ≤ 57) ∨ (65 ≤ b ∧ b ≤ 90) ∨ (97 ≤ b ∧ b ≤ 122)) else if c = 4 then decide (32 ≤ b ∧ b ≤ 126) else decide (c = 5 ∨ c = 6)
theorem and_eq (c b : Int) : (Go.bits .and .i64 (setsV c) (ofV b) == 0) = !inCls c b := by
 unfold setsV ofV inCls
 (repeat' split) <;> first | (exfalso;omega) | skip
 all_goals simp only [show (Go.bits .and .i64 1 1 == 0) = false by decide,show (Go.bits .and .i64 1 2 == 0) = true by decide,show (Go.bits .and .i64 1 4 == 0) = true by decide,show (Go.bits .and .i64 1 8 == 0) = true by decide,
  show (Go.bits .and .i64 2 1 == 0) = true by decide,show (Go.bits .and .i64 2 2 == 0) = false by decide,show (Go.bits .and .i64 2 4 == 0) = true by decide,show (Go.bits .and .i64 2 8 == 0) = true by decide,
  show (Go.bits .and .i64 3 1 == 0) = false by decide,show (Go.bits .and .i64 3 2 == 0) = false by decide,show (Go.bits .and .i64 3 4 == 0) = true by decide,show (Go.bits .and .i64 3 8 == 0) = true by decide,
  show (Go.bits .and .i64 7 1 == 0) = false by decide,show (Go.bits .and .i64 7 2 == 0) = false by decide,show (Go.bits .and .i64 7 4 == 0) = false by decide,show (Go.bits .and .i64 7 8 == 0) = true by decide,
  show (Go.bits .and .i64 15 1 == 0) = false by decide,show (Go.bits .and .i64 15 2 == 0) = false by decide,show (Go.bits .and .i64 15 4 == 0) = false by decide,show (Go.bits .and .i64 15 8 == 0) = false by decide,
  show (Go.bits .and .i64 0 1 == 0) = true by decide,show (Go.bits .and .i64 0 2 == 0) = true by decide,show (Go.bits .and .i64 0 4 == 0) = true by decide,show (Go.bits .and .i64 0 8 == 0) = true by decide]
 all_goals first | (rw [eq_comm,Bool.not_eq_true',decide_eq_false_iff_not];omega) | (rw [eq_comm,Bool.not_eq_false',decide_eq_true_eq];omega)
def firstNot (c : Int) : List UInt8 → Int → Int
 | [],_ => -1
 | b :: bs,i => if inCls c b.toNat then firstNot c bs (i + 1) else i
theorem class_sets.at (c : Int) (w : World) : Calls prog 166 #[.int .i64 c] w fun e w' => e = .returned (.int .i64 (setsV c)) ∧ w' = w := by
 go_enter func166,ntmps166
 go_wp2
 all_goals go_ret
 all_goals refine ⟨ret_int ?_,rfl⟩
 all_goals try simp only [beq_eq_false_iff_ne,beq_iff_eq,ne_eq] at *
 all_goals (unfold setsV;(repeat' split) <;> first | rfl | omega)
theorem class_of.at (b : Int) (w : World) : Calls prog 167 #[.int .u8 b] w fun e w' => e = .returned (.int .i64 (ofV b)) ∧ w' = w := by
 go_enter func167,ntmps167
 go_wp2
 all_goals go_ret
 all_goals refine ⟨ret_int ?_,rfl⟩
 all_goals try simp only [decide_eq_true_eq,decide_eq_false_iff_not,Bool.and_eq_true,Bool.or_eq_true,Bool.and_eq_false_iff,Bool.or_eq_false_iff] at *
 all_goals (unfold ofV;(repeat' split) <;> first | rfl | omega)
theorem drop_byte {s : ByteArray} {i : Nat} (h : i < s.size) : s.data.toList.drop i = (s[i]'h) :: s.data.toList.drop (i + 1) := by
 rw [List.drop_eq_getElem_cons (by rw [Array.length_toList];exact h)]
 rfl
theorem class_First.at (c : Int) (s : ByteArray) (w : World) (hs : s.size ≤ 4611686018427387904) : Calls prog 140 #[.int .i64 c,.string s] w fun e w' => e = .returned (.int .i64 (firstNot c s.data.toList 0)) ∧ w' = w := by
 go_enter func140,ntmps140
 go_wp2_with (first | (go_at_call 166;refine (class_sets.at _ _).mono ?_;rintro e w1 ⟨rfl,rfl⟩))
 go_loopg [6] s.size (fun g v6 w' => ∃ i : Nat,v6 = .int .i64 i ∧ i + g = s.size ∧ firstNot c (s.data.toList.drop i) i = firstNot c s.data.toList 0 ∧ w' = w1)
 case atStart => exact ⟨0,rfl,Nat.zero_add _,rfl,rfl⟩
 case round =>
  obtain ⟨i,rfl,hi,hf,rfl⟩ := hrel
  by_cases h : i < s.size
  ·have c0 : decide ((i : Int) < s.size) = true := d_T (by omega)
   have p : (0 ≤ (i : Int)) = True := eq_true (by omega)
   have q : ((i : Int) < s.size) = True := eq_true (by omega)
   rw [drop_byte h,firstNot] at hf
   have e0 := and_eq c ((s[i]'h).toNat : Int)
   cases hc : inCls c ((s[i]'h).toNat : Int) with
   | true =>
    rw [hc,Bool.not_true] at e0
    rw [hc,if_pos rfl] at hf
    have HF := aS hf
    clear hf hc
    go_wp2_with (first | (go_at_call 167;refine (class_of.at _ _).mono ?_;rintro e w1 ⟨rfl,rfl⟩))
    obtain ⟨g,rfl⟩ : ∃ g,gk = g + 1 := ⟨gk - 1,by omega⟩
    go_roundg g
    case rel => exact ⟨i + 1,rfl,by omega,HF.out,rfl⟩
    case measure => omega
   | false =>
    rw [hc,Bool.not_false] at e0
    rw [hc,if_neg (by decide)] at hf
    have HF := aS hf
    clear hf hc
    go_wp2_with (first | (go_at_call 167;refine (class_of.at _ _).mono ?_;rintro e w1 ⟨rfl,rfl⟩))
    go_ret
    exact ⟨by rw [← HF.out];rfl,rfl⟩
  ·have c0 : decide ((i : Int) < s.size) = false := d_F (by omega)
   rw [List.drop_of_length_le (by rw [Array.length_toList];exact Nat.le_of_not_lt h),firstNot] at hf
   have HF := aS hf
   clear hf
   go_wp2
   go_ret
   exact ⟨by rw [← HF.out];rfl,rfl⟩
end Go.Proofs.YtgbmnpgaddhfpaaGreatDoor.T
namespace Go.Proofs.YtgbmnpgaddhfpaaGreatDoor.T
open Go.RowKit Go.Proofs.YtgbmnpgaddhfpaaGreatDoorW.PrintWords Go.Proofs.YtgbmnpgaddhfpaaGreatDoorW.PrintLast Go.Proofs.YtgbmnpgaddhfpaaGreatDoorW.PrintMore
attribute [local go_sem] max2_int min2_int max_two min_two
open Go.Proofs.YtgbmnpgaddhfpaaGreatDoor.G
open Tryz
set_option maxRecDepth 100000
def isFirst (x : Int) : Bool := decide (0 < x ∧ x ≤ 255 ∧ x / 32 % 2 = 0)
def isTag (x : Int) : Bool := decide ((0 < x ∧ x ≤ 255 ∧ x / 32 % 2 = 0 ∧ x % 32 ≠ 31) ∨ (255 < x ∧ x ≤ 65535 ∧ x / 256 / 32 % 2 = 0 ∧ x / 256 % 32 = 31 ∧ 1 ≤ x % 256 ∧ x % 256 ≤ 127))
def getTag (s : ByteArray) (i : Int) : Int × Int × Int :=
 if i < 0 ∨ i > s.size then (0,0,1) else if i = s.size then (0,0,2) else
 if isFirst (bt s i) = false then (0,0,13) else if bt s i % 32 ≠ 31 then (bt s i,i + 1,0) else
 if i + 1 = s.size then (0,0,2) else if isTag (bt s i * 256 + bt s (i + 1)) then (bt s i * 256 + bt s (i + 1),i + 2,0) else (0,0,13)
theorem tag_first.at (x : Int) (w : World) : Calls prog 187 #[.int .i64 x] w fun e w' => e = .returned (.bool (isFirst x)) ∧ w' = w := by
 go_enter func187,ntmps187
 go_wp2
 all_goals go_ret
 all_goals refine ⟨ret_bool ?_,rfl⟩
 all_goals try rw [and32 (by omega) (by omega)]
 all_goals (rw [Bool.eq_iff_iff];simp only [isFirst,decide_eq_true_eq,Bool.false_eq_true,false_iff];omega)
theorem tag_Right.at (x : Int) (w : World) : Calls prog 188 #[.int .i64 x] w fun e w' => e = .returned (.bool (isTag x)) ∧ w' = w := by
 go_enter func188,ntmps188
 go_wp2_with (go_at_call 187;refine (tag_first.at _ _).mono ?_;rintro e w1 ⟨rfl,rfl⟩)
 all_goals go_ret
 all_goals refine ⟨ret_bool ?_,rfl⟩
 all_goals try simp only [isFirst,decide_eq_true_eq] at *
 all_goals try rw [and31 (x := x) (by omega) (by omega)] at *
 all_goals try rw [and31 (x := x / 256) (by omega) (by omega)] at *
 all_goals try rw [and255 (x := x) (by omega) (by omega)] at *
 all_goals (rw [Bool.eq_iff_iff];simp only [isTag,decide_eq_true_eq,bne_iff_ne,Bool.false_eq_true,false_iff];omega)
theorem tag_Get.at (s : ByteArray) (i : Int) (w : World) (hs : s.size ≤ 4611686018427387904) : Calls prog 168 #[.string s,.int .i64 i] w fun e w' => e = .returned (.tuple #[.int .i64 (getTag s i).1,.int .i64 (getTag s i).2.1,.int .i64 (getTag s i).2.2]) ∧ w' = w := by
 unfold getTag
 by_cases h0 : i < 0
 ·rw [if_pos (.inl h0)]
  go_enter func168,ntmps168
  go_wp2
  go_ret3
  exact ⟨rfl,rfl⟩
 by_cases h1 : i > s.size
 ·rw [if_pos (.inr h1)]
  have d0 : decide (i < 0) = false := d_F h0
  have d1 : decide ((s.size : Int) < i) = true := d_T h1
  go_enter func168,ntmps168
  go_wp2
  go_ret3
  exact ⟨rfl,rfl⟩
 rw [if_neg (by omega : ¬ (i < 0 ∨ i > s.size))]
 obtain ⟨n,rfl⟩ : ∃ n : Nat,i = n := ⟨i.toNat,by omega⟩
 have d0 : decide ((n : Int) < 0) = false := d_F h0
 have d1 : decide ((s.size : Int) < n) = false := d_F h1
 by_cases h2 : n = s.size
 ·have d2 : ((n : Int) == (s.size : Int)) = true := beq_iff_eq.mpr (by omega)
  rw [if_pos (by omega)]
  go_enter func168,ntmps168
  go_wp2
  go_ret3
  exact ⟨rfl,rfl⟩
 have d2 : ((n : Int) == (s.size : Int)) = false := beq_eq_false_iff_ne.mpr (by omega)
 have hn : n < s.size := by omega
 have p : (0 ≤ (n : Int)) = True := eq_true (by omega)
 have q : ((n : Int) < s.size) = True := eq_true (by omega)
 have hb := bt_get hn
 have hr := bt_range s n
 rw [if_neg (by omega)]
 rw [hb] at hr ⊢
 have e31 := and31 (x := ((s[n]'hn).toNat : Int)) (by omega) (by omega)
 cases hf : isFirst ((s[n]'hn).toNat : Int) with
 | false =>
  rw [if_pos rfl]
  go_enter func168,ntmps168
  go_wp2_with (first | (go_at_call 187;refine (tag_first.at _ _).mono ?_;rintro e w1 ⟨rfl,rfl⟩;try rw [hf]))
  go_ret3
  exact ⟨rfl,rfl⟩
 | true =>
  rw [if_neg (by decide)]
  by_cases h4 : ((s[n]'hn).toNat : Int) % 32 = 31
  ·have d4 : (((s[n]'hn).toNat : Int) % 32 == 31) = true := beq_iff_eq.mpr h4
   rw [if_neg (by omega)]
   by_cases h5 : n + 1 = s.size
   ·have d5 : ((n : Int) + 1 == (s.size : Int)) = true := beq_iff_eq.mpr (by omega)
    rw [if_pos (by omega)]
    go_enter func168,ntmps168
    go_wp2_with (first | (go_at_call 187;refine (tag_first.at _ _).mono ?_;rintro e w1 ⟨rfl,rfl⟩;try rw [hf]))
    go_ret3
    exact ⟨rfl,rfl⟩
   ·have d5 : ((n : Int) + 1 == (s.size : Int)) = false := beq_eq_false_iff_ne.mpr (by omega)
    have hm : n + 1 < s.size := by omega
    have p2 : (0 ≤ (n : Int) + 1) = True := eq_true (by omega)
    have q2 : ((n : Int) + 1 < s.size) = True := eq_true (by omega)
    have hb2 := bt_get hm
    have hr2 := bt_range s (n + 1 : Nat)
    rw [hb2] at hr2
    rw [if_neg (by omega),show (n : Int) + 1 = ((n + 1 : Nat) : Int) from rfl,hb2]
    have e8 := or8 (x := ((s[n]'hn).toNat : Int)) (y := ((s[n + 1]'hm).toNat : Int)) (by omega) (by omega) (by omega) (by omega)
    cases ht : isTag (((s[n]'hn).toNat : Int) * 256 + ((s[n + 1]'hm).toNat : Int)) with
    | true =>
     rw [if_pos rfl]
     go_enter func168,ntmps168
     go_wp2_with (first | (go_at_call 187;refine (tag_first.at _ _).mono ?_;rintro e w1 ⟨rfl,rfl⟩;try rw [hf]) | (go_at_call 188;refine (tag_Right.at _ _).mono ?_;rintro e w1 ⟨rfl,rfl⟩;try rw [ht]))
     go_ret3
     exact ⟨rfl,rfl⟩
    | false =>
     rw [if_neg (by decide)]
     go_enter func168,ntmps168
     go_wp2_with (first | (go_at_call 187;refine (tag_first.at _ _).mono ?_;rintro e w1 ⟨rfl,rfl⟩;try rw [hf]) | (go_at_call 188;refine (tag_Right.at _ _).mono ?_;rintro e w1 ⟨rfl,rfl⟩;try rw [ht]))
     go_ret3
     exact ⟨rfl,rfl⟩
  ·have d4 : (((s[n]'hn).toNat : Int) % 32 == 31) = false := beq_eq_false_iff_ne.mpr h4
   rw [if_pos h4]
   go_enter func168,ntmps168
   go_wp2_with (first | (go_at_call 187;refine (tag_first.at _ _).mono ?_;rintro e w1 ⟨rfl,rfl⟩;try rw [hf]))
   go_ret3
   exact ⟨rfl,rfl⟩
end Go.Proofs.YtgbmnpgaddhfpaaGreatDoor.T
