/- Walks and plain laws beneath the law TopBuilt. No conditions but what each statement names. -/
import Derived.Test.YtgbmnpgaddhfpaaGreatDoorB3
set_option linter.unusedVariables false
set_option linter.unusedSimpArgs false
namespace Go.Proofs.YtgbmnpgaddhfpaaGreatDoor.T
open Go.RowKit Go.Proofs.YtgbmnpgaddhfpaaGreatDoorW.PrintWords Go.Proofs.YtgbmnpgaddhfpaaGreatDoorW.PrintLast Go.Proofs.YtgbmnpgaddhfpaaGreatDoorW.PrintMore
attribute [local go_sem] max2_int min2_int max_two min_two
open Tryz
set_option maxRecDepth 100000
def groatref14_Schema.l0 : Nat → Int → List (List Int) → Int → Int → Int → List (S87) → Option (Int × Int × (List (S87)))
 | 0,_,_,_,_,_,_ => none
 | k + 1,x0,x4,x5,x507000,x507001,x507002 => if x5 < (x4.length : Int) then (if 0 ≤ x5 then (if 0 ≤ (wrap64 (1 + (wrap64 (4 * x0)))) then (if (wrap64 (1 + (wrap64 (4 * x0)))) ≤ (wrap64 (5 + (wrap64 (4 * x0)))) then (if (wrap64 (5 + (wrap64 (4 * x0)))) ≤ ((rd_L11 x4 x5).length : Int) then ((some (((rd_L11 x4 x5).take ((wrap64 (5 + (wrap64 (4 * x0)))) : Int).toNat).drop ((wrap64 (1 + (wrap64 (4 * x0)))) : Int).toNat : List Int)).bind fun y511 => (if 0 < (y511.length : Int) then (if (rd y511 0) > 0 then (if 0 < ((rd_L11 x4 x5).length : Int) then (if 1 < (y511.length : Int) then (if 2 < (y511.length : Int) then (if 3 < (y511.length : Int) then (if x507002.length < 3518437208883 then (groatref14_Schema.l0 k x0 x4 (wrap64 (x5 + 1)) x507000 x507001 (x507002 ++ [(⟨rd (rd_L11 x4 x5) 0,rd y511 0,rd y511 1,rd y511 2,rd y511 3⟩ : S87)])) else (none)) else (none)) else (none)) else (none)) else (none)) else (groatref14_Schema.l0 k x0 x4 (wrap64 (x5 + 1)) x507000 x507001 x507002)) else (none))) else (none)) else (none)) else (none)) else (none)) else (some (x507000,x507001,x507002))
def groatref14_Schema.f (k : Nat) (a0 : Int) : Option (Int × Int × (List (S87))) := (groatref14_both.f).bind fun t507 => (groatref14_Schema.l0 k a0 t507 0 (wrap64 (a0 + 1)) a0 ([] : List (S87)))
def groatref14_Schema.T8 : Bool × List (List Nat × List Nat) := (true,[([],[]),([0],[0]),([],[]),([],[]),([2,3],[2,3]),([4],[4]),([5],[5]),([6],[6]),([],[]),([8],[8]),([9],[9]),([],[]),([11],[11]),([12],[12]),([],[]),([14],[14]),([15],[15]),([],[]),([17],[17]),([18],[18]),([7,10,13,16,19],[7,10,13,16,19]),([20],[20]),([1,21],[1,21]),([0,1,2,3,4,5,6,7,8,9,10,11,12,13,14,15,16,17,18,19,20,21,22],[]),([23,22,22,0,1,2,3,4,5,6,7,8,9,10,11,12,13,14,15,16,17,18,19,20,21,22],[22,23])])
def groatref14_Schema.B8 : List Nat := [0,1,0,0,12,28,60,124,0,256,768,0,2048,6144,0,16384,49152,0,131072,393216,1048572,2097148,4194303,8388607,16777215]
theorem groatref14_Schema.tab8 : rtab .any (opsOf Tryz.f25 8) = groatref14_Schema.T8 := by kernel_rfl
theorem groatref14_Schema.bits8 : waitsOk groatref14_Schema.T8.2 groatref14_Schema.B8 = true := by kernel_rfl
set_option maxHeartbeats 8000000 in
theorem groatref14_Schema.calls (k : Nat) (a0 : Int) (r1 : Int) (r2 : Int) (r3 : List (S87)) (w : World) (h : groatref14_Schema.f k a0 = some (r1,r2,r3)) :
  Calls prog 25 #[.int .i64 a0] w fun e w' => ∃ v2_ : Value,e = .returned (.agg #[.int .i64 r1,.int .i64 r2,v2_]) ∧ Kd.R k87 87 w' w.heap.size (fun _ => True) v2_ r3 ∧ Below w.heap.size w w' := by
 have hu24 := underlying24
 have hu87 := underlying87
 have HB := aS (Below.refl w.heap.size w)
 have H : ((groatref14_both.f).bind fun t507 => (groatref14_Schema.l0 k a0 t507 0 (wrap64 (a0 + 1)) a0 ([] : List (S87)))) = some (r1,r2,r3) := h
 clear h
 replace H := Option.bind_eq_some_iff.mp H
 obtain ⟨t507,A20,H⟩ := H
 replace H : (groatref14_Schema.l0 k a0 t507 0 (wrap64 (a0 + 1)) a0 ([] : List (S87))) = some (r1,r2,r3) := H
 have A2 := aS A20
 clear A20
 have H' := aS H
 clear H
 go_enter func25,ntmps25
 go_wp2_with (first | ((with_reducible refine gate_dst (N := 2) rfl ?_);refine box_event ?hg (N := 2) ?hd (cs := #[.int .i64 0,.int .i64 0,.slice none 0 0]) (t := 24) ?hr ?_;(case hd => rfl);(case hg => rfl);(case hr => first | (go_simp;done) | (go_simp;rfl));intro gb505 hg w3 hbox hb;have n0_ := aS (b_s (by repeat (first | (with_reducible first | exact HB.out | apply b_l | apply pw_below_drewN | apply below_drew1) | exact HB.out)) hb);have n1_ := aS (hbox);have n2_ := aS ((by rw [hg];exact (below_size (by repeat (first | (with_reducible first | exact HB.out | apply b_l | apply pw_below_drewN | apply below_drew1) | exact HB.out))) : w.heap.size ≤ gb505));have n3_ := aS ((by rw [hg];exact (below_size (by repeat (first | (with_reducible first | exact HB.out | apply b_l | apply pw_below_drewN | apply below_drew1) | exact HB.out))) : w.heap.size ≤ gb505));clear HB;have HB := n0_;have BK505 := n1_;have GW505 := n2_;have GE505 := n3_;clear n0_ n1_ n2_ n3_;clear hb hbox hg) | ((with_reducible refine gate_dst (N := 3) rfl ?_);refine box_event ?hg (N := 3) ?hd (cs := #[.int .i64 0,.int .i64 0,.slice none 0 0]) (t := 24) ?hr ?_;(case hd => rfl);(case hg => rfl);(case hr => first | (go_simp;done) | (go_simp;rfl));intro gb506 hg w4 hbox hb;have n0_ := aS (k_B (g := gb505) (o := .cells #[.int .i64 0,.int .i64 0,.slice none 0 0] 24 (0,0)) (by (with_reducible repeat (first | refine blk_drewN ?_ _ | refine blk_drew ?_ | refine blk_alloc ?_ _));exact BK505.out) hb);have n1_ := aS (b_s (by repeat (first | (with_reducible first | exact HB.out | apply b_l | apply pw_below_drewN | apply below_drew1 | refine below_set ?_ GE505.out) | exact HB.out)) hb);have n2_ := aS (hbox);have n3_ := aS ((by rw [hg];exact (below_size (by repeat (first | (with_reducible first | exact HB.out | apply b_l | apply pw_below_drewN | apply below_drew1 | refine below_set ?_ GE505.out) | exact HB.out))) : w.heap.size ≤ gb506));have n4_ := aS ((by rw [hg];exact (below_size (by repeat (first | (with_reducible first | exact HB.out | apply b_l | apply pw_below_drewN | apply below_drew1 | refine below_set ?_ GE505.out) | exact HB.out))) : w.heap.size ≤ gb506));have n5_ := aS ((by rw [hg];exact Nat.ne_of_lt (blk_lt (g := gb505) (o := .cells #[.int .i64 0,.int .i64 0,.slice none 0 0] 24 (0,0)) (by (with_reducible repeat (first | refine blk_drewN ?_ _ | refine blk_drew ?_ | refine blk_alloc ?_ _));exact BK505.out)) : gb505 ≠ gb506));have n6_ := aS ((by rw [hg];exact Nat.ne_of_gt (blk_lt (g := gb505) (o := .cells #[.int .i64 0,.int .i64 0,.slice none 0 0] 24 (0,0)) (by (with_reducible repeat (first | refine blk_drewN ?_ _ | refine blk_drew ?_ | refine blk_alloc ?_ _));exact BK505.out)) : gb506 ≠ gb505));clear BK505;clear HB;have BK505 := n0_;have HB := n1_;have BK506 := n2_;have GW506 := n3_;have GE506 := n4_;have NB505_506 := n5_;have NB506_505 := n6_;clear n0_ n1_ n2_ n3_ n4_ n5_ n6_;clear hb hbox hg;have hnb5 := NB506_505.out;have hnc5 := NB505_506.out;have hcz6_0 : w4.cell? ⟨gb506,0,none⟩ = some (.int .i64 0) := (blk_cell BK506.out 0).trans rfl;have hcz6_1 : w4.cell? ⟨gb506,1,none⟩ = some (.int .i64 0) := (blk_cell BK506.out 1).trans rfl;have hcz6_2 : w4.cell? ⟨gb506,2,none⟩ = some (.slice none 0 0) := (blk_cell BK506.out 2).trans rfl;have hfz6_0 := blk_frozen BK506.out 0;have hfz6_1 := blk_frozen BK506.out 1;have hfz6_2 := blk_frozen BK506.out 2) | ((with_reducible refine gate_callee (f := 69) rfl ?_);refine goesL_ (some 11) rfl rfl func69 (by kernel_rfl) rfl #[] rfl (by (try simp only [List.map_toArray,List.map_cons,List.map_nil]);first | done | rfl | (simp only [List.length_drop,List.length_take];rfl)) ?_;(with_reducible refine (groatref14_both.calls  t507 _ A2.out).mono ?_);rintro e w7 ⟨v508,rfl,ho0,hb⟩;refine ⟨_,rfl,?_⟩;have n0_ := aS (Kd.N_lower (Kd.N_mono (ok' := fun k_ => k_ ≠ gb505 ∧ k_ ≠ gb506) ho0 (fun k_ hk_ => ⟨(Kd.freshB (g := gb505) (o := .cells #[.int .i64 0,.int .i64 0,.slice none 0 0] 24 (0,0)) (by (with_reducible repeat (first | refine blk_drewN ?_ _ | refine blk_drew ?_ | refine blk_alloc ?_ _));refine blk_far ?_ NB505_506.out _;(with_reducible repeat (first | refine blk_drewN ?_ _ | refine blk_drew ?_ | refine blk_alloc ?_ _));refine blk_far ?_ NB505_506.out _;(with_reducible repeat (first | refine blk_drewN ?_ _ | refine blk_drew ?_ | refine blk_alloc ?_ _));refine blk_far ?_ NB505_506.out _;(with_reducible repeat (first | refine blk_drewN ?_ _ | refine blk_drew ?_ | refine blk_alloc ?_ _));exact BK505.out) k_ hk_),(Kd.freshB (g := gb506) (o := .cells #[.int .i64 (wrap64 (a0 + 1)),.int .i64 a0,.slice none 0 0] 24 (0,0)) (by (with_reducible repeat (first | refine blk_drewN ?_ _ | refine blk_drew ?_ | refine blk_alloc ?_ _));refine blk_put (cs := #[.int .i64 (wrap64 (a0 + 1)),.int .i64 a0,.slice none 0 0]) ?_ 2 _ rfl;(with_reducible repeat (first | refine blk_drewN ?_ _ | refine blk_drew ?_ | refine blk_alloc ?_ _));refine blk_put (cs := #[.int .i64 (wrap64 (a0 + 1)),.int .i64 0,.slice none 0 0]) ?_ 1 _ rfl;(with_reducible repeat (first | refine blk_drewN ?_ _ | refine blk_drew ?_ | refine blk_alloc ?_ _));refine blk_put (cs := #[.int .i64 0,.int .i64 0,.slice none 0 0]) ?_ 0 _ rfl;(with_reducible repeat (first | refine blk_drewN ?_ _ | refine blk_drew ?_ | refine blk_alloc ?_ _));exact BK506.out) k_ hk_)⟩)) (below_size (by repeat (first | (with_reducible first | exact HB.out | apply b_l | apply pw_below_drewN | apply below_drew1 | refine below_set ?_ GE505.out | refine below_set ?_ GE506.out) | exact HB.out))));have n1_ := aS (k_B (g := gb505) (o := .cells #[.int .i64 0,.int .i64 0,.slice none 0 0] 24 (0,0)) (by (with_reducible repeat (first | refine blk_drewN ?_ _ | refine blk_drew ?_ | refine blk_alloc ?_ _));refine blk_far ?_ NB505_506.out _;(with_reducible repeat (first | refine blk_drewN ?_ _ | refine blk_drew ?_ | refine blk_alloc ?_ _));refine blk_far ?_ NB505_506.out _;(with_reducible repeat (first | refine blk_drewN ?_ _ | refine blk_drew ?_ | refine blk_alloc ?_ _));refine blk_far ?_ NB505_506.out _;(with_reducible repeat (first | refine blk_drewN ?_ _ | refine blk_drew ?_ | refine blk_alloc ?_ _));exact BK505.out) hb);have n2_ := aS (k_B (g := gb506) (o := .cells #[.int .i64 (wrap64 (a0 + 1)),.int .i64 a0,.slice none 0 0] 24 (0,0)) (by (with_reducible repeat (first | refine blk_drewN ?_ _ | refine blk_drew ?_ | refine blk_alloc ?_ _));refine blk_put (cs := #[.int .i64 (wrap64 (a0 + 1)),.int .i64 a0,.slice none 0 0]) ?_ 2 _ rfl;(with_reducible repeat (first | refine blk_drewN ?_ _ | refine blk_drew ?_ | refine blk_alloc ?_ _));refine blk_put (cs := #[.int .i64 (wrap64 (a0 + 1)),.int .i64 0,.slice none 0 0]) ?_ 1 _ rfl;(with_reducible repeat (first | refine blk_drewN ?_ _ | refine blk_drew ?_ | refine blk_alloc ?_ _));refine blk_put (cs := #[.int .i64 0,.int .i64 0,.slice none 0 0]) ?_ 0 _ rfl;(with_reducible repeat (first | refine blk_drewN ?_ _ | refine blk_drew ?_ | refine blk_alloc ?_ _));exact BK506.out) hb);have n3_ := aS (b_s (by repeat (first | (with_reducible first | exact HB.out | apply b_l | apply pw_below_drewN | apply below_drew1 | refine below_set ?_ GE505.out | refine below_set ?_ GE506.out) | exact HB.out)) hb);clear BK505;clear BK506;clear HB;have HO509 := n0_;have BK505 := n1_;have BK506 := n2_;have HB := n3_;clear n0_ n1_ n2_ n3_;(try clear hb);(try clear hb2);(try clear hk);(try clear hi);(try clear ho0)))
 go_loopg [5] k (fun kq v5 w' => ∃ (x5_1 : Int) (x507002_1 : List (S87)) (u507002 : Value),v5 = .int .i64 x5_1 ∧ Aside0 (groatref14_Schema.l0 kq a0 t507 x5_1 (wrap64 (a0 + 1)) a0 x507002_1 = some (r1,r2,r3)) ∧ Aside0 (kq ≤ k) ∧ Aside0 (Kd.N (Kd.slice 3 (Kd.int .i64)) 29 w' w.heap.size (fun k_ => some k_ ≠ (u507002 : Value).ownBlock ∧ k_ ≠ gb505 ∧ k_ ≠ gb506) v508 t507) ∧ Aside0 (Kd.R k87 87 w' w.heap.size (fun _ => True) u507002 x507002_1) ∧ Aside0 (w'.heap[gb505]? = some (.cells #[.int .i64 0,.int .i64 0,(.slice none 0 0)] 24 (0,0))) ∧ Aside0 (w'.heap[gb506]? = some (.cells #[.int .i64 (wrap64 (a0 + 1)),.int .i64 a0,u507002] 24 (0,0))) ∧ Aside0 (Below w.heap.size w w'))
 case atStart => exact ⟨(0),(([] : List (S87))),(.slice none 0 0),(by first | rfl | (simp;done) | (simp [*];done)),H',⟨Nat.le_refl _⟩,⟨by (with_reducible repeat (first | apply Kd.N_alloc | apply Kd.N_drewN | apply Kd.N_drew));exact Kd.N_mono HO509.out (fun _ hk => ⟨(by simp [Value.ownBlock]),⟨hk.1,hk.2⟩⟩)⟩,⟨by first | exact Kd.R_nil _ _ _ _ _ | exact Kd.N_nil _ _ _ _ _ | exact Kd.V_nil _ _ _ _ _ | exact Kd.Q_nil _ _ _ _ _ | exact Kd.S_nil _ _ _ _ _⟩,⟨by (with_reducible repeat (first | refine blk_drewN ?_ _ | refine blk_drew ?_ | refine blk_alloc ?_ _));exact BK505.out⟩,⟨by (with_reducible repeat (first | refine blk_drewN ?_ _ | refine blk_drew ?_ | refine blk_alloc ?_ _));exact BK506.out⟩,⟨by repeat (first | (with_reducible first | exact HB.out | apply b_l | apply pw_below_drewN | apply below_drew1 | refine below_set ?_ GE505.out | refine below_set ?_ GE506.out) | exact HB.out)⟩⟩
 case round =>
  clear H'
  try clear c2
  try clear p2
  try clear c5
  try clear c6
  try clear p6
  try clear hcz6_0
  try clear hcz6_1
  try clear hcz6_2
  try clear hfz6_0
  try clear hfz6_1
  try clear hfz6_2
  obtain ⟨x5_1,x507002_1,u507002,rfl,HA,HK1,HO_4,HO_507002,BK505,BK506,HB⟩ := hrel
  cases gk with
  | zero => exact absurd HA.out (by simp [groatref14_Schema.l0])
  | succ k1 =>
   have H := HA.out
   clear HA
   simp only [groatref14_Schema.l0] at H
   by_cases c8 : x5_1 < (t507.length : Int)
   ·rw [if_pos c8] at H
    have c8b0 : decide (x5_1 < (t507.length : Int)) = true := d_T c8
    clear c8
    by_cases c9 : 0 ≤ x5_1
    ·rw [if_pos c9] at H
     have c9b0 : decide (0 ≤ x5_1) = true := d_T c9
     clear c9
     obtain ⟨ji10,hji10⟩ : ∃ j_ : Int,(wrap64 (1 + (wrap64 (4 * a0)))) = j_ := ⟨_,rfl⟩
     replace H : (if 0 ≤ (ji10) then (if (ji10) ≤ (wrap64 (5 + (wrap64 (4 * a0)))) then (if (wrap64 (5 + (wrap64 (4 * a0)))) ≤ ((rd_L11 t507 x5_1).length : Int) then ((some (((rd_L11 t507 x5_1).take ((wrap64 (5 + (wrap64 (4 * a0)))) : Int).toNat).drop ((ji10) : Int).toNat : List Int)).bind fun y511 => (if 0 < (y511.length : Int) then (if (rd y511 0) > 0 then (if 0 < ((rd_L11 t507 x5_1).length : Int) then (if 1 < (y511.length : Int) then (if 2 < (y511.length : Int) then (if 3 < (y511.length : Int) then (if x507002_1.length < 3518437208883 then (groatref14_Schema.l0 k1 a0 t507 (wrap64 (x5_1 + 1)) (wrap64 (a0 + 1)) a0 (x507002_1 ++ [(⟨rd (rd_L11 t507 x5_1) 0,rd y511 0,rd y511 1,rd y511 2,rd y511 3⟩ : S87)])) else (none)) else (none)) else (none)) else (none)) else (none)) else (groatref14_Schema.l0 k1 a0 t507 (wrap64 (x5_1 + 1)) (wrap64 (a0 + 1)) a0 x507002_1)) else (none))) else (none)) else (none)) else (none)) = some (r1,r2,r3) := by first | (rw [hji10] at H;exact H) | (simp only [hji10] at H ⊢;exact H)
     have hji10w : (IntKind.i64.wrap (1 + (wrap64 (4 * a0)))) = ji10 := (i64_w _).trans hji10
     by_cases c11 : 0 ≤ (ji10)
     ·rw [if_pos c11] at H
      have c11b0 := eq_true c11
      have c11b1 : decide (0 ≤ (ji10)) = true := d_T c11
      clear c11
      by_cases c12 : (ji10) ≤ (wrap64 (5 + (wrap64 (4 * a0))))
      ·rw [if_pos c12] at H
       have c12b0 := eq_true c12
       have c12b1 : decide ((ji10) ≤ (wrap64 (5 + (wrap64 (4 * a0))))) = true := d_T c12
       by_cases c13 : (wrap64 (5 + (wrap64 (4 * a0)))) ≤ ((rd_L11 t507 x5_1).length : Int)
       ·rw [if_pos c13] at H
        have c13b0 := eq_true c13
        have c13b1 : decide ((wrap64 (5 + (wrap64 (4 * a0)))) ≤ ((rd_L11 t507 x5_1).length : Int)) = true := d_T c13
        obtain ⟨y511,hy511⟩ : ∃ y_ : List Int,y_ = (((rd_L11 t507 x5_1).take ((wrap64 (5 + (wrap64 (4 * a0)))) : Int).toNat).drop ((ji10) : Int).toNat) := ⟨_,rfl⟩
        replace H : (if 0 < (y511.length : Int) then (if (rd y511 0) > 0 then (if 0 < ((rd_L11 t507 x5_1).length : Int) then (if 1 < (y511.length : Int) then (if 2 < (y511.length : Int) then (if 3 < (y511.length : Int) then (if x507002_1.length < 3518437208883 then (groatref14_Schema.l0 k1 a0 t507 (wrap64 (x5_1 + 1)) (wrap64 (a0 + 1)) a0 (x507002_1 ++ [(⟨rd (rd_L11 t507 x5_1) 0,rd y511 0,rd y511 1,rd y511 2,rd y511 3⟩ : S87)])) else (none)) else (none)) else (none)) else (none)) else (none)) else (groatref14_Schema.l0 k1 a0 t507 (wrap64 (x5_1 + 1)) (wrap64 (a0 + 1)) a0 x507002_1)) else (none)) = some (r1,r2,r3) := by first | (rw [hy511];with_reducible exact H) | (have H2_ := (Option.bind_some _ _).symm.trans H;rw [hy511];with_reducible exact H2_) | (have H2_ := (Option.bind_some _ _).symm.trans H;with_reducible exact H2_) | with_reducible exact H | (rw [hy511];exact H) | exact H
        have Ny511 := aS hy511
        clear hy511
        by_cases c14 : 0 < (y511.length : Int)
        ·rw [if_pos c14] at H
         have c14b0 : decide (0 < (y511.length : Int)) = true := d_T c14
         have c14b1 : decide (0 < y511.length) = true := d_T (by omega)
         clear c14
         by_cases c15 : (rd y511 0) > 0
         ·rw [if_pos c15] at H
          have c15b0 : decide (0 < (rd y511 0)) = true := d_T c15
          clear c15
          by_cases c16 : 0 < ((rd_L11 t507 x5_1).length : Int)
          ·rw [if_pos c16] at H
           have c16b0 : decide (0 < ((rd_L11 t507 x5_1).length : Int)) = true := d_T c16
           have c16b1 : decide (0 < (rd_L11 t507 x5_1).length) = true := d_T (by omega)
           clear c16
           by_cases c17 : 1 < (y511.length : Int)
           ·rw [if_pos c17] at H
            have c17b0 : decide (1 < (y511.length : Int)) = true := d_T c17
            have c17b1 : decide (1 < y511.length) = true := d_T (by omega)
            clear c17
            by_cases c18 : 2 < (y511.length : Int)
            ·rw [if_pos c18] at H
             have c18b0 : decide (2 < (y511.length : Int)) = true := d_T c18
             have c18b1 : decide (2 < y511.length) = true := d_T (by omega)
             clear c18
             by_cases c19 : 3 < (y511.length : Int)
             ·rw [if_pos c19] at H
              have c19b0 : decide (3 < (y511.length : Int)) = true := d_T c19
              have c19b1 : decide (3 < y511.length) = true := d_T (by omega)
              clear c19
              by_cases c20 : x507002_1.length < 3518437208883
              ·rw [if_pos c20] at H
               have LMc20 := aS c20
               clear c20
               obtain ⟨y523,hy523⟩ : ∃ y_ : List (S87),y_ = (x507002_1 ++ [(⟨rd (rd_L11 t507 x5_1) 0,rd y511 0,rd y511 1,rd y511 2,rd y511 3⟩ : S87)]) := ⟨_,rfl⟩
               replace H : (groatref14_Schema.l0 k1 a0 t507 (wrap64 (x5_1 + 1)) (wrap64 (a0 + 1)) a0 y523) = some (r1,r2,r3) := by first | (rw [hy523];with_reducible exact H) | (have H2_ := (Option.bind_some _ _).symm.trans H;rw [hy523];with_reducible exact H2_) | (have H2_ := (Option.bind_some _ _).symm.trans H;with_reducible exact H2_) | with_reducible exact H | (rw [hy523];exact H) | exact H
               have Ny523 := aS hy523
               clear hy523
               have H' := aS H
               clear H
               obtain ⟨Ao21,co21,eo21⟩ := Kd.N_slice HO_4.out
               subst eo21
               have p510 : 0 ≤ (x5_1 : Int) := of_decide_eq_true (by first | (with_reducible assumption) | assumption)
               have q510 : x5_1 < (t507.length : Int) := of_decide_eq_true (by first | (with_reducible assumption) | assumption)
               obtain ⟨ad510,A510_0,c510_0,e510,hx510_0,hl510_0,hi510_0⟩ := at_L11 (Kd.N_reads' HO_4.out).2.2 x5_1 p510 q510
               cases e510
               obtain ⟨ce510,hce510,hMe510,hcc510⟩ := Kd.N_get HO_4.out [] x5_1 p510 (by first | exact q510 | exact of_decide_eq_true (by first | (with_reducible assumption) | assumption) | (have e_ := (Kd.N_reads' HO_4.out).1;omega))
               obtain ⟨ua510_0,uc510_0,rfl,ul510_0,ge510_0⟩ := Kd.FK_slice_open hMe510
               have hv510_0 := hcc510 0 _ rfl
               rw [Nat.add_zero,show ((Kd.slice 3 (Kd.int .i64))).sz = 1 from rfl,Nat.mul_one] at hv510_0
               replace hv510_0 := Option.some.inj (hv510_0.symm.trans hx510_0)
               injection hv510_0 with hva_ hvn_ hvc_
               rw [hva_] at ge510_0
               rw [hvc_] at ul510_0
               have HL510_0 := aS (show Kd.V (Kd.int .i64) 3 _ w.heap.size _ _ (rd_L11 t507 x5_1) from Kd.V_mk ul510_0 ge510_0)
               clear hva_ hvn_ hvc_ ge510_0 ul510_0
               clear hcc510 hce510
               have HR510_0 := aS hi510_0
               have HC510_0 := aS hl510_0
               clear hi510_0 hl510_0
               replace p510 := eq_true p510
               replace q510 := eq_true q510
               have q22 : ((wrap64 (5 + (wrap64 (4 * a0)))) : Int) ≤ (((rd_L11 t507 x5_1).length : Int) : Int) := of_decide_eq_true (by first | (with_reducible assumption) | assumption)
               obtain ⟨i022,hi022,_,hsz22,_⟩ := info_parts info3
               have hroom22 : (rd_L11 t507 x5_1).length ≤ c510_0 := HC510_0.out
               have hC22 : Kd.F (Kd.int .i64) _ _ A510_0 (rd_L11 t507 x5_1).length (rd_L11 t507 x5_1) := (Kd.V_at (base := w.heap.size) HL510_0.out).2.2
               have ql22 : ((ji10) : Int) ≤ ((wrap64 (5 + (wrap64 (4 * a0)))) : Int) := of_decide_eq_true (by first | (with_reducible assumption) | assumption)
               have q022 : (0 : Int) ≤ ((ji10) : Int) := of_decide_eq_true (by first | (with_reducible assumption) | assumption)
               have hcut22 := cut_mid (P := prog) 29 3 .i64 .i64 underlying29 hi022 1 hsz22 A510_0 (rd_L11 t507 x5_1).length c510_0 (ji10) (wrap64 (5 + (wrap64 (4 * a0)))) q022 ql22 q22 hroom22
               have hr22 := Kd.F_mid (lo := ((ji10) : Int).toNat) (hi := ((wrap64 (5 + (wrap64 (4 * a0)))) : Int).toNat) (c := c510_0) hC22 (by omega) (by omega) hroom22
               obtain ⟨A22,hA22⟩ : ∃ A1,A1 = (if c510_0 = ((ji10) : Int).toNat then A510_0 else (A510_0 : Option Addr).map (·.add (((ji10) : Int).toNat * 1))) := ⟨_,rfl⟩
               obtain ⟨c22,hc22⟩ : ∃ c1,c1 = c510_0 - ((ji10) : Int).toNat := ⟨_,rfl⟩
               have hy22 : y511.length = ((wrap64 (5 + (wrap64 (4 * a0)))) : Int).toNat - ((ji10) : Int).toNat := (by rw [Ny511.out,List.length_drop,List.length_take] <;> omega)
               rw [show ((rd_L11 t507 x5_1).take ((wrap64 (5 + (wrap64 (4 * a0)))) : Int).toNat).drop ((ji10) : Int).toNat = y511 from Ny511.out.symm] at hr22
               replace hr22 : Kd.F (Kd.int .i64) _ _ A22 y511.length y511 := (by rw [hA22];exact hr22)
               rw [← hy22,← hA22,← hc22] at hcut22
               have HO515 := aS (show Kd.V (Kd.int .i64) 3 _ w.heap.size _ (.slice A22 y511.length c22) y511 from Kd.V_mk (by rw [hy22,hc22];exact Nat.sub_le_sub_right (Nat.le_trans (by omega) hroom22) _) hr22)
               have HC515 := aS (show y511.length ≤ c22 from by rw [hy22,hc22];exact Nat.sub_le_sub_right (Nat.le_trans (by omega) hroom22) _)
               clear hr22 hC22 hroom22 hi022 hsz22 hc22
               have KY22 := aS hy22
               have KA22 := aS hA22
               clear hy22 hA22
               replace q22 := eq_true q22
               have p516 : 0 ≤ (0 : Int) := (by omega)
               have q516 : 0 < (y511.length : Int) := of_decide_eq_true (by first | (with_reducible assumption) | assumption)
               obtain ⟨ad516,e516,hx516_0⟩ := Kd.at_int (Kd.V_reads' HO515.out).2.2 0 p516 q516
               cases e516
               have qi516 : (0 < y511.length) = True := eq_true (by omega)
               (try rw [show ((0 : Int)).toNat = 0 from rfl] at hx516_0)
               (try rw [Addr.add_zero'] at hx516_0)
               replace p516 := eq_true p516
               replace q516 := eq_true q516
               try go_wp2
               have n0_ := aS (Kd.N_drew HO_4.out)
               have n1_ := aS (Kd.R_drew HO_507002.out)
               have n2_ := aS (Kd.V_drew HL510_0.out)
               have n3_ := aS (Kd.V_drew HO515.out)
               have n4_ := aS (blk_drew BK505.out)
               have n5_ := aS (blk_drew BK506.out)
               have n6_ := aS (Kd.C_drew HR510_0.out)
               have n7_ := aS (below_drew1 HB.out)
               clear HO_4
               clear HO_507002
               clear HL510_0
               clear HO515
               clear BK505
               clear BK506
               clear HR510_0
               clear HB
               have HO_4 := n0_
               have HO_507002 := n1_
               have HL510_0 := n2_
               have HO515 := n3_
               have BK505 := n4_
               have BK506 := n5_
               have HR510_0 := n6_
               have HB := n7_
               clear n0_ n1_ n2_ n3_ n4_ n5_ n6_ n7_
               have p517 : 0 ≤ (x5_1 : Int) := of_decide_eq_true (by first | (with_reducible assumption) | assumption)
               have q517 : x5_1 < (t507.length : Int) := of_decide_eq_true (by first | (with_reducible assumption) | assumption)
               obtain ⟨ad517,A517_0,c517_0,e517,hx517_0,hl517_0,hi517_0⟩ := at_L11 (Kd.N_reads' HO_4.out).2.2 x5_1 p517 q517
               obtain rfl : ad510 = ad517 := (by injection e517)
               obtain ⟨ce517,hce517,hMe517,hcc517⟩ := Kd.N_get HO_4.out [] x5_1 p517 (by first | exact q517 | exact of_decide_eq_true (by first | (with_reducible assumption) | assumption) | (have e_ := (Kd.N_reads' HO_4.out).1;omega))
               obtain ⟨ua517_0,uc517_0,rfl,ul517_0,ge517_0⟩ := Kd.FK_slice_open hMe517
               have hv517_0 := hcc517 0 _ rfl
               rw [Nat.add_zero,show ((Kd.slice 3 (Kd.int .i64))).sz = 1 from rfl,Nat.mul_one] at hv517_0
               replace hv517_0 := Option.some.inj (hv517_0.symm.trans hx517_0)
               injection hv517_0 with hva_ hvn_ hvc_
               rw [hva_] at ge517_0
               rw [hvc_] at ul517_0
               have HL517_0 := aS (show Kd.V (Kd.int .i64) 3 _ w.heap.size _ _ (rd_L11 t507 x5_1) from Kd.V_mk ul517_0 ge517_0)
               clear hva_ hvn_ hvc_ ge517_0 ul517_0
               clear hcc517 hce517
               have HR517_0 := aS hi517_0
               have HC517_0 := aS hl517_0
               clear hi517_0 hl517_0
               replace p517 := eq_true p517
               replace q517 := eq_true q517
               have p518 : 0 ≤ (0 : Int) := (by omega)
               have q518 : 0 < ((rd_L11 t507 x5_1).length : Int) := of_decide_eq_true (by first | (with_reducible assumption) | assumption)
               obtain ⟨ad518,e518,hx518_0⟩ := Kd.at_int (by repeat (first | (with_reducible exact HR517_0.out) | (with_reducible refine Kd.C_alloc ?_ _) | (with_reducible refine Kd.C_drewN ?_ _) | (with_reducible refine Kd.C_drew ?_) | exact HR517_0.out)) 0 p518 q518
               cases e518
               have qi518 : (0 < (rd_L11 t507 x5_1).length) = True := eq_true (by omega)
               (try rw [show ((0 : Int)).toNat = 0 from rfl] at hx518_0)
               (try rw [Addr.add_zero'] at hx518_0)
               replace p518 := eq_true p518
               replace q518 := eq_true q518
               have p519 : 0 ≤ (0 : Int) := (by omega)
               have q519 : 0 < (y511.length : Int) := of_decide_eq_true (by first | (with_reducible assumption) | assumption)
               obtain ⟨ad519,e519,hx519_0⟩ := Kd.at_int (Kd.V_reads' HO515.out).2.2 0 p519 q519
               obtain rfl : ad516 = ad519 := (by injection e519)
               have qi519 : (0 < y511.length) = True := eq_true (by omega)
               (try rw [show ((0 : Int)).toNat = 0 from rfl] at hx519_0)
               (try rw [Addr.add_zero'] at hx519_0)
               replace p519 := eq_true p519
               replace q519 := eq_true q519
               have p520 : 0 ≤ (1 : Int) := (by omega)
               have q520 : 1 < (y511.length : Int) := of_decide_eq_true (by first | (with_reducible assumption) | assumption)
               obtain ⟨ad520,e520,hx520_0⟩ := Kd.at_int (Kd.V_reads' HO515.out).2.2 1 p520 q520
               obtain rfl : ad516 = ad520 := (by injection e520)
               (try simp only [show (1 : Int).toNat = 1 from rfl,Nat.reduceMul,Nat.reduceEqDiff,Go.Addr.add,↓reduceIte] at hx520_0)
               have qi520 : (1 < y511.length) = True := eq_true (by omega)
               (try rw [show ((1 : Int)).toNat = 1 from rfl] at hx520_0)
               replace p520 := eq_true p520
               replace q520 := eq_true q520
               have p521 : 0 ≤ (2 : Int) := (by omega)
               have q521 : 2 < (y511.length : Int) := of_decide_eq_true (by first | (with_reducible assumption) | assumption)
               obtain ⟨ad521,e521,hx521_0⟩ := Kd.at_int (Kd.V_reads' HO515.out).2.2 2 p521 q521
               obtain rfl : ad516 = ad521 := (by injection e521)
               (try simp only [show (2 : Int).toNat = 2 from rfl,Nat.reduceMul,Nat.reduceEqDiff,Go.Addr.add,↓reduceIte] at hx521_0)
               have qi521 : (2 < y511.length) = True := eq_true (by omega)
               (try rw [show ((2 : Int)).toNat = 2 from rfl] at hx521_0)
               replace p521 := eq_true p521
               replace q521 := eq_true q521
               have p522 : 0 ≤ (3 : Int) := (by omega)
               have q522 : 3 < (y511.length : Int) := of_decide_eq_true (by first | (with_reducible assumption) | assumption)
               obtain ⟨ad522,e522,hx522_0⟩ := Kd.at_int (Kd.V_reads' HO515.out).2.2 3 p522 q522
               obtain rfl : ad516 = ad522 := (by injection e522)
               (try simp only [show (3 : Int).toNat = 3 from rfl,Nat.reduceMul,Nat.reduceEqDiff,Go.Addr.add,↓reduceIte] at hx522_0)
               have qi522 : (3 < y511.length) = True := eq_true (by omega)
               (try rw [show ((3 : Int)).toNat = 3 from rfl] at hx522_0)
               replace p522 := eq_true p522
               replace q522 := eq_true q522
               refine start_ (n := 25) (S := fun w' => w'.cell? ⟨gb506,0,none⟩ = some (.int .i64 (wrap64 (a0 + 1))) ∧ w'.cell? ⟨gb506,1,none⟩ = some (.int .i64 a0) ∧ w'.cell? ⟨gb506,2,none⟩ = some (u507002) ∧ w'.cell? (ad510.add (x5_1).toNat) = some (.slice (some ad518) (rd_L11 t507 x5_1).length c517_0) ∧ w'.cell? ad518 = some (.int .i64 (rd (rd_L11 t507 x5_1) 0)) ∧ w'.cell? ad516 = some (.int .i64 (rd y511 0)) ∧ w'.cell? ⟨ad516.block,ad516.off + 1,none⟩ = some (.int .i64 (rd y511 1)) ∧ w'.cell? ⟨ad516.block,ad516.off + 2,none⟩ = some (.int .i64 (rd y511 2)) ∧ w'.cell? ⟨ad516.block,ad516.off + 3,none⟩ = some (.int .i64 (rd y511 3))) (ds := [22,24]) #[false,false,false,false,false,false,false,false,false,false,false,false,false,false,false,false,false,false,false,false,false,false,false,false,false] (by kernel_rfl) rfl rfl ⟨(blk_cell BK506.out 0).trans rfl,(blk_cell BK506.out 1).trans rfl,(blk_cell BK506.out 2).trans rfl,hx517_0,hx518_0,hx519_0,hx520_0,hx521_0,hx522_0⟩ (fun hHeld => ?_);refine with_tabW groatref14_Schema.tab8 groatref14_Schema.bits8 (fun HT_ HW_ => ?_)
               generalize wr.drew = w23 at HO_4 HO_507002 HL510_0 HO515 BK505 BK506 HR510_0 HB HL517_0 HR517_0 hx517_0 hx518_0 hx519_0 hx520_0 hx521_0 hx522_0 hHeld ⊢
               refine pure_ (i := 0) (N := some 33) (v := ?_) (a' := ?_) #[true,false,false,false,false,false,false,false,false,false,false,false,false,false,false,false,false,false,false,false,false,false,false,false,false] rfl rfl (any_of HT_.out (by kernel_rfl)) (fun _ _ _ h => h) (Or.inl ⟨by rfl,?_⟩) ?_ ?_
               rotate_left
               ·intro w'
                go_simp
                with_reducible rfl
               rotate_left
               ·simp only [Act.put,sA,sB,sC,i64_w,i32_w]
                rfl
               refine pure_ (i := 2) (N := some 35) (v := ?_) (a' := ?_) #[true,false,true,false,false,false,false,false,false,false,false,false,false,false,false,false,false,false,false,false,false,false,false,false,false] rfl rfl (any_of HT_.out (by kernel_rfl)) (fun _ _ _ h => h) (Or.inl ⟨by rfl,?_⟩) ?_ ?_
               rotate_left
               ·intro w'
                go_simp
                with_reducible rfl
               rotate_left
               ·simp only [Act.put,sA,sB,sC,i64_w,i32_w]
                rfl
               refine pure_ (i := 3) (N := some 36) (v := ?_) (a' := ?_) #[true,false,true,true,false,false,false,false,false,false,false,false,false,false,false,false,false,false,false,false,false,false,false,false,false] rfl rfl (any_of HT_.out (by kernel_rfl)) (fun _ _ _ h => h) (Or.inl ⟨by rfl,?_⟩) ?_ ?_
               rotate_left
               ·intro w'
                go_simp
                with_reducible rfl
               rotate_left
               ·simp only [Act.put,sA,sB,sC,i64_w,i32_w]
                rfl
               refine pure_ (i := 4) (N := some 37) (v := ?_) (a' := ?_) #[true,false,true,true,true,false,false,false,false,false,false,false,false,false,false,false,false,false,false,false,false,false,false,false,false] rfl rfl (any_of HT_.out (by kernel_rfl)) (fun _ _ _ h => h) (Or.inl ⟨by rfl,?_⟩) ?_ ?_
               rotate_left
               ·intro w'
                go_simp
                with_reducible rfl
               rotate_left
               ·simp only [Act.put,sA,sB,sC,i64_w,i32_w]
                rfl
               refine pure_ (i := 8) (N := some 41) (v := ?_) (a' := ?_) #[true,false,true,true,true,false,false,false,true,false,false,false,false,false,false,false,false,false,false,false,false,false,false,false,false] rfl rfl (any_of HT_.out (by kernel_rfl)) (fun _ _ _ h => h) (Or.inl ⟨by rfl,?_⟩) ?_ ?_
               rotate_left
               ·intro w'
                go_simp
                with_reducible rfl
               rotate_left
               ·simp only [Act.put,sA,sB,sC,i64_w,i32_w]
                rfl
               refine pure_ (i := 9) (N := some 42) (v := ?_) (a' := ?_) #[true,false,true,true,true,false,false,false,true,true,false,false,false,false,false,false,false,false,false,false,false,false,false,false,false] rfl rfl (any_of HT_.out (by kernel_rfl)) (fun _ _ _ h => h) (Or.inl ⟨by rfl,?_⟩) ?_ ?_
               rotate_left
               ·intro w'
                go_simp
                with_reducible rfl
               rotate_left
               ·simp only [Act.put,sA,sB,sC,i64_w,i32_w]
                rfl
               refine pure_ (i := 11) (N := some 44) (v := ?_) (a' := ?_) #[true,false,true,true,true,false,false,false,true,true,false,true,false,false,false,false,false,false,false,false,false,false,false,false,false] rfl rfl (any_of HT_.out (by kernel_rfl)) (fun _ _ _ h => h) (Or.inl ⟨by rfl,?_⟩) ?_ ?_
               rotate_left
               ·intro w'
                go_simp
                with_reducible rfl
               rotate_left
               ·simp only [Act.put,sA,sB,sC,i64_w,i32_w]
                rfl
               refine pure_ (i := 12) (N := some 45) (v := ?_) (a' := ?_) #[true,false,true,true,true,false,false,false,true,true,false,true,true,false,false,false,false,false,false,false,false,false,false,false,false] rfl rfl (any_of HT_.out (by kernel_rfl)) (fun _ _ _ h => h) (Or.inl ⟨by rfl,?_⟩) ?_ ?_
               rotate_left
               ·intro w'
                go_simp
                with_reducible rfl
               rotate_left
               ·simp only [Act.put,sA,sB,sC,i64_w,i32_w]
                rfl
               refine pure_ (i := 14) (N := some 47) (v := ?_) (a' := ?_) #[true,false,true,true,true,false,false,false,true,true,false,true,true,false,true,false,false,false,false,false,false,false,false,false,false] rfl rfl (any_of HT_.out (by kernel_rfl)) (fun _ _ _ h => h) (Or.inl ⟨by rfl,?_⟩) ?_ ?_
               rotate_left
               ·intro w'
                go_simp
                with_reducible rfl
               rotate_left
               ·simp only [Act.put,sA,sB,sC,i64_w,i32_w]
                rfl
               refine pure_ (i := 15) (N := some 48) (v := ?_) (a' := ?_) #[true,false,true,true,true,false,false,false,true,true,false,true,true,false,true,true,false,false,false,false,false,false,false,false,false] rfl rfl (any_of HT_.out (by kernel_rfl)) (fun _ _ _ h => h) (Or.inl ⟨by rfl,?_⟩) ?_ ?_
               rotate_left
               ·intro w'
                go_simp
                with_reducible rfl
               rotate_left
               ·simp only [Act.put,sA,sB,sC,i64_w,i32_w]
                rfl
               refine pure_ (i := 17) (N := some 50) (v := ?_) (a' := ?_) #[true,false,true,true,true,false,false,false,true,true,false,true,true,false,true,true,false,true,false,false,false,false,false,false,false] rfl rfl (any_of HT_.out (by kernel_rfl)) (fun _ _ _ h => h) (Or.inl ⟨by rfl,?_⟩) ?_ ?_
               rotate_left
               ·intro w'
                go_simp
                with_reducible rfl
               rotate_left
               ·simp only [Act.put,sA,sB,sC,i64_w,i32_w]
                rfl
               refine pure_ (i := 18) (N := some 51) (v := ?_) (a' := ?_) #[true,false,true,true,true,false,false,false,true,true,false,true,true,false,true,true,false,true,true,false,false,false,false,false,false] rfl rfl (any_of HT_.out (by kernel_rfl)) (fun _ _ _ h => h) (Or.inl ⟨by rfl,?_⟩) ?_ ?_
               rotate_left
               ·intro w'
                go_simp
                with_reducible rfl
               rotate_left
               ·simp only [Act.put,sA,sB,sC,i64_w,i32_w]
                rfl
               refine take_ (i := 1) (N := some 34) (v := ?_) (a' := ?_) #[true,true,true,true,true,false,false,false,true,true,false,true,true,false,true,true,false,true,true,false,false,false,false,false,false] rfl rfl (take_ofW HT_.out HW_.out (by kernel_rfl)) (fun _ _ _ h => h) (Or.inl ⟨by rfl,?_⟩) hHeld ?_ ?_
               rotate_left
               ·rintro w' ⟨s0,s1,s2,s3,s4,s5,s6,s7,s8⟩
                go_simp
                with_reducible rfl
               rotate_left
               ·simp only [Act.put,sA,sB,sC,i64_w,i32_w]
                rfl
               refine take_ (i := 5) (N := some 38) (v := ?_) (a' := ?_) #[true,true,true,true,true,true,false,false,true,true,false,true,true,false,true,true,false,true,true,false,false,false,false,false,false] rfl rfl (take_ofW HT_.out HW_.out (by kernel_rfl)) (fun _ _ _ h => h) (Or.inl ⟨by rfl,?_⟩) hHeld ?_ ?_
               rotate_left
               ·rintro w' ⟨s0,s1,s2,s3,s4,s5,s6,s7,s8⟩
                go_simp
                with_reducible rfl
               rotate_left
               ·simp only [Act.put,sA,sB,sC,i64_w,i32_w]
                rfl
               refine pure_ (i := 6) (N := some 39) (v := ?_) (a' := ?_) #[true,true,true,true,true,true,true,false,true,true,false,true,true,false,true,true,false,true,true,false,false,false,false,false,false] rfl rfl (any_of HT_.out (by kernel_rfl)) (fun _ _ _ h => h) (Or.inl ⟨by rfl,?_⟩) ?_ ?_
               rotate_left
               ·intro w'
                go_simp
                with_reducible rfl
               rotate_left
               ·simp only [Act.put,sA,sB,sC,i64_w,i32_w]
                rfl
               refine take_ (i := 7) (N := some 40) (v := ?_) (a' := ?_) #[true,true,true,true,true,true,true,true,true,true,false,true,true,false,true,true,false,true,true,false,false,false,false,false,false] rfl rfl (take_ofW HT_.out HW_.out (by kernel_rfl)) (fun _ _ _ h => h) (Or.inl ⟨by rfl,?_⟩) hHeld ?_ ?_
               rotate_left
               ·rintro w' ⟨s0,s1,s2,s3,s4,s5,s6,s7,s8⟩
                go_simp
                with_reducible rfl
               rotate_left
               ·simp only [Act.put,sA,sB,sC,i64_w,i32_w]
                rfl
               refine take_ (i := 10) (N := some 43) (v := ?_) (a' := ?_) #[true,true,true,true,true,true,true,true,true,true,true,true,true,false,true,true,false,true,true,false,false,false,false,false,false] rfl rfl (take_ofW HT_.out HW_.out (by kernel_rfl)) (fun _ _ _ h => h) (Or.inl ⟨by rfl,?_⟩) hHeld ?_ ?_
               rotate_left
               ·rintro w' ⟨s0,s1,s2,s3,s4,s5,s6,s7,s8⟩
                go_simp
                with_reducible rfl
               rotate_left
               ·simp only [Act.put,sA,sB,sC,i64_w,i32_w]
                rfl
               refine take_ (i := 13) (N := some 46) (v := ?_) (a' := ?_) #[true,true,true,true,true,true,true,true,true,true,true,true,true,true,true,true,false,true,true,false,false,false,false,false,false] rfl rfl (take_ofW HT_.out HW_.out (by kernel_rfl)) (fun _ _ _ h => h) (Or.inl ⟨by rfl,?_⟩) hHeld ?_ ?_
               rotate_left
               ·rintro w' ⟨s0,s1,s2,s3,s4,s5,s6,s7,s8⟩
                go_simp
                with_reducible rfl
               rotate_left
               ·simp only [Act.put,sA,sB,sC,i64_w,i32_w]
                rfl
               refine take_ (i := 16) (N := some 49) (v := ?_) (a' := ?_) #[true,true,true,true,true,true,true,true,true,true,true,true,true,true,true,true,true,true,true,false,false,false,false,false,false] rfl rfl (take_ofW HT_.out HW_.out (by kernel_rfl)) (fun _ _ _ h => h) (Or.inl ⟨by rfl,?_⟩) hHeld ?_ ?_
               rotate_left
               ·rintro w' ⟨s0,s1,s2,s3,s4,s5,s6,s7,s8⟩
                go_simp
                with_reducible rfl
               rotate_left
               ·simp only [Act.put,sA,sB,sC,i64_w,i32_w]
                rfl
               refine take_ (i := 19) (N := some 52) (v := ?_) (a' := ?_) #[true,true,true,true,true,true,true,true,true,true,true,true,true,true,true,true,true,true,true,true,false,false,false,false,false] rfl rfl (take_ofW HT_.out HW_.out (by kernel_rfl)) (fun _ _ _ h => h) (Or.inl ⟨by rfl,?_⟩) hHeld ?_ ?_
               rotate_left
               ·rintro w' ⟨s0,s1,s2,s3,s4,s5,s6,s7,s8⟩
                go_simp
                with_reducible rfl
               rotate_left
               ·simp only [Act.put,sA,sB,sC,i64_w,i32_w]
                rfl
               refine pure_ (i := 20) (N := some 53) (v := ?_) (a' := ?_) #[true,true,true,true,true,true,true,true,true,true,true,true,true,true,true,true,true,true,true,true,true,false,false,false,false] rfl rfl (any_of HT_.out (by kernel_rfl)) (fun _ _ _ h => h) (Or.inl ⟨by rfl,?_⟩) ?_ ?_
               rotate_left
               ·intro w'
                go_simp
                with_reducible rfl
               rotate_left
               ·simp only [Act.put,sA,sB,sC,i64_w,i32_w]
                rfl
               refine one_ (i := 21) (N := some 54) #[true,true,true,true,true,true,true,true,true,true,true,true,true,true,true,true,true,true,true,true,true,true,false,false,false] rfl rfl (one_of HT_.out (by kernel_rfl)) (by decide) (fun K hK => ?_)
               refine value_ (w1 := ?_) (v := ?_) (by rfl) rfl ?_ ?_
               rotate_left 2
               ·go_simp
                constructor
                ·rfl
                ·rfl
               refine hK.out _ _ ⟨(blk_cell (blk_alloc BK506.out _) 0).trans rfl,(blk_cell (blk_alloc BK506.out _) 1).trans rfl,(blk_cell (blk_alloc BK506.out _) 2).trans rfl,(World.cell?_alloc_lt _ _ _ (World.block_lt_of_cell? _ _ (hHeld.2.2.2.1))).trans (hHeld.2.2.2.1),(World.cell?_alloc_lt _ _ _ (World.block_lt_of_cell? _ _ (hHeld.2.2.2.2.1))).trans (hHeld.2.2.2.2.1),(World.cell?_alloc_lt _ _ _ (World.block_lt_of_cell? _ _ (hHeld.2.2.2.2.2.1))).trans (hHeld.2.2.2.2.2.1),(World.cell?_alloc_lt _ _ _ (World.block_lt_of_cell? _ _ (hHeld.2.2.2.2.2.2.1))).trans (hHeld.2.2.2.2.2.2.1),(World.cell?_alloc_lt _ _ _ (World.block_lt_of_cell? _ _ (hHeld.2.2.2.2.2.2.2.1))).trans (hHeld.2.2.2.2.2.2.2.1),(World.cell?_alloc_lt _ _ _ (World.block_lt_of_cell? _ _ (hHeld.2.2.2.2.2.2.2.2))).trans (hHeld.2.2.2.2.2.2.2.2)⟩ (fun hHeld => ?_)
               clear hK K
               refine norm_ (a' := ?_) ?_ ?_
               rotate_left
               ·show Act.put _ (some 54) _ = _
                simp only [Act.put,sA,sB,sC,i64_w,i32_w]
                rfl
               refine last_ (i := 22) (N := some 55) #[true,true,true,true,true,true,true,true,true,true,true,true,true,true,true,true,true,true,true,true,true,true,true,false,false] rfl rfl (one_of HT_.out (by kernel_rfl)) (by decide) (fun K hK => ?_)
               refine Kd.R_append_step k87 (w0 := w) w.heap.size (by rfl) (.tmp 34) (.tmp 54) 22 87 (.agg #[(.int .i64 0),(.int .i64 0),(.int .i64 0),(.int .i64 0),(.int .i64 0)]) 40 rfl underlying22 info87 rfl (by decide) (by omega) u507002 x507002_1 (⟨rd (rd_L11 t507 x5_1) 0,rd y511 0,rd y511 1,rd y511 2,rd y511 3⟩ : S87) [.int .i64 (rd (rd_L11 t507 x5_1) 0),.int .i64 (rd y511 0),.int .i64 (rd y511 1),.int .i64 (rd y511 2),.int .i64 (rd y511 3)] (fun _ => True) (fun _ => False) rfl rfl ?aP (fun _ hk => hk.elim) ?aF ?aO ?aB ?aS ?aL ?_
               (case aP => exact k87_mkM _ _ _ (⟨rd (rd_L11 t507 x5_1) 0,rd y511 0,rd y511 1,rd y511 2,rd y511 3⟩ : S87))
               (case aB => exact (by repeat (first | (with_reducible first | exact HB.out | apply b_l | apply pw_below_drewN | apply below_drew1 | refine below_set ?_ GE505.out | refine below_set ?_ GE506.out) | exact HB.out)))
               (case aF => exact (fun _ _ => trivial))
               (case aO => exact (by (with_reducible repeat (first | apply Kd.R_alloc | apply Kd.R_drewN | apply Kd.R_drew));exact HO_507002.out))
               (case aS => exact (below_size (by repeat (first | (with_reducible first | exact HB.out | apply b_l | apply pw_below_drewN | apply below_drew1 | refine below_set ?_ GE505.out | refine below_set ?_ GE506.out) | exact HB.out))))
               (case aL => have := LMc20.out;omega)
               intro v524 w24 ho hb hg hat
               rw [← Ny523.out] at ho
               have n0_ := aS (Kd.N_afterv (ok := (fun k_ => k_ ≠ gb505 ∧ k_ ≠ gb506)) (by (with_reducible repeat (first | apply Kd.N_alloc | apply Kd.N_drewN | apply Kd.N_drew));exact Kd.N_mono HO_4.out (fun _ hk => ⟨⟨hk.2.1,hk.2.2⟩,hk.1⟩)) hg hat)
               have n1_ := aS (blk_grown (g := gb505) (o := .cells #[.int .i64 0,.int .i64 0,.slice none 0 0] 24 (0,0)) (by (with_reducible repeat (first | refine blk_drewN ?_ _ | refine blk_drew ?_ | refine blk_alloc ?_ _));exact BK505.out) hg (Kd.R_ne HO_507002.out BK505.out (by decide)))
               have n2_ := aS (blk_grown (g := gb506) (o := .cells #[.int .i64 (wrap64 (a0 + 1)),.int .i64 a0,u507002] 24 (0,0)) (by (with_reducible repeat (first | refine blk_drewN ?_ _ | refine blk_drew ?_ | refine blk_alloc ?_ _));exact BK506.out) hg (Kd.R_ne HO_507002.out BK506.out (by decide)))
               have n3_ := aS (Kd.V_afterv (ok := (fun k_ => some k_ ≠ (.slice (some ad510) t507.length co21 : Value).ownBlock ∧ k_ ≠ gb505 ∧ k_ ≠ gb506)) (by (with_reducible repeat (first | apply Kd.V_alloc | apply Kd.V_drewN | apply Kd.V_drew));exact Kd.V_mono HL510_0.out (fun _ hk => ⟨⟨hk.2,⟨hk.1.2.1,hk.1.2.2⟩⟩,hk.1.1⟩)) hg hat)
               have n4_ := aS (Kd.V_afterv (ok := (fun k_ => some k_ ≠ (.slice (some ad510) t507.length co21 : Value).ownBlock ∧ k_ ≠ gb505 ∧ k_ ≠ gb506)) (by (with_reducible repeat (first | apply Kd.V_alloc | apply Kd.V_drewN | apply Kd.V_drew));exact Kd.V_mono HO515.out (fun _ hk => ⟨⟨hk.2,⟨hk.1.2.1,hk.1.2.2⟩⟩,hk.1.1⟩)) hg hat)
               have n5_ := aS (Kd.V_afterv (ok := (fun k_ => some k_ ≠ (.slice (some ad510) t507.length co21 : Value).ownBlock ∧ k_ ≠ gb505 ∧ k_ ≠ gb506)) (by (with_reducible repeat (first | apply Kd.V_alloc | apply Kd.V_drewN | apply Kd.V_drew));exact Kd.V_mono HL517_0.out (fun _ hk => ⟨⟨hk.2,⟨hk.1.2.1,hk.1.2.2⟩⟩,hk.1.1⟩)) hg hat)
               have n6_ := aS (hb)
               have n7_ := aS (ho)
               clear HO_4
               clear BK505
               clear BK506
               clear HL510_0
               clear HO515
               clear HL517_0
               clear HB
               clear HO_507002
               have HO_4 := n0_
               have BK505 := n1_
               have BK506 := n2_
               have HL510_0 := n3_
               have HO515 := n4_
               have HL517_0 := n5_
               have HB := n6_
               have HO525 := n7_
               clear n0_ n1_ n2_ n3_ n4_ n5_ n6_ n7_
               clear ho hb hg hat
               obtain ⟨Ao25,co25,eo25⟩ := Kd.R_slice HO525.out
               (first | subst eo25 | (injection eo25 with f1_ f2_ f3_;have f4_ := f1_.symm;have f5_ := f3_.symm;clear f1_ f2_ f3_;subst f4_;subst f5_))
               refine hK.out _ _ ?_
               clear hK K
               refine norm_ (a' := ?_) ?_ ?_
               rotate_left
               ·show Act.put _ (some 55) _ = _
                simp only [Act.put,sA,sB,sC,i64_w,i32_w]
                rfl
               refine pure_ (i := 23) (N := some 56) (v := ?_) (a' := ?_) #[true,true,true,true,true,true,true,true,true,true,true,true,true,true,true,true,true,true,true,true,true,true,true,true,false] rfl rfl (any_of HT_.out (by kernel_rfl)) (fun _ _ _ h => h) (Or.inl ⟨by rfl,?_⟩) ?_ ?_
               rotate_left
               ·intro w'
                go_simp
                with_reducible rfl
               rotate_left
               ·simp only [Act.put,sA,sB,sC,i64_w,i32_w]
                rfl
               refine last_ (i := 24) (N := none) #[true,true,true,true,true,true,true,true,true,true,true,true,true,true,true,true,true,true,true,true,true,true,true,true,true] rfl rfl (one_of HT_.out (by kernel_rfl)) (by decide) (fun K hK => ?_)
               have hs26 : w24.cell? ⟨gb506,2,none⟩ = some (u507002) := (blk_cell BK506.out 2).trans rfl
               have hfs26 := blk_frozen BK506.out 2
               have hns26_0 := NB505_506.out
               have hms26_0 := NB506_505.out
               refine skip_ (w1 := ?_) (by rfl) rfl ?_ ?_
               rotate_left
               ·go_simp
                rfl
               refine hK.out _ _ ?_
               clear hK K
               refine done_ (done_of HT_.out (by kernel_rfl)) ?_
               try go_wp2
               go_roundg k1
               case measure => have := HK1.out;omega
               case rel => exact ⟨(wrap64 (x5_1 + 1)),(y523),(.slice Ao25 y523.length co25),(by first | rfl | (simp;done) | (simp [*];done)),H',⟨by have := HK1.out;omega⟩,⟨by (with_reducible repeat (first | apply Kd.N_alloc | apply Kd.N_drewN | apply Kd.N_drew));exact Kd.N_mono (Kd.N_far (p := ⟨gb506,2,none⟩) (Kd.N_mono HO_4.out (fun k_ hk => (⟨hk,hk.1.2⟩ : _ ∧ k_ ≠ gb506))) (fun _ hk => hk.2) (.slice Ao25 y523.length co25)) (fun _ hk => ⟨hk.1.2,⟨hk.1.1.1,hk.1.1.2⟩⟩)⟩,⟨by (with_reducible repeat (first | apply Kd.R_alloc | apply Kd.R_drewN | apply Kd.R_drew));exact Kd.R_mono (Kd.R_far (p := ⟨gb506,2,none⟩) (Kd.R_types HO525.out BK506.out (by decide)) (fun _ hk => hk.2) (.slice Ao25 y523.length co25)) (fun _ hk => trivial)⟩,⟨by (with_reducible repeat (first | refine blk_drewN ?_ _ | refine blk_drew ?_ | refine blk_alloc ?_ _));refine blk_far ?_ NB505_506.out _;(with_reducible repeat (first | refine blk_drewN ?_ _ | refine blk_drew ?_ | refine blk_alloc ?_ _));exact BK505.out⟩,⟨by (with_reducible repeat (first | refine blk_drewN ?_ _ | refine blk_drew ?_ | refine blk_alloc ?_ _));refine blk_put (cs := #[.int .i64 (wrap64 (a0 + 1)),.int .i64 a0,u507002]) ?_ 2 _ rfl;(with_reducible repeat (first | refine blk_drewN ?_ _ | refine blk_drew ?_ | refine blk_alloc ?_ _));exact BK506.out⟩,⟨by repeat (first | (with_reducible first | exact HB.out | apply b_l | apply pw_below_drewN | apply below_drew1 | refine below_set ?_ GE505.out | refine below_set ?_ GE506.out) | exact HB.out)⟩⟩
              ·rw [if_neg c20] at H
               exact absurd H (by simp)
             ·rw [if_neg c19] at H
              exact absurd H (by simp)
            ·rw [if_neg c18] at H
             exact absurd H (by simp)
           ·rw [if_neg c17] at H
            exact absurd H (by simp)
          ·rw [if_neg c16] at H
           exact absurd H (by simp)
         ·rw [if_neg c15] at H
          have c15b0 : decide (0 < (rd y511 0)) = false := d_F c15
          clear c15
          have H' := aS H
          clear H
          obtain ⟨Ao27,co27,eo27⟩ := Kd.N_slice HO_4.out
          subst eo27
          have p510 : 0 ≤ (x5_1 : Int) := of_decide_eq_true (by first | (with_reducible assumption) | assumption)
          have q510 : x5_1 < (t507.length : Int) := of_decide_eq_true (by first | (with_reducible assumption) | assumption)
          obtain ⟨ad510,A510_0,c510_0,e510,hx510_0,hl510_0,hi510_0⟩ := at_L11 (Kd.N_reads' HO_4.out).2.2 x5_1 p510 q510
          cases e510
          obtain ⟨ce510,hce510,hMe510,hcc510⟩ := Kd.N_get HO_4.out [] x5_1 p510 (by first | exact q510 | exact of_decide_eq_true (by first | (with_reducible assumption) | assumption) | (have e_ := (Kd.N_reads' HO_4.out).1;omega))
          obtain ⟨ua510_0,uc510_0,rfl,ul510_0,ge510_0⟩ := Kd.FK_slice_open hMe510
          have hv510_0 := hcc510 0 _ rfl
          rw [Nat.add_zero,show ((Kd.slice 3 (Kd.int .i64))).sz = 1 from rfl,Nat.mul_one] at hv510_0
          replace hv510_0 := Option.some.inj (hv510_0.symm.trans hx510_0)
          injection hv510_0 with hva_ hvn_ hvc_
          rw [hva_] at ge510_0
          rw [hvc_] at ul510_0
          have HL510_0 := aS (show Kd.V (Kd.int .i64) 3 _ w.heap.size _ _ (rd_L11 t507 x5_1) from Kd.V_mk ul510_0 ge510_0)
          clear hva_ hvn_ hvc_ ge510_0 ul510_0
          clear hcc510 hce510
          have HR510_0 := aS hi510_0
          have HC510_0 := aS hl510_0
          clear hi510_0 hl510_0
          replace p510 := eq_true p510
          replace q510 := eq_true q510
          have q28 : ((wrap64 (5 + (wrap64 (4 * a0)))) : Int) ≤ (((rd_L11 t507 x5_1).length : Int) : Int) := of_decide_eq_true (by first | (with_reducible assumption) | assumption)
          obtain ⟨i028,hi028,_,hsz28,_⟩ := info_parts info3
          have hroom28 : (rd_L11 t507 x5_1).length ≤ c510_0 := HC510_0.out
          have hC28 : Kd.F (Kd.int .i64) _ _ A510_0 (rd_L11 t507 x5_1).length (rd_L11 t507 x5_1) := (Kd.V_at (base := w.heap.size) HL510_0.out).2.2
          have ql28 : ((ji10) : Int) ≤ ((wrap64 (5 + (wrap64 (4 * a0)))) : Int) := of_decide_eq_true (by first | (with_reducible assumption) | assumption)
          have q028 : (0 : Int) ≤ ((ji10) : Int) := of_decide_eq_true (by first | (with_reducible assumption) | assumption)
          have hcut28 := cut_mid (P := prog) 29 3 .i64 .i64 underlying29 hi028 1 hsz28 A510_0 (rd_L11 t507 x5_1).length c510_0 (ji10) (wrap64 (5 + (wrap64 (4 * a0)))) q028 ql28 q28 hroom28
          have hr28 := Kd.F_mid (lo := ((ji10) : Int).toNat) (hi := ((wrap64 (5 + (wrap64 (4 * a0)))) : Int).toNat) (c := c510_0) hC28 (by omega) (by omega) hroom28
          obtain ⟨A28,hA28⟩ : ∃ A1,A1 = (if c510_0 = ((ji10) : Int).toNat then A510_0 else (A510_0 : Option Addr).map (·.add (((ji10) : Int).toNat * 1))) := ⟨_,rfl⟩
          obtain ⟨c28,hc28⟩ : ∃ c1,c1 = c510_0 - ((ji10) : Int).toNat := ⟨_,rfl⟩
          have hy28 : y511.length = ((wrap64 (5 + (wrap64 (4 * a0)))) : Int).toNat - ((ji10) : Int).toNat := (by rw [Ny511.out,List.length_drop,List.length_take] <;> omega)
          rw [show ((rd_L11 t507 x5_1).take ((wrap64 (5 + (wrap64 (4 * a0)))) : Int).toNat).drop ((ji10) : Int).toNat = y511 from Ny511.out.symm] at hr28
          replace hr28 : Kd.F (Kd.int .i64) _ _ A28 y511.length y511 := (by rw [hA28];exact hr28)
          rw [← hy28,← hA28,← hc28] at hcut28
          have HO515 := aS (show Kd.V (Kd.int .i64) 3 _ w.heap.size _ (.slice A28 y511.length c28) y511 from Kd.V_mk (by rw [hy28,hc28];exact Nat.sub_le_sub_right (Nat.le_trans (by omega) hroom28) _) hr28)
          have HC515 := aS (show y511.length ≤ c28 from by rw [hy28,hc28];exact Nat.sub_le_sub_right (Nat.le_trans (by omega) hroom28) _)
          clear hr28 hC28 hroom28 hi028 hsz28 hc28
          have KY28 := aS hy28
          have KA28 := aS hA28
          clear hy28 hA28
          replace q28 := eq_true q28
          have p516 : 0 ≤ (0 : Int) := (by omega)
          have q516 : 0 < (y511.length : Int) := of_decide_eq_true (by first | (with_reducible assumption) | assumption)
          obtain ⟨ad516,e516,hx516_0⟩ := Kd.at_int (Kd.V_reads' HO515.out).2.2 0 p516 q516
          cases e516
          have qi516 : (0 < y511.length) = True := eq_true (by omega)
          (try rw [show ((0 : Int)).toNat = 0 from rfl] at hx516_0)
          (try rw [Addr.add_zero'] at hx516_0)
          replace p516 := eq_true p516
          replace q516 := eq_true q516
          go_wp2
          go_roundg k1
          case measure => have := HK1.out;omega
          case rel => exact ⟨(wrap64 (x5_1 + 1)),(x507002_1),(u507002),(by first | rfl | (simp;done) | (simp [*];done)),H',⟨by have := HK1.out;omega⟩,⟨by (with_reducible repeat (first | apply Kd.N_alloc | apply Kd.N_drewN | apply Kd.N_drew));exact HO_4.out⟩,⟨by (with_reducible repeat (first | apply Kd.R_alloc | apply Kd.R_drewN | apply Kd.R_drew));exact HO_507002.out⟩,⟨by (with_reducible repeat (first | refine blk_drewN ?_ _ | refine blk_drew ?_ | refine blk_alloc ?_ _));exact BK505.out⟩,⟨by (with_reducible repeat (first | refine blk_drewN ?_ _ | refine blk_drew ?_ | refine blk_alloc ?_ _));exact BK506.out⟩,⟨by repeat (first | (with_reducible first | exact HB.out | apply b_l | apply pw_below_drewN | apply below_drew1 | refine below_set ?_ GE505.out | refine below_set ?_ GE506.out) | exact HB.out)⟩⟩
        ·rw [if_neg c14] at H
         exact absurd H (by simp)
       ·rw [if_neg c13] at H
        exact absurd H (by simp)
      ·rw [if_neg c12] at H
       exact absurd H (by simp)
     ·rw [if_neg c11] at H
      exact absurd H (by simp)
    ·rw [if_neg c9] at H
     exact absurd H (by simp)
   ·rw [if_neg c8] at H
    have c8b0 : decide (x5_1 < (t507.length : Int)) = false := d_F c8
    clear c8
    simp only [Option.some.injEq,Prod.mk.injEq] at H
    obtain ⟨rfl,rfl,rfl⟩ := H
    obtain ⟨Ao29,co29,eo29⟩ := Kd.N_slice HO_4.out
    subst eo29
    have hnb30 := NB506_505.out
    have hnc30 := NB505_506.out
    have hcz31_0 : wr.cell? ⟨gb506,0,none⟩ = some (.int .i64 (wrap64 (a0 + 1))) := (blk_cell BK506.out 0).trans rfl
    have hcz31_1 : wr.cell? ⟨gb506,1,none⟩ = some (.int .i64 a0) := (blk_cell BK506.out 1).trans rfl
    have hcz31_2 : wr.cell? ⟨gb506,2,none⟩ = some (u507002) := (blk_cell BK506.out 2).trans rfl
    have hfz31_0 := blk_frozen BK506.out 0
    have hfz31_1 := blk_frozen BK506.out 1
    have hfz31_2 := blk_frozen BK506.out 2
    have hcz32_0 : wr.cell? ⟨gb505,0,none⟩ = some (.int .i64 0) := (blk_cell BK505.out 0).trans rfl
    have hcz32_1 : wr.cell? ⟨gb505,1,none⟩ = some (.int .i64 0) := (blk_cell BK505.out 1).trans rfl
    have hcz32_2 : wr.cell? ⟨gb505,2,none⟩ = some (.slice none 0 0) := (blk_cell BK505.out 2).trans rfl
    have hfz32_0 := blk_frozen BK505.out 0
    have hfz32_1 := blk_frozen BK505.out 1
    have hfz32_2 := blk_frozen BK505.out 2
    obtain ⟨Ao33,co33,eo33⟩ := Kd.R_slice HO_507002.out
    subst eo33
    go_wp2
    refine bodyPost_ret (results_cell_row rfl _ _ gb505 24 #[.int .i64 (wrap64 (a0 + 1)),.int .i64 a0,.slice Ao33 x507002_1.length co33] (0,0) _ rfl (by (with_reducible repeat (first | refine blk_drewN ?_ _ | refine blk_drew ?_ | refine blk_alloc ?_ _));refine blk_put (cs := #[.int .i64 (wrap64 (a0 + 1)),.int .i64 a0,.slice none 0 0]) ?_ 2 _ rfl;(with_reducible repeat (first | refine blk_drewN ?_ _ | refine blk_drew ?_ | refine blk_alloc ?_ _));refine blk_put (cs := #[.int .i64 (wrap64 (a0 + 1)),.int .i64 0,.slice none 0 0]) ?_ 1 _ rfl;(with_reducible repeat (first | refine blk_drewN ?_ _ | refine blk_drew ?_ | refine blk_alloc ?_ _));refine blk_put (cs := #[.int .i64 0,.int .i64 0,.slice none 0 0]) ?_ 0 _ rfl;(with_reducible repeat (first | refine blk_drewN ?_ _ | refine blk_drew ?_ | refine blk_alloc ?_ _));exact BK505.out) underlying24 rfl (by kernel_rfl)) rfl ?_
    exact ⟨_,by first | rfl | (simp [errW_none,errW_some] <;> rfl) | (simp [*,errW_none,errW_some] <;> rfl),by (with_reducible repeat (first | apply Kd.R_alloc | apply Kd.R_drewN | apply Kd.R_drew));exact Kd.R_mono (Kd.R_far (p := ⟨gb505,2,none⟩) (Kd.R_far (p := ⟨gb505,1,none⟩) (Kd.R_far (p := ⟨gb505,0,none⟩) (Kd.R_types HO_507002.out BK505.out (by decide)) (fun _ hk => hk.2) (.int .i64 (wrap64 (a0 + 1)))) (fun _ hk => hk.2) (.int .i64 a0)) (fun _ hk => hk.2) (.slice Ao33 x507002_1.length co33)) (fun _ hk => trivial),by repeat (first | (with_reducible first | exact HB.out | apply b_l | apply pw_below_drewN | apply below_drew1 | refine below_set ?_ GE505.out | refine below_set ?_ GE506.out) | exact HB.out)⟩
def groatref14_Lossless.f  : Option (List Int) := some (([2,3,4,7,11,12,14,23,32,35,37,38,41,42,49,52,55,64,70,102,128] : List Int))
set_option maxHeartbeats 8000000 in
theorem groatref14_Lossless.calls  (r : List Int) (w : World) (h : groatref14_Lossless.f  = some r) :
  Calls prog 23 #[] w fun e w' => ∃ v0_ : Value,e = .returned (v0_) ∧ Kd.R (Kd.int .i64) 3 w' w.heap.size (fun _ => True) v0_ r ∧ Below w.heap.size w w' := by
 have HB := aS (Below.refl w.heap.size w)
 have H : (some (([2,3,4,7,11,12,14,23,32,35,37,38,41,42,49,52,55,64,70,102,128] : List Int))) = some r := h
 clear h
 obtain ⟨y526,hy526⟩ : ∃ y_ : List Int,y_ = (([2,3,4,7,11,12,14,23,32,35,37,38,41,42,49,52,55,64,70,102,128] : List Int)) := ⟨_,rfl⟩
 replace H : (some y526) = some r := by first | (rw [hy526];with_reducible exact H) | (have H2_ := (Option.bind_some _ _).symm.trans H;rw [hy526];with_reducible exact H2_) | (have H2_ := (Option.bind_some _ _).symm.trans H;with_reducible exact H2_) | with_reducible exact H | (rw [hy526];exact H) | exact H
 have Ny526 := aS hy526
 clear hy526
 obtain rfl := Option.some.inj H
 go_enter func23,ntmps23
 go_wp2_with (first | ((with_reducible refine gate_dst (N := 1) rfl ?_);refine Kd.R_lit (Kd.int .i64) _ 3 ?hg (N := 1) ?hd (xs := ([2,3,4,7,11,12,14,23,32,35,37,38,41,42,49,52,55,64,70,102,128] : List Int)) (inner := [.int .i64 2,.int .i64 3,.int .i64 4,.int .i64 7,.int .i64 11,.int .i64 12,.int .i64 14,.int .i64 23,.int .i64 32,.int .i64 35,.int .i64 37,.int .i64 38,.int .i64 41,.int .i64 42,.int .i64 49,.int .i64 52,.int .i64 55,.int .i64 64,.int .i64 70,.int .i64 102,.int .i64 128]) (ok := fun _ => True) (okp := fun _ => True) ?hr ?hp (fun _ hk => hk) trivial (Below.refl _ _) (Nat.le_refl _) (by simp) ?_;(case hd => rfl);(case hg => rfl);(case hr => first | (go_simp;done) | (go_simp;rfl));(case hp => exact (Reps.one (show Kd.M (Kd.int .i64) _ _ _ 2 [.int .i64 2] from rfl) (Reps.one (show Kd.M (Kd.int .i64) _ _ _ 3 [.int .i64 3] from rfl) (Reps.one (show Kd.M (Kd.int .i64) _ _ _ 4 [.int .i64 4] from rfl) (Reps.one (show Kd.M (Kd.int .i64) _ _ _ 7 [.int .i64 7] from rfl) (Reps.one (show Kd.M (Kd.int .i64) _ _ _ 11 [.int .i64 11] from rfl) (Reps.one (show Kd.M (Kd.int .i64) _ _ _ 12 [.int .i64 12] from rfl) (Reps.one (show Kd.M (Kd.int .i64) _ _ _ 14 [.int .i64 14] from rfl) (Reps.one (show Kd.M (Kd.int .i64) _ _ _ 23 [.int .i64 23] from rfl) (Reps.one (show Kd.M (Kd.int .i64) _ _ _ 32 [.int .i64 32] from rfl) (Reps.one (show Kd.M (Kd.int .i64) _ _ _ 35 [.int .i64 35] from rfl) (Reps.one (show Kd.M (Kd.int .i64) _ _ _ 37 [.int .i64 37] from rfl) (Reps.one (show Kd.M (Kd.int .i64) _ _ _ 38 [.int .i64 38] from rfl) (Reps.one (show Kd.M (Kd.int .i64) _ _ _ 41 [.int .i64 41] from rfl) (Reps.one (show Kd.M (Kd.int .i64) _ _ _ 42 [.int .i64 42] from rfl) (Reps.one (show Kd.M (Kd.int .i64) _ _ _ 49 [.int .i64 49] from rfl) (Reps.one (show Kd.M (Kd.int .i64) _ _ _ 52 [.int .i64 52] from rfl) (Reps.one (show Kd.M (Kd.int .i64) _ _ _ 55 [.int .i64 55] from rfl) (Reps.one (show Kd.M (Kd.int .i64) _ _ _ 64 [.int .i64 64] from rfl) (Reps.one (show Kd.M (Kd.int .i64) _ _ _ 70 [.int .i64 70] from rfl) (Reps.one (show Kd.M (Kd.int .i64) _ _ _ 102 [.int .i64 102] from rfl) (Reps.one (show Kd.M (Kd.int .i64) _ _ _ 128 [.int .i64 128] from rfl) (Reps.none _ _)))))))))))))))))))))));intro v527 w1 ho2 hb hg_ hnew_;clear hg_ hnew_;(first | rw [← Ny526.out] at ho2 | (simp only [Int.reduceToNat] at ho2;rw [← Ny526.out] at ho2));have n0_ := aS (Kd.R_lower ho2 (below_size (by repeat (first | (with_reducible first | exact HB.out | apply b_l | apply pw_below_drewN | apply below_drew1) | exact HB.out))));have n1_ := aS (b_s (by repeat (first | (with_reducible first | exact HB.out | apply b_l | apply pw_below_drewN | apply below_drew1) | exact HB.out)) hb);clear HB;have HO528 := n0_;have HB := n1_;clear n0_ n1_;clear hb ho2))
 go_ret
 exact ⟨_,by first | rfl | (simp [errW_none,errW_some] <;> rfl) | (simp [*,errW_none,errW_some] <;> rfl),by (with_reducible repeat (first | apply Kd.R_alloc | apply Kd.R_drewN | apply Kd.R_drew));exact HO528.out,by repeat (first | (with_reducible first | exact HB.out | apply b_l | apply pw_below_drewN | apply below_drew1) | exact HB.out)⟩
end Go.Proofs.YtgbmnpgaddhfpaaGreatDoor.T
