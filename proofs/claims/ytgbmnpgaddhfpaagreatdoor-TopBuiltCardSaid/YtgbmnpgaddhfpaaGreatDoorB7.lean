/- Walks and plain laws beneath the law TopBuilt. No conditions but what each statement names. -/
import Derived.Test.YtgbmnpgaddhfpaaGreatDoorB4
import Derived.Test.YtgbmnpgaddhfpaaGreatDoorB5
set_option linter.unusedVariables false
set_option linter.unusedSimpArgs false
namespace Go.Proofs.YtgbmnpgaddhfpaaGreatDoor.T
open Go.RowKit Go.Proofs.YtgbmnpgaddhfpaaGreatDoorW.PrintWords Go.Proofs.YtgbmnpgaddhfpaaGreatDoorW.PrintLast Go.Proofs.YtgbmnpgaddhfpaaGreatDoorW.PrintMore
attribute [local go_sem] max2_int min2_int max_two min_two
open Tryz
set_option maxRecDepth 100000
def groatref24_kept.l0 : Nat → List (S94) → List Int → Int → Option ((List (S94)))
 | 0,_,_,_ => none
 | k + 1,x1,x2,x3 => if x3 < (x2.length : Int) then (if 0 ≤ x3 then (if (rd x2 x3) = 12 then (if x1.length < 2199023255552 then (groatref24_kept.l0 k (x1 ++ [(⟨4,rd x2 x3,rd x2 x3,(⟨#[]⟩ : ByteArray),([] : List (S66))⟩ : S94)]) x2 (wrap64 (x3 + 1))) else (none)) else (if x1.length < 2199023255552 then (groatref24_kept.l0 k (x1 ++ [(⟨1,rd x2 x3,rd x2 x3,(⟨#[]⟩ : ByteArray),([] : List (S66))⟩ : S94)]) x2 (wrap64 (x3 + 1))) else (none))) else (none)) else (some x1)
def groatref24_kept.f (k : Nat)  : Option ((List (S94))) := (groatref14_Lossless.f).bind fun t532 => (groatref24_kept.l0 k (([] : List (S94))) t532 0)
def groatref24_kept.T9 : Bool × List (List Nat × List Nat) := (true,[([],[]),([],[]),([],[]),([],[]),([2,3],[2,3]),([4],[4]),([],[]),([],[]),([6,7],[6,7]),([8],[8]),([1,5,9],[1,5,9]),([10],[10]),([0,11],[0,11]),([12,12,0,1,2,3,4,5,6,7,8,9,10,11,12],[0,12])])
def groatref24_kept.B9 : List Nat := [0,0,0,0,12,28,0,0,192,448,1022,2046,4095,8191]
theorem groatref24_kept.tab9 : rtab .any (opsOf Tryz.f62 9) = groatref24_kept.T9 := by kernel_rfl
theorem groatref24_kept.bits9 : waitsOk groatref24_kept.T9.2 groatref24_kept.B9 = true := by kernel_rfl
set_option maxHeartbeats 8000000 in
theorem groatref24_kept.calls (k : Nat)  (r : List (S94)) (w : World) (h : groatref24_kept.f k  = some r) :
  Calls prog 62 #[] w fun e w' => ∃ v0_ : Value,e = .returned (v0_) ∧ Kd.S k94 94 w' w.heap.size (fun _ => True) v0_ r ∧ Below w.heap.size w w' := by
 have hu94 := underlying94
 have HB := aS (Below.refl w.heap.size w)
 have H : ((groatref14_Lossless.f).bind fun t532 => (groatref24_kept.l0 k (([] : List (S94))) t532 0)) = some r := h
 clear h
 obtain ⟨y529,hy529⟩ : ∃ y_ : List (S94),y_ = (([] : List (S94))) := ⟨_,rfl⟩
 replace H : ((groatref14_Lossless.f).bind fun t532 => (groatref24_kept.l0 k y529 t532 0)) = some r := by first | (rw [hy529];with_reducible exact H) | (have H2_ := (Option.bind_some _ _).symm.trans H;rw [hy529];with_reducible exact H2_) | (have H2_ := (Option.bind_some _ _).symm.trans H;with_reducible exact H2_) | with_reducible exact H | (rw [hy529];exact H) | exact H
 have Ny529 := aS hy529
 clear hy529
 replace H := Option.bind_eq_some_iff.mp H
 obtain ⟨t532,A10,H⟩ := H
 replace H : (groatref24_kept.l0 k y529 t532 0) = some r := H
 have A1 := aS A10
 clear A10
 have H' := aS H
 clear H
 go_enter func62,ntmps62
 go_wp2_with (first | ((with_reducible refine gate_dst (N := 5) rfl ?_);refine Kd.S_lit k94 _ 94 ?hg (N := 5) ?hd (xs := ([] : List (S94))) (inner := []) (ok := fun _ => True) (okp := fun _ => True) ?hr ?hp (fun _ hk => hk) trivial (Below.refl _ _) (Nat.le_refl _) (by simp) ?_;(case hd => rfl);(case hg => rfl);(case hr => first | (go_simp;done) | (go_simp;rfl));(case hp => exact (Reps.none _ _));intro v530 w2 ho3 hb hg_ hnew_;clear hg_ hnew_;(first | rw [← Ny529.out] at ho3 | (simp only [Int.reduceToNat] at ho3;rw [← Ny529.out] at ho3));have n0_ := aS (Kd.S_lower ho3 (below_size (by repeat (first | (with_reducible first | exact HB.out | apply b_l | apply pw_below_drewN | apply below_drew1) | exact HB.out))));have n1_ := aS (b_s (by repeat (first | (with_reducible first | exact HB.out | apply b_l | apply pw_below_drewN | apply below_drew1) | exact HB.out)) hb);clear HB;have HO531 := n0_;have HB := n1_;clear n0_ n1_;clear hb ho3) | ((with_reducible refine gate_callee (f := 23) rfl ?_);refine goesL_ (some 6) rfl rfl func23 (by kernel_rfl) rfl #[] rfl (by (try simp only [List.map_toArray,List.map_cons,List.map_nil]);first | done | rfl | (simp only [List.length_drop,List.length_take];rfl)) ?_;(with_reducible refine (groatref14_Lossless.calls  t532 _ A1.out).mono ?_);rintro e w4 ⟨v533,rfl,ho0,hb⟩;refine ⟨_,rfl,?_⟩;have n0_ := aS (Kd.S_below (by (with_reducible repeat (first | apply Kd.S_alloc | apply Kd.S_drewN | apply Kd.S_drew));exact HO531.out) hb);have n1_ := aS (Kd.R_lower ho0 (below_size (by repeat (first | (with_reducible first | exact HB.out | apply b_l | apply pw_below_drewN | apply below_drew1) | exact HB.out))));have n2_ := aS (b_s (by repeat (first | (with_reducible first | exact HB.out | apply b_l | apply pw_below_drewN | apply below_drew1) | exact HB.out)) hb);clear HO531;clear HB;have HO531 := n0_;have HO534 := n1_;have HB := n2_;clear n0_ n1_ n2_;(try clear hb);(try clear hb2);(try clear hk);(try clear hi);(try clear ho0)))
 go_loopg [1,3] k (fun kq v1 v3 w' => ∃ (x1_1 : List (S94)) (x3_1 : Int),v3 = .int .i64 x3_1 ∧ Aside0 (groatref24_kept.l0 kq x1_1 t532 x3_1 = some r) ∧ Aside0 (kq ≤ k) ∧ Aside0 (Kd.S k94 94 w' w.heap.size (fun _ => True) v1 x1_1) ∧ Aside0 (Kd.R (Kd.int .i64) 3 w' w.heap.size (fun _ => True) v533 t532) ∧ Aside0 (Below w.heap.size w w'))
 case atStart => exact ⟨(y529),(0),(by first | rfl | (simp;done) | (simp [*];done)),H',⟨Nat.le_refl _⟩,⟨by (with_reducible repeat (first | apply Kd.S_alloc | apply Kd.S_drewN | apply Kd.S_drew));exact HO531.out⟩,⟨by (with_reducible repeat (first | apply Kd.R_alloc | apply Kd.R_drewN | apply Kd.R_drew));exact HO534.out⟩,⟨by repeat (first | (with_reducible first | exact HB.out | apply b_l | apply pw_below_drewN | apply below_drew1) | exact HB.out)⟩⟩
 case round =>
  clear H'
  try clear c2
  try clear p2
  obtain ⟨x1_1,x3_1,rfl,HA,HK1,HO_1,HO_2,HB⟩ := hrel
  cases gk with
  | zero => exact absurd HA.out (by simp [groatref24_kept.l0])
  | succ k1 =>
   have H := HA.out
   clear HA
   simp only [groatref24_kept.l0] at H
   by_cases c5 : x3_1 < (t532.length : Int)
   ·rw [if_pos c5] at H
    have c5b0 : decide (x3_1 < (t532.length : Int)) = true := d_T c5
    clear c5
    by_cases c6 : 0 ≤ x3_1
    ·rw [if_pos c6] at H
     have c6b0 : decide (0 ≤ x3_1) = true := d_T c6
     clear c6
     by_cases c7 : (rd t532 x3_1) = 12
     ·rw [if_pos c7] at H
      have c7b0 : ((rd t532 x3_1) == 12) = true := beq_iff_eq.mpr c7
      have c7b1 : ((rd t532 x3_1) != 12) = false := bne_eq_false_iff_eq.mpr c7
      clear c7
      by_cases c8 : x1_1.length < 2199023255552
      ·rw [if_pos c8] at H
       have LMc8 := aS c8
       clear c8
       obtain ⟨y538,hy538⟩ : ∃ y_ : List (S94),y_ = (x1_1 ++ [(⟨4,rd t532 x3_1,rd t532 x3_1,(⟨#[]⟩ : ByteArray),([] : List (S66))⟩ : S94)]) := ⟨_,rfl⟩
       replace H : (groatref24_kept.l0 k1 y538 t532 (wrap64 (x3_1 + 1))) = some r := by first | (rw [hy538];with_reducible exact H) | (have H2_ := (Option.bind_some _ _).symm.trans H;rw [hy538];with_reducible exact H2_) | (have H2_ := (Option.bind_some _ _).symm.trans H;with_reducible exact H2_) | with_reducible exact H | (rw [hy538];exact H) | exact H
       have Ny538 := aS hy538
       clear hy538
       have H' := aS H
       clear H
       obtain ⟨Ao9,co9,eo9⟩ := Kd.R_slice HO_2.out
       subst eo9
       have p535 : 0 ≤ (x3_1 : Int) := of_decide_eq_true (by first | (with_reducible assumption) | assumption)
       have q535 : x3_1 < (t532.length : Int) := of_decide_eq_true (by first | (with_reducible assumption) | assumption)
       obtain ⟨ad535,e535,hx535_0⟩ := Kd.at_int (Kd.R_reads' HO_2.out).2.2 x3_1 p535 q535
       cases e535
       replace p535 := eq_true p535
       replace q535 := eq_true q535
       try go_wp2
       have n0_ := aS (Kd.S_drew HO_1.out)
       have n1_ := aS (Kd.R_drew HO_2.out)
       have n2_ := aS (below_drew1 HB.out)
       clear HO_1
       clear HO_2
       clear HB
       have HO_1 := n0_
       have HO_2 := n1_
       have HB := n2_
       clear n0_ n1_ n2_
       have p536 : 0 ≤ (x3_1 : Int) := of_decide_eq_true (by first | (with_reducible assumption) | assumption)
       have q536 : x3_1 < (t532.length : Int) := of_decide_eq_true (by first | (with_reducible assumption) | assumption)
       obtain ⟨ad536,e536,hx536_0⟩ := Kd.at_int (Kd.R_reads' HO_2.out).2.2 x3_1 p536 q536
       obtain rfl : ad535 = ad536 := (by injection e536)
       replace p536 := eq_true p536
       replace q536 := eq_true q536
       have p537 : 0 ≤ (x3_1 : Int) := of_decide_eq_true (by first | (with_reducible assumption) | assumption)
       have q537 : x3_1 < (t532.length : Int) := of_decide_eq_true (by first | (with_reducible assumption) | assumption)
       obtain ⟨ad537,e537,hx537_0⟩ := Kd.at_int (Kd.R_reads' HO_2.out).2.2 x3_1 p537 q537
       obtain rfl : ad535 = ad537 := (by injection e537)
       replace p537 := eq_true p537
       replace q537 := eq_true q537
       refine start_ (n := 14) (S := fun w' => w'.cell? (ad535.add (x3_1).toNat) = some (.int .i64 (rd t532 x3_1)) ∧ w'.cell? (ad535.add (x3_1).toNat) = some (.int .i64 (rd t532 x3_1))) (ds := [11,12]) #[false,false,false,false,false,false,false,false,false,false,false,false,false,false] (by kernel_rfl) rfl rfl ⟨hx536_0,hx537_0⟩ (fun hHeld => ?_);refine with_tabW groatref24_kept.tab9 groatref24_kept.bits9 (fun HT_ HW_ => ?_)
       generalize wr.drew = w10 at HO_1 HO_2 HB hx536_0 hx537_0 hHeld ⊢
       refine pure_ (i := 0) (N := some 18) (v := ?_) (a' := ?_) #[true,false,false,false,false,false,false,false,false,false,false,false,false,false] rfl rfl (any_of HT_.out (by kernel_rfl)) (fun _ _ _ h => h) (Or.inl ⟨by rfl,?_⟩) ?_ ?_
       rotate_left
       ·intro w'
        go_simp
        with_reducible rfl
       rotate_left
       ·simp only [Act.put,sA,sB,sC,i64_w,i32_w]
        rfl
       refine pure_ (i := 1) (N := some 19) (v := ?_) (a' := ?_) #[true,true,false,false,false,false,false,false,false,false,false,false,false,false] rfl rfl (any_of HT_.out (by kernel_rfl)) (fun _ _ _ h => h) (Or.inl ⟨by rfl,?_⟩) ?_ ?_
       rotate_left
       ·intro w'
        go_simp
        with_reducible rfl
       rotate_left
       ·simp only [Act.put,sA,sB,sC,i64_w,i32_w]
        rfl
       refine pure_ (i := 2) (N := some 20) (v := ?_) (a' := ?_) #[true,true,true,false,false,false,false,false,false,false,false,false,false,false] rfl rfl (any_of HT_.out (by kernel_rfl)) (fun _ _ _ h => h) (Or.inl ⟨by rfl,?_⟩) ?_ ?_
       rotate_left
       ·intro w'
        go_simp
        with_reducible rfl
       rotate_left
       ·simp only [Act.put,sA,sB,sC,i64_w,i32_w]
        rfl
       refine pure_ (i := 3) (N := some 21) (v := ?_) (a' := ?_) #[true,true,true,true,false,false,false,false,false,false,false,false,false,false] rfl rfl (any_of HT_.out (by kernel_rfl)) (fun _ _ _ h => h) (Or.inl ⟨by rfl,?_⟩) ?_ ?_
       rotate_left
       ·intro w'
        go_simp
        with_reducible rfl
       rotate_left
       ·simp only [Act.put,sA,sB,sC,i64_w,i32_w]
        rfl
       refine pure_ (i := 4) (N := some 22) (v := ?_) (a' := ?_) #[true,true,true,true,true,false,false,false,false,false,false,false,false,false] rfl rfl (any_of HT_.out (by kernel_rfl)) (fun _ _ _ h => h) (Or.inl ⟨by rfl,?_⟩) ?_ ?_
       rotate_left
       ·intro w'
        go_simp
        with_reducible rfl
       rotate_left
       ·simp only [Act.put,sA,sB,sC,i64_w,i32_w]
        rfl
       refine pure_ (i := 6) (N := some 24) (v := ?_) (a' := ?_) #[true,true,true,true,true,false,true,false,false,false,false,false,false,false] rfl rfl (any_of HT_.out (by kernel_rfl)) (fun _ _ _ h => h) (Or.inl ⟨by rfl,?_⟩) ?_ ?_
       rotate_left
       ·intro w'
        go_simp
        with_reducible rfl
       rotate_left
       ·simp only [Act.put,sA,sB,sC,i64_w,i32_w]
        rfl
       refine pure_ (i := 7) (N := some 25) (v := ?_) (a' := ?_) #[true,true,true,true,true,false,true,true,false,false,false,false,false,false] rfl rfl (any_of HT_.out (by kernel_rfl)) (fun _ _ _ h => h) (Or.inl ⟨by rfl,?_⟩) ?_ ?_
       rotate_left
       ·intro w'
        go_simp
        with_reducible rfl
       rotate_left
       ·simp only [Act.put,sA,sB,sC,i64_w,i32_w]
        rfl
       refine pure_ (i := 8) (N := some 26) (v := ?_) (a' := ?_) #[true,true,true,true,true,false,true,true,true,false,false,false,false,false] rfl rfl (any_of HT_.out (by kernel_rfl)) (fun _ _ _ h => h) (Or.inl ⟨by rfl,?_⟩) ?_ ?_
       rotate_left
       ·intro w'
        go_simp
        with_reducible rfl
       rotate_left
       ·simp only [Act.put,sA,sB,sC,i64_w,i32_w]
        rfl
       refine take_ (i := 5) (N := some 23) (v := ?_) (a' := ?_) #[true,true,true,true,true,true,true,true,true,false,false,false,false,false] rfl rfl (take_ofW HT_.out HW_.out (by kernel_rfl)) (fun _ _ _ h => h) (Or.inl ⟨by rfl,?_⟩) hHeld ?_ ?_
       rotate_left
       ·rintro w' ⟨s0,s1⟩
        go_simp
        with_reducible rfl
       rotate_left
       ·simp only [Act.put,sA,sB,sC,i64_w,i32_w]
        rfl
       refine take_ (i := 9) (N := some 27) (v := ?_) (a' := ?_) #[true,true,true,true,true,true,true,true,true,true,false,false,false,false] rfl rfl (take_ofW HT_.out HW_.out (by kernel_rfl)) (fun _ _ _ h => h) (Or.inl ⟨by rfl,?_⟩) hHeld ?_ ?_
       rotate_left
       ·rintro w' ⟨s0,s1⟩
        go_simp
        with_reducible rfl
       rotate_left
       ·simp only [Act.put,sA,sB,sC,i64_w,i32_w]
        rfl
       refine pure_ (i := 10) (N := some 28) (v := ?_) (a' := ?_) #[true,true,true,true,true,true,true,true,true,true,true,false,false,false] rfl rfl (any_of HT_.out (by kernel_rfl)) (fun _ _ _ h => h) (Or.inl ⟨by rfl,?_⟩) ?_ ?_
       rotate_left
       ·intro w'
        go_simp
        with_reducible rfl
       rotate_left
       ·simp only [Act.put,sA,sB,sC,i64_w,i32_w]
        rfl
       refine last_ (i := 11) (N := some 29) #[true,true,true,true,true,true,true,true,true,true,true,true,false,false] rfl rfl (one_of HT_.out (by kernel_rfl)) (by decide) (fun K hK => ?_)
       refine value_ (w1 := ?_) (v := ?_) (by rfl) rfl ?_ ?_
       rotate_left 2
       ·go_simp
        constructor
        ·rfl
        ·rfl
       refine hK.out _ _ ?_
       clear hK K
       refine norm_ (a' := ?_) ?_ ?_
       rotate_left
       ·show Act.put _ (some 29) _ = _
        simp only [Act.put,sA,sB,sC,i64_w,i32_w]
        rfl
       refine last_ (i := 12) (N := some 30) #[true,true,true,true,true,true,true,true,true,true,true,true,true,false] rfl rfl (one_of HT_.out (by kernel_rfl)) (by decide) (fun K hK => ?_)
       refine Kd.S_append_step k94 (w0 := w) w.heap.size (by rfl) (.tmp 18) (.tmp 29) 26 94 (.agg #[(.int .i64 0),(.int .i64 0),(.int .i64 0),(.string ⟨#[]⟩),(.slice none 0 0)]) 64 rfl underlying26 info94 rfl (by decide) (by omega) u1 x1_1 (⟨4,rd t532 x3_1,rd t532 x3_1,(⟨#[]⟩ : ByteArray),([] : List (S66))⟩ : S94) [.int .i64 4,.int .i64 (rd t532 x3_1),.int .i64 (rd t532 x3_1),.string (⟨#[]⟩ : ByteArray),.slice none 0 0] (fun _ => True) (fun _ => False) rfl rfl ?aP (fun k_ hk_ => hk_.elim) ?aF ?aO ?aB ?aS ?aL ?_
       (case aP => exact k94_mkM _ _ _ (⟨4,rd t532 x3_1,rd t532 x3_1,(⟨#[]⟩ : ByteArray),([] : List (S66))⟩ : S94) (Kd.R_nil _ _ _ _ _))
       (case aB => exact (by repeat (first | (with_reducible first | exact HB.out | apply b_l | apply pw_below_drewN | apply below_drew1) | exact HB.out)))
       (case aF => exact (fun _ _ => trivial))
       (case aO => exact (by (with_reducible repeat (first | apply Kd.S_alloc | apply Kd.S_drewN | apply Kd.S_drew));exact Kd.S_mono HO_1.out (fun k_ hk => ⟨trivial,fun e_ => e_⟩)))
       (case aS => exact (below_size (by repeat (first | (with_reducible first | exact HB.out | apply b_l | apply pw_below_drewN | apply below_drew1) | exact HB.out))))
       (case aL => have := LMc8.out;omega)
       intro v539 w11 ho hb hg hat
       rw [← Ny538.out] at ho
       have n0_ := aS (Kd.R_over' (by (with_reducible repeat (first | apply Kd.R_alloc | apply Kd.R_drewN | apply Kd.R_drew));exact HO_2.out) (Kd.S_typed (by (with_reducible repeat (first | apply Kd.S_alloc | apply Kd.S_drewN | apply Kd.S_drew));exact HO_1.out)) (by decide) hg)
       have n1_ := aS (hb)
       have n2_ := aS (ho)
       clear HO_2
       clear HB
       clear HO_1
       have HO_2 := n0_
       have HB := n1_
       have HO540 := n2_
       clear n0_ n1_ n2_
       clear ho hb hg hat
       refine hK.out _ _ ?_
       clear hK K
       refine norm_ (a' := ?_) ?_ ?_
       rotate_left
       ·show Act.put _ (some 30) _ = _
        simp only [Act.put,sA,sB,sC,i64_w,i32_w]
        rfl
       refine pure_ (i := 13) (N := some 1) (v := ?_) (a' := ?_) #[true,true,true,true,true,true,true,true,true,true,true,true,true,true] rfl rfl (any_of HT_.out (by kernel_rfl)) (fun _ _ _ h => h) (Or.inl ⟨by rfl,?_⟩) ?_ ?_
       rotate_left
       ·intro w'
        go_simp
        with_reducible rfl
       rotate_left
       ·simp only [Act.put,sA,sB,sC,i64_w,i32_w]
        rfl
       refine done_ (done_of HT_.out (by kernel_rfl)) ?_
       try go_wp2
       go_roundg k1
       case measure => have := HK1.out;omega
       case rel => exact ⟨(y538),(wrap64 (x3_1 + 1)),(by first | rfl | (simp;done) | (simp [*];done)),H',⟨by have := HK1.out;omega⟩,⟨by (with_reducible repeat (first | apply Kd.S_alloc | apply Kd.S_drewN | apply Kd.S_drew));exact HO540.out⟩,⟨by (with_reducible repeat (first | apply Kd.R_alloc | apply Kd.R_drewN | apply Kd.R_drew));exact HO_2.out⟩,⟨by repeat (first | (with_reducible first | exact HB.out | apply b_l | apply pw_below_drewN | apply below_drew1) | exact HB.out)⟩⟩
      ·rw [if_neg c8] at H
       exact absurd H (by simp)
     ·rw [if_neg c7] at H
      have c7b0 : ((rd t532 x3_1) == 12) = false := beq_eq_false_iff_ne.mpr c7
      have c7b1 : ((rd t532 x3_1) != 12) = true := bne_iff_ne.mpr c7
      by_cases c12 : x1_1.length < 2199023255552
      ·rw [if_pos c12] at H
       have LMc12 := aS c12
       clear c12
       obtain ⟨y543,hy543⟩ : ∃ y_ : List (S94),y_ = (x1_1 ++ [(⟨1,rd t532 x3_1,rd t532 x3_1,(⟨#[]⟩ : ByteArray),([] : List (S66))⟩ : S94)]) := ⟨_,rfl⟩
       replace H : (groatref24_kept.l0 k1 y543 t532 (wrap64 (x3_1 + 1))) = some r := by first | (rw [hy543];with_reducible exact H) | (have H2_ := (Option.bind_some _ _).symm.trans H;rw [hy543];with_reducible exact H2_) | (have H2_ := (Option.bind_some _ _).symm.trans H;with_reducible exact H2_) | with_reducible exact H | (rw [hy543];exact H) | exact H
       have Ny543 := aS hy543
       clear hy543
       have H' := aS H
       clear H
       obtain ⟨Ao13,co13,eo13⟩ := Kd.R_slice HO_2.out
       subst eo13
       have p535 : 0 ≤ (x3_1 : Int) := of_decide_eq_true (by first | (with_reducible assumption) | assumption)
       have q535 : x3_1 < (t532.length : Int) := of_decide_eq_true (by first | (with_reducible assumption) | assumption)
       obtain ⟨ad535,e535,hx535_0⟩ := Kd.at_int (Kd.R_reads' HO_2.out).2.2 x3_1 p535 q535
       cases e535
       replace p535 := eq_true p535
       replace q535 := eq_true q535
       try go_wp2
       have n0_ := aS (Kd.S_drew HO_1.out)
       have n1_ := aS (Kd.R_drew HO_2.out)
       have n2_ := aS (below_drew1 HB.out)
       clear HO_1
       clear HO_2
       clear HB
       have HO_1 := n0_
       have HO_2 := n1_
       have HB := n2_
       clear n0_ n1_ n2_
       have p541 : 0 ≤ (x3_1 : Int) := of_decide_eq_true (by first | (with_reducible assumption) | assumption)
       have q541 : x3_1 < (t532.length : Int) := of_decide_eq_true (by first | (with_reducible assumption) | assumption)
       obtain ⟨ad541,e541,hx541_0⟩ := Kd.at_int (Kd.R_reads' HO_2.out).2.2 x3_1 p541 q541
       obtain rfl : ad535 = ad541 := (by injection e541)
       replace p541 := eq_true p541
       replace q541 := eq_true q541
       have p542 : 0 ≤ (x3_1 : Int) := of_decide_eq_true (by first | (with_reducible assumption) | assumption)
       have q542 : x3_1 < (t532.length : Int) := of_decide_eq_true (by first | (with_reducible assumption) | assumption)
       obtain ⟨ad542,e542,hx542_0⟩ := Kd.at_int (Kd.R_reads' HO_2.out).2.2 x3_1 p542 q542
       obtain rfl : ad535 = ad542 := (by injection e542)
       replace p542 := eq_true p542
       replace q542 := eq_true q542
       refine start_ (n := 14) (S := fun w' => w'.cell? (ad535.add (x3_1).toNat) = some (.int .i64 (rd t532 x3_1)) ∧ w'.cell? (ad535.add (x3_1).toNat) = some (.int .i64 (rd t532 x3_1))) (ds := [11,12]) #[false,false,false,false,false,false,false,false,false,false,false,false,false,false] (by kernel_rfl) rfl rfl ⟨hx541_0,hx542_0⟩ (fun hHeld => ?_);refine with_tabW groatref24_kept.tab9 groatref24_kept.bits9 (fun HT_ HW_ => ?_)
       generalize wr.drew = w14 at HO_1 HO_2 HB hx541_0 hx542_0 hHeld ⊢
       refine pure_ (i := 0) (N := some 18) (v := ?_) (a' := ?_) #[true,false,false,false,false,false,false,false,false,false,false,false,false,false] rfl rfl (any_of HT_.out (by kernel_rfl)) (fun _ _ _ h => h) (Or.inl ⟨by rfl,?_⟩) ?_ ?_
       rotate_left
       ·intro w'
        go_simp
        with_reducible rfl
       rotate_left
       ·simp only [Act.put,sA,sB,sC,i64_w,i32_w]
        rfl
       refine pure_ (i := 1) (N := some 19) (v := ?_) (a' := ?_) #[true,true,false,false,false,false,false,false,false,false,false,false,false,false] rfl rfl (any_of HT_.out (by kernel_rfl)) (fun _ _ _ h => h) (Or.inl ⟨by rfl,?_⟩) ?_ ?_
       rotate_left
       ·intro w'
        go_simp
        with_reducible rfl
       rotate_left
       ·simp only [Act.put,sA,sB,sC,i64_w,i32_w]
        rfl
       refine pure_ (i := 2) (N := some 20) (v := ?_) (a' := ?_) #[true,true,true,false,false,false,false,false,false,false,false,false,false,false] rfl rfl (any_of HT_.out (by kernel_rfl)) (fun _ _ _ h => h) (Or.inl ⟨by rfl,?_⟩) ?_ ?_
       rotate_left
       ·intro w'
        go_simp
        with_reducible rfl
       rotate_left
       ·simp only [Act.put,sA,sB,sC,i64_w,i32_w]
        rfl
       refine pure_ (i := 3) (N := some 21) (v := ?_) (a' := ?_) #[true,true,true,true,false,false,false,false,false,false,false,false,false,false] rfl rfl (any_of HT_.out (by kernel_rfl)) (fun _ _ _ h => h) (Or.inl ⟨by rfl,?_⟩) ?_ ?_
       rotate_left
       ·intro w'
        go_simp
        with_reducible rfl
       rotate_left
       ·simp only [Act.put,sA,sB,sC,i64_w,i32_w]
        rfl
       refine pure_ (i := 4) (N := some 22) (v := ?_) (a' := ?_) #[true,true,true,true,true,false,false,false,false,false,false,false,false,false] rfl rfl (any_of HT_.out (by kernel_rfl)) (fun _ _ _ h => h) (Or.inl ⟨by rfl,?_⟩) ?_ ?_
       rotate_left
       ·intro w'
        go_simp
        with_reducible rfl
       rotate_left
       ·simp only [Act.put,sA,sB,sC,i64_w,i32_w]
        rfl
       refine pure_ (i := 6) (N := some 24) (v := ?_) (a' := ?_) #[true,true,true,true,true,false,true,false,false,false,false,false,false,false] rfl rfl (any_of HT_.out (by kernel_rfl)) (fun _ _ _ h => h) (Or.inl ⟨by rfl,?_⟩) ?_ ?_
       rotate_left
       ·intro w'
        go_simp
        with_reducible rfl
       rotate_left
       ·simp only [Act.put,sA,sB,sC,i64_w,i32_w]
        rfl
       refine pure_ (i := 7) (N := some 25) (v := ?_) (a' := ?_) #[true,true,true,true,true,false,true,true,false,false,false,false,false,false] rfl rfl (any_of HT_.out (by kernel_rfl)) (fun _ _ _ h => h) (Or.inl ⟨by rfl,?_⟩) ?_ ?_
       rotate_left
       ·intro w'
        go_simp
        with_reducible rfl
       rotate_left
       ·simp only [Act.put,sA,sB,sC,i64_w,i32_w]
        rfl
       refine pure_ (i := 8) (N := some 26) (v := ?_) (a' := ?_) #[true,true,true,true,true,false,true,true,true,false,false,false,false,false] rfl rfl (any_of HT_.out (by kernel_rfl)) (fun _ _ _ h => h) (Or.inl ⟨by rfl,?_⟩) ?_ ?_
       rotate_left
       ·intro w'
        go_simp
        with_reducible rfl
       rotate_left
       ·simp only [Act.put,sA,sB,sC,i64_w,i32_w]
        rfl
       refine take_ (i := 5) (N := some 23) (v := ?_) (a' := ?_) #[true,true,true,true,true,true,true,true,true,false,false,false,false,false] rfl rfl (take_ofW HT_.out HW_.out (by kernel_rfl)) (fun _ _ _ h => h) (Or.inl ⟨by rfl,?_⟩) hHeld ?_ ?_
       rotate_left
       ·rintro w' ⟨s0,s1⟩
        go_simp
        with_reducible rfl
       rotate_left
       ·simp only [Act.put,sA,sB,sC,i64_w,i32_w]
        rfl
       refine take_ (i := 9) (N := some 27) (v := ?_) (a' := ?_) #[true,true,true,true,true,true,true,true,true,true,false,false,false,false] rfl rfl (take_ofW HT_.out HW_.out (by kernel_rfl)) (fun _ _ _ h => h) (Or.inl ⟨by rfl,?_⟩) hHeld ?_ ?_
       rotate_left
       ·rintro w' ⟨s0,s1⟩
        go_simp
        with_reducible rfl
       rotate_left
       ·simp only [Act.put,sA,sB,sC,i64_w,i32_w]
        rfl
       refine pure_ (i := 10) (N := some 28) (v := ?_) (a' := ?_) #[true,true,true,true,true,true,true,true,true,true,true,false,false,false] rfl rfl (any_of HT_.out (by kernel_rfl)) (fun _ _ _ h => h) (Or.inl ⟨by rfl,?_⟩) ?_ ?_
       rotate_left
       ·intro w'
        go_simp
        with_reducible rfl
       rotate_left
       ·simp only [Act.put,sA,sB,sC,i64_w,i32_w]
        rfl
       refine last_ (i := 11) (N := some 29) #[true,true,true,true,true,true,true,true,true,true,true,true,false,false] rfl rfl (one_of HT_.out (by kernel_rfl)) (by decide) (fun K hK => ?_)
       refine value_ (w1 := ?_) (v := ?_) (by rfl) rfl ?_ ?_
       rotate_left 2
       ·go_simp
        constructor
        ·rfl
        ·rfl
       refine hK.out _ _ ?_
       clear hK K
       refine norm_ (a' := ?_) ?_ ?_
       rotate_left
       ·show Act.put _ (some 29) _ = _
        simp only [Act.put,sA,sB,sC,i64_w,i32_w]
        rfl
       refine last_ (i := 12) (N := some 30) #[true,true,true,true,true,true,true,true,true,true,true,true,true,false] rfl rfl (one_of HT_.out (by kernel_rfl)) (by decide) (fun K hK => ?_)
       refine Kd.S_append_step k94 (w0 := w) w.heap.size (by rfl) (.tmp 18) (.tmp 29) 26 94 (.agg #[(.int .i64 0),(.int .i64 0),(.int .i64 0),(.string ⟨#[]⟩),(.slice none 0 0)]) 64 rfl underlying26 info94 rfl (by decide) (by omega) u1 x1_1 (⟨1,rd t532 x3_1,rd t532 x3_1,(⟨#[]⟩ : ByteArray),([] : List (S66))⟩ : S94) [.int .i64 1,.int .i64 (rd t532 x3_1),.int .i64 (rd t532 x3_1),.string (⟨#[]⟩ : ByteArray),.slice none 0 0] (fun _ => True) (fun _ => False) rfl rfl ?aP (fun k_ hk_ => hk_.elim) ?aF ?aO ?aB ?aS ?aL ?_
       (case aP => exact k94_mkM _ _ _ (⟨1,rd t532 x3_1,rd t532 x3_1,(⟨#[]⟩ : ByteArray),([] : List (S66))⟩ : S94) (Kd.R_nil _ _ _ _ _))
       (case aB => exact (by repeat (first | (with_reducible first | exact HB.out | apply b_l | apply pw_below_drewN | apply below_drew1) | exact HB.out)))
       (case aF => exact (fun _ _ => trivial))
       (case aO => exact (by (with_reducible repeat (first | apply Kd.S_alloc | apply Kd.S_drewN | apply Kd.S_drew));exact Kd.S_mono HO_1.out (fun k_ hk => ⟨trivial,fun e_ => e_⟩)))
       (case aS => exact (below_size (by repeat (first | (with_reducible first | exact HB.out | apply b_l | apply pw_below_drewN | apply below_drew1) | exact HB.out))))
       (case aL => have := LMc12.out;omega)
       intro v544 w15 ho hb hg hat
       rw [← Ny543.out] at ho
       have n0_ := aS (Kd.R_over' (by (with_reducible repeat (first | apply Kd.R_alloc | apply Kd.R_drewN | apply Kd.R_drew));exact HO_2.out) (Kd.S_typed (by (with_reducible repeat (first | apply Kd.S_alloc | apply Kd.S_drewN | apply Kd.S_drew));exact HO_1.out)) (by decide) hg)
       have n1_ := aS (hb)
       have n2_ := aS (ho)
       clear HO_2
       clear HB
       clear HO_1
       have HO_2 := n0_
       have HB := n1_
       have HO545 := n2_
       clear n0_ n1_ n2_
       clear ho hb hg hat
       refine hK.out _ _ ?_
       clear hK K
       refine norm_ (a' := ?_) ?_ ?_
       rotate_left
       ·show Act.put _ (some 30) _ = _
        simp only [Act.put,sA,sB,sC,i64_w,i32_w]
        rfl
       refine pure_ (i := 13) (N := some 1) (v := ?_) (a' := ?_) #[true,true,true,true,true,true,true,true,true,true,true,true,true,true] rfl rfl (any_of HT_.out (by kernel_rfl)) (fun _ _ _ h => h) (Or.inl ⟨by rfl,?_⟩) ?_ ?_
       rotate_left
       ·intro w'
        go_simp
        with_reducible rfl
       rotate_left
       ·simp only [Act.put,sA,sB,sC,i64_w,i32_w]
        rfl
       refine done_ (done_of HT_.out (by kernel_rfl)) ?_
       try go_wp2
       go_roundg k1
       case measure => have := HK1.out;omega
       case rel => exact ⟨(y543),(wrap64 (x3_1 + 1)),(by first | rfl | (simp;done) | (simp [*];done)),H',⟨by have := HK1.out;omega⟩,⟨by (with_reducible repeat (first | apply Kd.S_alloc | apply Kd.S_drewN | apply Kd.S_drew));exact HO545.out⟩,⟨by (with_reducible repeat (first | apply Kd.R_alloc | apply Kd.R_drewN | apply Kd.R_drew));exact HO_2.out⟩,⟨by repeat (first | (with_reducible first | exact HB.out | apply b_l | apply pw_below_drewN | apply below_drew1) | exact HB.out)⟩⟩
      ·rw [if_neg c12] at H
       exact absurd H (by simp)
    ·rw [if_neg c6] at H
     exact absurd H (by simp)
   ·rw [if_neg c5] at H
    have c5b0 : decide (x3_1 < (t532.length : Int)) = false := d_F c5
    clear c5
    obtain rfl := Option.some.inj H
    obtain ⟨Ao16,co16,eo16⟩ := Kd.R_slice HO_2.out
    subst eo16
    go_wp2
    go_ret
    exact ⟨_,by first | rfl | (simp [errW_none,errW_some] <;> rfl) | (simp [*,errW_none,errW_some] <;> rfl),by (with_reducible repeat (first | apply Kd.S_alloc | apply Kd.S_drewN | apply Kd.S_drew));exact HO_1.out,by repeat (first | (with_reducible first | exact HB.out | apply b_l | apply pw_below_drewN | apply below_drew1) | exact HB.out)⟩
def groatref24_pairs.l0 : Nat → List ByteArray → List (S66) → Int → Option ((List (S66)))
 | 0,_,_,_ => none
 | k + 1,x0,x3,x4 => if x4 < (x0.length : Int) then (if 0 ≤ x4 then (if 0 ≤ (wrap64 (x4 + 1)) then (if (wrap64 (x4 + 1)) < (x0.length : Int) then (if x3.length < 4398046511104 then (groatref24_pairs.l0 k x0 (x3 ++ [(⟨rdOf ByteArray.empty x0 x4,rdOf ByteArray.empty x0 (wrap64 (x4 + 1))⟩ : S66)]) (wrap64 (x4 + 2))) else (none)) else (none)) else (none)) else (none)) else (some x3)
def groatref24_pairs.f (k : Nat) (l0 : List ByteArray) : Option ((List (S66))) := groatref24_pairs.l0 k l0 (([] : List (S66))) 0
def groatref24_pairs.T5 : Bool × List (List Nat × List Nat) := (true,[([],[]),([],[]),([],[]),([1,2],[1,2]),([3],[3]),([],[]),([],[]),([6],[6]),([5,7],[5,7]),([8],[8]),([4,9],[4,9]),([10],[10]),([0,11],[0,11]),([12,12,0,1,2,3,4,5,6,7,8,9,10,11,12],[0,12])])
def groatref24_pairs.B5 : List Nat := [0,0,0,6,14,0,0,64,224,480,1022,2046,4095,8191]
theorem groatref24_pairs.tab5 : rtab .any (opsOf Tryz.f70 5) = groatref24_pairs.T5 := by kernel_rfl
theorem groatref24_pairs.bits5 : waitsOk groatref24_pairs.T5.2 groatref24_pairs.B5 = true := by kernel_rfl
set_option maxHeartbeats 8000000 in
theorem groatref24_pairs.calls (k : Nat) (A0 : Option Addr) (c0 : Nat) (l0 : List ByteArray) (r : List (S66)) (w : World) (hr0 : Kd.C Kd.string w A0 l0.length l0) (hc0 : l0.length ≤ c0) (h : groatref24_pairs.f k l0 = some r) :
  Calls prog 70 #[.slice A0 l0.length c0] w fun e w' => ∃ v0_ : Value,e = .returned (v0_) ∧ Kd.R k66 66 w' w.heap.size (fun _ => True) v0_ r ∧ Below w.heap.size w w' := by
 have hu66 := underlying66
 have HR0 := aS hr0
 have HC0 := aS hc0
 clear hr0 hc0
 have HB := aS (Below.refl w.heap.size w)
 have H : (groatref24_pairs.l0 k l0 (([] : List (S66))) 0) = some r := h
 clear h
 obtain ⟨y546,hy546⟩ : ∃ y_ : List (S66),y_ = (([] : List (S66))) := ⟨_,rfl⟩
 replace H : (groatref24_pairs.l0 k l0 y546 0) = some r := by first | (rw [hy546];with_reducible exact H) | (have H2_ := (Option.bind_some _ _).symm.trans H;rw [hy546];with_reducible exact H2_) | (have H2_ := (Option.bind_some _ _).symm.trans H;with_reducible exact H2_) | with_reducible exact H | (rw [hy546];exact H) | exact H
 have Ny546 := aS hy546
 clear hy546
 have H' := aS H
 clear H
 go_enter func70,ntmps70
 go_wp2_with (first | ((with_reducible refine gate_dst (N := 5) rfl ?_);refine Kd.R_lit k66 _ 66 ?hg (N := 5) ?hd (xs := ([] : List (S66))) (inner := []) (ok := fun _ => True) (okp := fun _ => True) ?hr ?hp (fun _ hk => hk) trivial (Below.refl _ _) (Nat.le_refl _) (by simp) ?_;(case hd => rfl);(case hg => rfl);(case hr => first | (go_simp;done) | (go_simp;rfl));(case hp => exact (Reps.none _ _));intro v547 w2 ho3 hb hg_ hnew_;clear hg_ hnew_;(first | rw [← Ny546.out] at ho3 | (simp only [Int.reduceToNat] at ho3;rw [← Ny546.out] at ho3));have n0_ := aS (Kd.R_lower ho3 (below_size (by repeat (first | (with_reducible first | exact HB.out | apply b_l | apply pw_below_drewN | apply below_drew1) | exact HB.out))));have n1_ := aS (b_s (by repeat (first | (with_reducible first | exact HB.out | apply b_l | apply pw_below_drewN | apply below_drew1) | exact HB.out)) hb);clear HB;have HO548 := n0_;have HB := n1_;clear n0_ n1_;clear hb ho3))
 go_loopg [3,4] k (fun kq v3 v4 w' => ∃ (x3_1 : List (S66)) (x4_1 : Int),v4 = .int .i64 x4_1 ∧ Aside0 (groatref24_pairs.l0 kq l0 x3_1 x4_1 = some r) ∧ Aside0 (kq ≤ k) ∧ Aside0 (Kd.R k66 66 w' w.heap.size (fun _ => True) v3 x3_1) ∧ Aside0 (Below w.heap.size w w'))
 case atStart => exact ⟨(y546),(0),(by first | rfl | (simp;done) | (simp [*];done)),H',⟨Nat.le_refl _⟩,⟨by (with_reducible repeat (first | apply Kd.R_alloc | apply Kd.R_drewN | apply Kd.R_drew));exact HO548.out⟩,⟨by repeat (first | (with_reducible first | exact HB.out | apply b_l | apply pw_below_drewN | apply below_drew1) | exact HB.out)⟩⟩
 case round =>
  clear H'
  try clear p2
  obtain ⟨x3_1,x4_1,rfl,HA,HK1,HO_3,HB⟩ := hrel
  cases gk with
  | zero => exact absurd HA.out (by simp [groatref24_pairs.l0])
  | succ k1 =>
   have H := HA.out
   clear HA
   simp only [groatref24_pairs.l0] at H
   by_cases c4 : x4_1 < (l0.length : Int)
   ·rw [if_pos c4] at H
    have c4b0 : decide (x4_1 < (l0.length : Int)) = true := d_T c4
    clear c4
    by_cases c5 : 0 ≤ x4_1
    ·rw [if_pos c5] at H
     have c5b0 : decide (0 ≤ x4_1) = true := d_T c5
     clear c5
     obtain ⟨ji6,hji6⟩ : ∃ j_ : Int,(wrap64 (x4_1 + 1)) = j_ := ⟨_,rfl⟩
     replace H : (if 0 ≤ (ji6) then (if (ji6) < (l0.length : Int) then (if x3_1.length < 4398046511104 then (groatref24_pairs.l0 k1 l0 (x3_1 ++ [(⟨rdOf ByteArray.empty l0 x4_1,rdOf ByteArray.empty l0 (ji6)⟩ : S66)]) (wrap64 (x4_1 + 2))) else (none)) else (none)) else (none)) = some r := by first | (rw [hji6] at H;exact H) | (simp only [hji6] at H ⊢;exact H)
     have hji6w : (IntKind.i64.wrap (x4_1 + 1)) = ji6 := (i64_w _).trans hji6
     by_cases c7 : 0 ≤ (ji6)
     ·rw [if_pos c7] at H
      have c7b0 : decide (0 ≤ (ji6)) = true := d_T c7
      clear c7
      by_cases c8 : (ji6) < (l0.length : Int)
      ·rw [if_pos c8] at H
       have c8b0 : decide ((ji6) < (l0.length : Int)) = true := d_T c8
       clear c8
       by_cases c9 : x3_1.length < 4398046511104
       ·rw [if_pos c9] at H
        have LMc9 := aS c9
        clear c9
        obtain ⟨y551,hy551⟩ : ∃ y_ : List (S66),y_ = (x3_1 ++ [(⟨rdOf ByteArray.empty l0 x4_1,rdOf ByteArray.empty l0 (ji6)⟩ : S66)]) := ⟨_,rfl⟩
        replace H : (groatref24_pairs.l0 k1 l0 y551 (wrap64 (x4_1 + 2))) = some r := by first | (rw [hy551];with_reducible exact H) | (have H2_ := (Option.bind_some _ _).symm.trans H;rw [hy551];with_reducible exact H2_) | (have H2_ := (Option.bind_some _ _).symm.trans H;with_reducible exact H2_) | with_reducible exact H | (rw [hy551];exact H) | exact H
        have Ny551 := aS hy551
        clear hy551
        have H' := aS H
        clear H
        try go_wp2
        have n0_ := aS (Kd.R_drew HO_3.out)
        have n1_ := aS (below_drew1 HB.out)
        clear HO_3
        clear HB
        have HO_3 := n0_
        have HB := n1_
        clear n0_ n1_
        have p549 : 0 ≤ (x4_1 : Int) := of_decide_eq_true (by first | (with_reducible assumption) | assumption)
        have q549 : x4_1 < (l0.length : Int) := of_decide_eq_true (by first | (with_reducible assumption) | assumption)
        obtain ⟨ad549,e549,hx549_0⟩ := Kd.at_string HR0.out x4_1 p549 q549
        have hw549_0 := hx549_0
        cases e549
        replace hx549_0 := (HB.out.cell (World.block_lt_of_cell? w _ hx549_0)).trans hx549_0
        replace p549 := eq_true p549
        replace q549 := eq_true q549
        have p550 : 0 ≤ ((ji6) : Int) := of_decide_eq_true (by first | (with_reducible assumption) | assumption)
        have q550 : (ji6) < (l0.length : Int) := of_decide_eq_true (by first | (with_reducible assumption) | assumption)
        obtain ⟨ad550,e550,hx550_0⟩ := Kd.at_string HR0.out (ji6) p550 q550
        have hw550_0 := hx550_0
        obtain rfl : ad549 = ad550 := (by injection e550)
        replace hx550_0 := (HB.out.cell (World.block_lt_of_cell? w _ hx550_0)).trans hx550_0
        replace p550 := eq_true p550
        replace q550 := eq_true q550
        refine start_ (n := 14) (S := fun w' => w'.cell? (ad549.add (x4_1).toNat) = some (.string (rdOf ByteArray.empty l0 x4_1)) ∧ w'.cell? (ad549.add ((ji6)).toNat) = some (.string (rdOf ByteArray.empty l0 (ji6)))) (ds := []) #[false,false,false,false,false,false,false,false,false,false,false,false,false,false] (by kernel_rfl) rfl rfl ⟨((HB.out.cell (World.block_lt_of_cell? w _ hw549_0)).trans hw549_0),((HB.out.cell (World.block_lt_of_cell? w _ hw550_0)).trans hw550_0)⟩ (fun hHeld => ?_);refine with_tabW groatref24_pairs.tab5 groatref24_pairs.bits5 (fun HT_ HW_ => ?_)
        generalize wr.drew = w10 at HO_3 HB hx549_0 hx550_0 hHeld ⊢
        refine pure_ (i := 0) (N := some 12) (v := ?_) (a' := ?_) #[true,false,false,false,false,false,false,false,false,false,false,false,false,false] rfl rfl (any_of HT_.out (by kernel_rfl)) (fun _ _ _ h => h) (Or.inl ⟨by rfl,?_⟩) ?_ ?_
        rotate_left
        ·intro w'
         go_simp
         with_reducible rfl
        rotate_left
        ·simp only [Act.put,sA,sB,sC,i64_w,i32_w]
         rfl
        refine pure_ (i := 1) (N := some 13) (v := ?_) (a' := ?_) #[true,true,false,false,false,false,false,false,false,false,false,false,false,false] rfl rfl (any_of HT_.out (by kernel_rfl)) (fun _ _ _ h => h) (Or.inl ⟨by rfl,?_⟩) ?_ ?_
        rotate_left
        ·intro w'
         go_simp
         with_reducible rfl
        rotate_left
        ·simp only [Act.put,sA,sB,sC,i64_w,i32_w]
         rfl
        refine pure_ (i := 2) (N := some 14) (v := ?_) (a' := ?_) #[true,true,true,false,false,false,false,false,false,false,false,false,false,false] rfl rfl (any_of HT_.out (by kernel_rfl)) (fun _ _ _ h => h) (Or.inl ⟨by rfl,?_⟩) ?_ ?_
        rotate_left
        ·intro w'
         go_simp
         with_reducible rfl
        rotate_left
        ·simp only [Act.put,sA,sB,sC,i64_w,i32_w]
         rfl
        refine pure_ (i := 3) (N := some 15) (v := ?_) (a' := ?_) #[true,true,true,true,false,false,false,false,false,false,false,false,false,false] rfl rfl (any_of HT_.out (by kernel_rfl)) (fun _ _ _ h => h) (Or.inl ⟨by rfl,?_⟩) ?_ ?_
        rotate_left
        ·intro w'
         go_simp
         with_reducible rfl
        rotate_left
        ·simp only [Act.put,sA,sB,sC,i64_w,i32_w]
         rfl
        refine pure_ (i := 5) (N := some 17) (v := ?_) (a' := ?_) #[true,true,true,true,false,true,false,false,false,false,false,false,false,false] rfl rfl (any_of HT_.out (by kernel_rfl)) (fun _ _ _ h => h) (Or.inl ⟨by rfl,?_⟩) ?_ ?_
        rotate_left
        ·intro w'
         go_simp
         with_reducible rfl
        rotate_left
        ·simp only [Act.put,sA,sB,sC,i64_w,i32_w]
         rfl
        refine pure_ (i := 6) (N := some 18) (v := ?_) (a' := ?_) #[true,true,true,true,false,true,true,false,false,false,false,false,false,false] rfl rfl (any_of HT_.out (by kernel_rfl)) (fun _ _ _ h => h) (Or.inl ⟨by rfl,?_⟩) ?_ ?_
        rotate_left
        ·intro w'
         go_simp
         with_reducible rfl
        rotate_left
        ·simp only [Act.put,sA,sB,sC,i64_w,i32_w]
         rfl
        refine pure_ (i := 7) (N := some 19) (v := ?_) (a' := ?_) #[true,true,true,true,false,true,true,true,false,false,false,false,false,false] rfl rfl (any_of HT_.out (by kernel_rfl)) (fun _ _ _ h => h) (Or.inl ⟨by rfl,?_⟩) ?_ ?_
        rotate_left
        ·intro w'
         go_simp
         with_reducible rfl
        rotate_left
        ·simp only [Act.put,sA,sB,sC,i64_w,i32_w]
         rfl
        refine pure_ (i := 8) (N := some 20) (v := ?_) (a' := ?_) #[true,true,true,true,false,true,true,true,true,false,false,false,false,false] rfl rfl (any_of HT_.out (by kernel_rfl)) (fun _ _ _ h => h) (Or.inl ⟨by rfl,?_⟩) ?_ ?_
        rotate_left
        ·intro w'
         go_simp
         with_reducible rfl
        rotate_left
        ·simp only [Act.put,sA,sB,sC,i64_w,i32_w]
         rfl
        refine take_ (i := 4) (N := some 16) (v := ?_) (a' := ?_) #[true,true,true,true,true,true,true,true,true,false,false,false,false,false] rfl rfl (take_ofW HT_.out HW_.out (by kernel_rfl)) (fun _ _ _ h => h) (Or.inl ⟨by rfl,?_⟩) hHeld ?_ ?_
        rotate_left
        ·rintro w' ⟨s0,s1⟩
         go_simp
         with_reducible rfl
        rotate_left
        ·simp only [Act.put,sA,sB,sC,i64_w,i32_w]
         rfl
        refine take_ (i := 9) (N := some 21) (v := ?_) (a' := ?_) #[true,true,true,true,true,true,true,true,true,true,false,false,false,false] rfl rfl (take_ofW HT_.out HW_.out (by kernel_rfl)) (fun _ _ _ h => h) (Or.inl ⟨by rfl,?_⟩) hHeld ?_ ?_
        rotate_left
        ·rintro w' ⟨s0,s1⟩
         go_simp
         with_reducible rfl
        rotate_left
        ·simp only [Act.put,sA,sB,sC,i64_w,i32_w]
         rfl
        refine pure_ (i := 10) (N := some 22) (v := ?_) (a' := ?_) #[true,true,true,true,true,true,true,true,true,true,true,false,false,false] rfl rfl (any_of HT_.out (by kernel_rfl)) (fun _ _ _ h => h) (Or.inl ⟨by rfl,?_⟩) ?_ ?_
        rotate_left
        ·intro w'
         go_simp
         with_reducible rfl
        rotate_left
        ·simp only [Act.put,sA,sB,sC,i64_w,i32_w]
         rfl
        refine one_ (i := 11) (N := some 23) #[true,true,true,true,true,true,true,true,true,true,true,true,false,false] rfl rfl (one_of HT_.out (by kernel_rfl)) (by decide) (fun K hK => ?_)
        refine value_ (w1 := ?_) (v := ?_) (by rfl) rfl ?_ ?_
        rotate_left 2
        ·go_simp
         constructor
         ·rfl
         ·rfl
        refine hK.out _ _ ⟨(World.cell?_alloc_lt _ _ _ (World.block_lt_of_cell? _ _ (((HB.out.cell (World.block_lt_of_cell? w _ hw549_0)).trans hw549_0)))).trans (((HB.out.cell (World.block_lt_of_cell? w _ hw549_0)).trans hw549_0)),(World.cell?_alloc_lt _ _ _ (World.block_lt_of_cell? _ _ (((HB.out.cell (World.block_lt_of_cell? w _ hw550_0)).trans hw550_0)))).trans (((HB.out.cell (World.block_lt_of_cell? w _ hw550_0)).trans hw550_0))⟩ (fun hHeld => ?_)
        clear hK K
        refine norm_ (a' := ?_) ?_ ?_
        rotate_left
        ·show Act.put _ (some 23) _ = _
         simp only [Act.put,sA,sB,sC,i64_w,i32_w]
         rfl
        refine one_ (i := 12) (N := some 24) #[true,true,true,true,true,true,true,true,true,true,true,true,true,false] rfl rfl (one_of HT_.out (by kernel_rfl)) (by decide) (fun K hK => ?_)
        refine Kd.R_append_step k66 (w0 := w) w.heap.size (by rfl) (.tmp 12) (.tmp 23) 25 66 (.agg #[(.string ⟨#[]⟩),(.string ⟨#[]⟩)]) 32 rfl underlying25 info66 rfl (by decide) (by omega) u3 x3_1 (⟨rdOf ByteArray.empty l0 x4_1,rdOf ByteArray.empty l0 (ji6)⟩ : S66) [.string (rdOf ByteArray.empty l0 x4_1),.string (rdOf ByteArray.empty l0 (ji6))] (fun _ => True) (fun _ => False) rfl rfl ?aP (fun _ hk => hk.elim) ?aF ?aO ?aB ?aS ?aL ?_
        (case aP => exact k66_mkM _ _ _ (⟨rdOf ByteArray.empty l0 x4_1,rdOf ByteArray.empty l0 (ji6)⟩ : S66))
        (case aB => exact (by repeat (first | (with_reducible first | exact HB.out | apply b_l | apply pw_below_drewN | apply below_drew1) | exact HB.out)))
        (case aF => exact (fun _ _ => trivial))
        (case aO => exact (by (with_reducible repeat (first | apply Kd.R_alloc | apply Kd.R_drewN | apply Kd.R_drew));exact HO_3.out))
        (case aS => exact (below_size (by repeat (first | (with_reducible first | exact HB.out | apply b_l | apply pw_below_drewN | apply below_drew1) | exact HB.out))))
        (case aL => have := LMc9.out;omega)
        intro v552 w11 ho hb hg hat
        rw [← Ny551.out] at ho
        have n0_ := aS (hb)
        have n1_ := aS (ho)
        clear HB
        clear HO_3
        have HB := n0_
        have HO553 := n1_
        clear n0_ n1_
        clear ho hb hg hat
        refine hK.out _ _ ⟨((HB.out.cell (World.block_lt_of_cell? w _ hw549_0)).trans hw549_0),((HB.out.cell (World.block_lt_of_cell? w _ hw550_0)).trans hw550_0)⟩ (fun hHeld => ?_)
        clear hK K
        refine norm_ (a' := ?_) ?_ ?_
        rotate_left
        ·show Act.put _ (some 24) _ = _
         simp only [Act.put,sA,sB,sC,i64_w,i32_w]
         rfl
        refine pure_ (i := 13) (N := some 3) (v := ?_) (a' := ?_) #[true,true,true,true,true,true,true,true,true,true,true,true,true,true] rfl rfl (any_of HT_.out (by kernel_rfl)) (fun _ _ _ h => h) (Or.inl ⟨by rfl,?_⟩) ?_ ?_
        rotate_left
        ·intro w'
         go_simp
         with_reducible rfl
        rotate_left
        ·simp only [Act.put,sA,sB,sC,i64_w,i32_w]
         rfl
        refine done_ (done_of HT_.out (by kernel_rfl)) ?_
        try go_wp2
        go_roundg k1
        case measure => have := HK1.out;omega
        case rel => exact ⟨(y551),(wrap64 (x4_1 + 2)),(by first | rfl | (simp;done) | (simp [*];done)),H',⟨by have := HK1.out;omega⟩,⟨by (with_reducible repeat (first | apply Kd.R_alloc | apply Kd.R_drewN | apply Kd.R_drew));exact HO553.out⟩,⟨by repeat (first | (with_reducible first | exact HB.out | apply b_l | apply pw_below_drewN | apply below_drew1) | exact HB.out)⟩⟩
       ·rw [if_neg c9] at H
        exact absurd H (by simp)
      ·rw [if_neg c8] at H
       exact absurd H (by simp)
     ·rw [if_neg c7] at H
      exact absurd H (by simp)
    ·rw [if_neg c5] at H
     exact absurd H (by simp)
   ·rw [if_neg c4] at H
    have c4b0 : decide (x4_1 < (l0.length : Int)) = false := d_F c4
    clear c4
    obtain rfl := Option.some.inj H
    go_wp2
    go_ret
    exact ⟨_,by first | rfl | (simp [errW_none,errW_some] <;> rfl) | (simp [*,errW_none,errW_some] <;> rfl),by (with_reducible repeat (first | apply Kd.R_alloc | apply Kd.R_drewN | apply Kd.R_drew));exact HO_3.out,by repeat (first | (with_reducible first | exact HB.out | apply b_l | apply pw_below_drewN | apply below_drew1) | exact HB.out)⟩
end Go.Proofs.YtgbmnpgaddhfpaaGreatDoor.T
namespace Go.Proofs.YtgbmnpgaddhfpaaGreatDoor.T
open Go.RowKit Go.Proofs.YtgbmnpgaddhfpaaGreatDoorW.PrintWords Go.Proofs.YtgbmnpgaddhfpaaGreatDoorW.PrintLast Go.Proofs.YtgbmnpgaddhfpaaGreatDoorW.PrintMore
attribute [local go_sem] max2_int min2_int max_two min_two
open Go.Proofs.YtgbmnpgaddhfpaaGreatDoor.G
open Tryz
set_option maxRecDepth 100000
def setS : List S63 → Int × Int → Int × Int
 | [],p => p
 | x :: xs,p => setS xs (withS p x.f0)
set_option maxHeartbeats 1000000 in
theorem msg_Set.at (m : ByteArray) (A : Option Addr) (c : Nat) (xs : List S63) (w : World) (hl : xs.length ≤ 4611686018427387904) (hr : Kd.C k63 w A xs.length xs) (hc : xs.length ≤ c) :
  Calls prog 48 #[.agg #[.string m,.slice A xs.length c]] w fun e w' => e = .returned (vSet (setS xs (0,0))) ∧ Below w.heap.size w w' := by
 have hu42 := underlying42
 have hu63 := underlying63
 have hu82 := underlying82
 have HR := aS hr
 have HC := aS hc
 clear hr hc
 go_enter func48,ntmps48
 go_wp2
 have D := aS (Box3.start w (.cells #[.string m,.slice A xs.length c] 42) (.cells #[.int .u64 0,.int .u64 0] 82) (.cells #[.int .u64 0,.int .u64 0] 82))
 go_loopg [9] xs.length (fun g v9 w' => ∃ (i : Nat) (p : Int × Int),v9 = .int .i64 i ∧ i + g = xs.length ∧ Aside0 (setS (xs.drop i) p = setS xs (0,0)) ∧ Aside0 (Box3 w w' (.cells #[.string m,.slice A xs.length c] 42) (.cells #[.int .u64 0,.int .u64 0] 82) (.cells #[.int .u64 p.1,.int .u64 p.2] 82)))
 case atStart => exact ⟨0,(0,0),rfl,Nat.zero_add _,⟨rfl⟩,D⟩
 case round =>
  clear D
  obtain ⟨i,p,rfl,hi,HF,D⟩ := hrel
  obtain ⟨c0,c1⟩ := cells_2 D.out.h3
  obtain ⟨f0,f1⟩ := froz_2 D.out.h3
  have CA := cells_2a D.out.h3
  have FA := froz_2a D.out.h3
  by_cases h : i < xs.length
  ·have e0 : decide ((i : Int) < xs.length) = true := d_T (by omega)
   obtain ⟨ad,rfl,hx0,hx1⟩ := at63 HR.out D.out.below i h
   have q0 : (0 ≤ (i : Int)) = True := eq_true (by omega)
   have q1 : ((i : Int) < xs.length) = True := eq_true (by omega)
   have hf := HF.out
   rw [drop63 h,setS] at hf
   clear HF
   generalize rd_T63 xs (i : Int) = x at *
   have HF := aS hf
   clear hf
   go_wp2_with (first | (go_at_call 107;refine (fields_With.at p _ _).mono ?_;rintro e w1 ⟨rfl,hb1⟩;have D_ := aS (D.out.step (below_a1 hb1));clear D c0 c1 f0 f1 CA FA hb1;have D := D_;clear D_;obtain ⟨c0,c1⟩ := cells_2 D.out.h3;obtain ⟨f0,f1⟩ := froz_2 D.out.h3;simp only [vSet]))
   obtain ⟨g,rfl⟩ : ∃ g,gk = g + 1 := ⟨gk - 1,by omega⟩
   go_roundg g
   case rel => exact ⟨i + 1,withS p x.f0,rfl,by omega,HF,⟨⟨far _ _ (far _ _ D.out.h1 (by show w.heap.size ≠ w.heap.size + 1 + 1;omega)) (by show w.heap.size ≠ w.heap.size + 1 + 1;omega),far _ _ (far _ _ D.out.h2 (by show w.heap.size + 1 ≠ w.heap.size + 1 + 1;omega)) (by show w.heap.size + 1 ≠ w.heap.size + 1 + 1;omega),blk_put (blk_put D.out.h3 0 _ rfl) 1 _ rfl,(D.out.below.setCell (p := ⟨w.heap.size + 1 + 1,0,none⟩) (by show w.heap.size ≤ w.heap.size + 1 + 1;omega) _).setCell (p := ⟨w.heap.size + 1 + 1,1,none⟩) (by show w.heap.size ≤ w.heap.size + 1 + 1;omega) _⟩⟩⟩
   case measure => omega
  ·have e0 : decide ((i : Int) < xs.length) = false := d_F (by omega)
   have hf := HF.out
   rw [List.drop_of_length_le (by omega),setS] at hf
   have HF := aS hf
   clear hf
   obtain ⟨b0,b1⟩ := cells_2 D.out.h2
   obtain ⟨g0,g1⟩ := froz_2 D.out.h2
   go_wp2
   refine bodyPost_ret (results_cell_row rfl _ _ (w.heap.size + 1) 82 _ (0,0) _ rfl (blk_put (blk_put D.out.h2 0 _ rfl) 1 _ rfl) hu82 rfl (by kernel_rfl)) rfl ?_
   exact ⟨by rw [← HF.out];rfl,(D.out.below.setCell (p := ⟨w.heap.size + 1,0,none⟩) (Nat.le_succ _) _).setCell (p := ⟨w.heap.size + 1,1,none⟩) (Nat.le_succ _) _⟩
end Go.Proofs.YtgbmnpgaddhfpaaGreatDoor.T
