/- Walks and plain laws beneath the law TopOutcome. No conditions but what each statement names. -/
import Derived.Deep.RegionLaw
import Derived.Stop.BytesEq
import Derived.Test.YtgbmnpgaddhfpaaGreatDoorM7
set_option linter.unusedVariables false
set_option linter.unusedSimpArgs false
namespace Go.Proofs.YtgbmnpgaddhfpaaGreatDoor.T
open Go.RowKit Go.Proofs.YtgbmnpgaddhfpaaGreatDoorW.PrintWords Go.Proofs.YtgbmnpgaddhfpaaGreatDoorW.PrintLast Go.Proofs.YtgbmnpgaddhfpaaGreatDoorW.PrintMore
attribute [local go_sem] max2_int min2_int max_two min_two
open Go.Proofs.YtgbmnpgaddhfpaaGreatDoor.G
open Tryz
set_option maxRecDepth 100000
def placeW (no : Int) (xs : List S63) : Nat := if idxS no xs 0 < 0 then xs.length else (idxS no xs 0).toNat
def insS (no : Int) (t : ByteArray) (xs : List S63) : List S63 := xs.take (placeW no xs) ++ [⟨no,t⟩] ++ xs.drop (placeW no xs)
def withM (no : Int) (t : ByteArray) (xs : List S63) : List S63 := insS no t (withoutS no xs)
theorem idxS_range (no : Int) : ∀ (xs : List S63) (i : Int),0 ≤ i → idxS no xs i = -1 ∨ i ≤ idxS no xs i ∧ idxS no xs i < i + xs.length
 | [],_,_ => .inl rfl
 | x :: xs,i,hi => by
  rw [idxS]
  split
  ·exact .inr ⟨by omega,by simp;omega⟩
  ·rcases idxS_range no xs (i + 1) (by omega) with h | h
   ·exact .inl h
   ·exact .inr ⟨by omega,by simp;omega⟩
theorem placeW_le (no : Int) (xs : List S63) : placeW no xs ≤ xs.length := by
 unfold placeW
 rcases idxS_range no xs 0 (by omega) with h | h <;> split <;> omega
theorem withoutS_len (no : Int) : ∀ xs : List S63,(withoutS no xs).length ≤ xs.length
 | [] => Nat.le_refl _
 | x :: xs => by
  rw [withoutS]
  have := withoutS_len no xs
  split
  ·simp;omega
  ·simp;omega
theorem make63 {ops : Array Oper} {rest : List Oper} {o : Oper} {a : Act} {Q : Exit → Act → World → Prop} {W : World} (hgd : o.guard = none) (x y : Operand) (ho : o.op = .makeSlice 40 x y) (m : Nat) (hx : a.eval x = .int .i64 m) (hy : a.eval y = .int .i64 m) (hm : m ≤ 2000000)
  (h : ∀ cur : List Value,cur.length = 2 * m → wpList prog ops Q rest (a.put o.dst (.slice (some ⟨W.heap.size,0,none⟩) m m)) (W.alloc (.cells cur.toArray 63))) : wpList prog ops Q (o :: rest) a W := by
 obtain ⟨i0,hi,hzz⟩ := Option.map_eq_some_iff.1 info63
 simp only [Prod.mk.injEq] at hzz
 obtain ⟨hz0,hz1,hz2⟩ := hzz
 have hr := run_make (P := prog) W 40 63 i0 _ underlying40 hi hz0 .i64 .i64 (m : Int) (m : Int) (by omega) (by omega) (by rw [hz2];omega) (by omega)
 simp only [Int.toNat_natCast] at hr
 rw [hz1] at hr
 have h9 := h (madeCells (Value.agg #[(.int .i64 0),(.string ⟨#[]⟩)]).cells (m * 2)).toList (by rw [Array.length_toList,size_madeCells];omega)
 rw [Array.toArray_toList] at h9
 refine wpList_plain hgd fun K hK => ?_
 unfold Oper.wp
 simp only [execOp,ho]
 simp [hx,hy,hr,Result.andThen]
 exact hK _ _ h9
theorem flat63_take : ∀ (xs : List S63) (k : Nat),flat63 (xs.take k) = (flat63 xs).take (2 * k)
 | [],k => by simp [flat63]
 | x :: xs,0 => by simp [flat63]
 | x :: xs,k + 1 => by
  have e : flat63 (x :: xs) = .int .i64 x.f0 :: .string x.f1 :: flat63 xs := rfl
  have e2 : flat63 (x :: xs.take k) = .int .i64 x.f0 :: .string x.f1 :: flat63 (xs.take k) := rfl
  rw [List.take_succ_cons,e,e2,flat63_take xs k,show 2 * (k + 1) = 2 * k + 1 + 1 by omega,List.take_succ_cons,List.take_succ_cons]
theorem take_reads {w : World} {A : Option Addr} {n k : Nat} {xs : List S63} (h : Kd.C k63 w A n xs) (h0 : 0 < (flat63 (xs.take k)).length) : ∃ ad,A = some ad ∧ ∀ j v,(flat63 (xs.take k))[j]? = some v → w.cell? (ad.add j) = some v := by
 have hl : 0 < xs.length := by
  rcases xs with _ | ⟨x,xs⟩
  ·simp [flat63] at h0
  ·simp
 obtain ⟨ad,rfl,_⟩ := h.2.2 (by have := Kd.C_len h;omega)
 refine ⟨ad,rfl,fun j v hv => flat63_reads h j v ?_⟩
 rw [flat63_take,List.getElem?_take] at hv
 split at hv
 ·exact hv
 ·cases hv
theorem drop_reads {w : World} {A : Option Addr} {n k c : Nat} {xs : List S63} (h : Kd.C k63 w A n xs) (hk : k ≤ xs.length) (hc : xs.length ≤ c) (h0 : 0 < (flat63 (xs.drop k)).length) : ∃ ad,(if c = k then A else A.map (·.add (k * 2))) = some ad ∧ ∀ j v,(flat63 (xs.drop k))[j]? = some v → w.cell? (ad.add j) = some v := by
 have hl : 0 < xs.length - k := by rw [flat63_len,List.length_drop] at h0;omega
 have hn := Kd.C_len h
 have h2 : Kd.C k63 w A xs.length xs := by rw [hn];exact h
 have hd := Kd.C_drop h2 hk hc
 obtain ⟨ad,e,_⟩ := hd.2.2 (by rw [List.length_drop];exact hl)
 have hd2 : Kd.C k63 w (some ad) (xs.drop k).length (xs.drop k) := by rw [← e];exact hd
 exact ⟨ad,e,fun j v hv => flat63_reads hd2 j v hv⟩
theorem cp1_row {cur : List Value} {xs : List S63} {k n : Nat} (hc : cur.length = 2 * (n + 1)) (hk : k ≤ xs.length) : (cur.take 0 ++ flat63 (xs.take k) ++ cur.drop (0 + (flat63 (xs.take k)).length)) = flat63 (xs.take k) ++ cur.drop (2 * k) := by
 rw [flat63_len,List.length_take,Nat.min_eq_left hk]
 simp
theorem two_cells {W : World} {g k n : Nat} {cur : List Value} {xs : List S63} (hc : cur.length = 2 * (n + 1)) (hk : k ≤ n) (hx : xs.length = n) (h : W.heap[g]? = some (.cells (flat63 (xs.take k) ++ cur.drop (2 * k)).toArray 63 (0,0))) :
  ∃ u0 u1,W.cell? ⟨g,k * 2,none⟩ = some u0 ∧ W.cell? ⟨g,k * 2 + 1,none⟩ = some u1 ∧ W.frozen? ⟨g,k * 2,none⟩ = false ∧ W.frozen? ⟨g,k * 2 + 1,none⟩ = false := by
 have hl : (flat63 (xs.take k) ++ cur.drop (2 * k)).length = 2 * (n + 1) := by rw [List.length_append,flat63_len,List.length_take,List.length_drop,hc];omega
 have h0 := blk_cell h (k * 2)
 have h1 := blk_cell h (k * 2 + 1)
 rw [List.getElem?_toArray,List.getElem?_eq_getElem (by omega)] at h0 h1
 exact ⟨_,_,h0,h1,blk_frozen h _,blk_frozen h _⟩
theorem two_put {W : World} {g k : Nat} {L : List Value} (h : W.heap[g]? = some (.cells L.toArray 63 (0,0))) (u v : Value) : ((W.setCell ⟨g,k * 2,none⟩ u).setCell ⟨g,k * 2 + 1,none⟩ v).heap[g]? = some (.cells ((L.set (2 * k) u).set (2 * k + 1) v).toArray 63 (0,0)) :=
 blk_put (blk_put h (k * 2) _ (by rw [List.setIfInBounds_toArray,Nat.mul_comm])) (k * 2 + 1) _ (by rw [List.setIfInBounds_toArray,Nat.mul_comm])
theorem ne_of_blk {w W : World} {a b c : Obj} (D : Box3 w W a b c) : W.heap.size ≠ w.heap.size + 1 + 1 := by have := blk_lt D.h3;omega
theorem step_copy2 {ops : Array Oper} {o : Oper} {a : Act} {w : World} {K : Act → World → Prop} {Q : Exit → Act → World → Prop} {E : Prop} (hgd : o.guard = none) (d s : Operand) (ho : o.op = .call { callee := .builtin .copy,args := #[d,s],argTypes := #[40,40] })
  (dp sp : Option Addr) (dLen dCap sLen sCap : Nat) (hd : a.eval d = .slice dp dLen dCap) (hs : a.eval s = .slice sp sLen sCap) (g k : Nat) (cur cs : List Value) (hg : w.heap[g]? = some (.cells cur.toArray 63 (0,0))) (hn : cs.length = Nat.min sLen dLen * 2)
  (hpos : 0 < cs.length → dp = some ⟨g,k,none⟩ ∧ ∃ ad,sp = some ad ∧ ∀ j v,cs[j]? = some v → w.cell? (ad.add j) = some v) (hfit : k + cs.length ≤ cur.length) (h1 : ∀ v ∈ cs,v.oneCell' = true)
  (h : ∀ w' v,w'.heap[g]? = some (.cells (cur.take k ++ cs ++ cur.drop (k + cs.length)).toArray 63 (0,0)) → (∀ j,j ≠ g → w'.heap[j]? = w.heap[j]?) → (∀ (B : Nat) (w0 : World),B ≤ g → Below B w0 w → Below B w0 w') → K (a.put o.dst v) w') :
  if Region.wanted o (yielded ops a.tmps) = true then Oper.wp prog o a w K Q else E := by
 have hw : Region.wanted o (yielded ops a.tmps) = true := by simp [Region.wanted,hgd]
 rw [if_pos hw]
 have hrun := run_copy2 prog w 40 40 o.type 63 dp sp dLen dCap sLen sCap g k cur.toArray 63 cs underlying40 (by kernel_rfl) hg hn hpos (by simpa using hfit) h1
 have hh := setRow_heap w g _ ((cur.toArray.toList.take k ++ cs ++ cur.toArray.toList.drop (k + cs.length)).toArray) 63 _ hg
 have h9 := h (w.setRow g ((cur.toArray.toList.take k ++ cs ++ cur.toArray.toList.drop (k + cs.length)).toArray)) (goInt (Nat.min sLen dLen)) (by simpa using hh) (fun j hj => setRow_other w g j _ hj) (fun B w0 hB hb => below_setRow hb hB _)
 generalize w.setRow g ((cur.toArray.toList.take k ++ cs ++ cur.toArray.toList.drop (k + cs.length)).toArray) = W9 at hrun h9
 unfold Oper.wp
 simp only [execOp,ho,resolve,invoke,builtin]
 simp [hd,hs,hrun,Result.andThen]
 exact h9
theorem row_done {cur : List Value} {xs : List S63} {k : Nat} {no : Int} {t : ByteArray} (hc : cur.length = 2 * (xs.length + 1)) (hk : k ≤ xs.length) :
  ((((flat63 (xs.take k) ++ cur.drop (2 * k)).set (2 * k) (.int .i64 no)).set (2 * k + 1) (.string t)).take (2 * k + 2) ++ flat63 (xs.drop k) ++ (((flat63 (xs.take k) ++ cur.drop (2 * k)).set (2 * k) (.int .i64 no)).set (2 * k + 1) (.string t)).drop (2 * k + 2 + (flat63 (xs.drop k)).length)) = flat63 (xs.take k ++ [⟨no,t⟩] ++ xs.drop k) := by
 have h1 : (flat63 (xs.take k)).length = 2 * k := by rw [flat63_len,List.length_take];omega
 have h2 : (flat63 (xs.drop k)).length = 2 * (xs.length - k) := by rw [flat63_len,List.length_drop]
 obtain ⟨a,b,r,hr⟩ : ∃ a b r,cur.drop (2 * k) = a :: b :: r := by
  have hl : (cur.drop (2 * k)).length = 2 * (xs.length + 1) - 2 * k := by rw [List.length_drop,hc]
  match e : cur.drop (2 * k) with
  | [] => rw [e] at hl;simp at hl;omega
  | [a] => rw [e] at hl;simp at hl;omega
  | a :: b :: r => exact ⟨a,b,r,rfl⟩
 rw [hr]
 have hs1 : (flat63 (xs.take k) ++ a :: b :: r).set (2 * k) (.int .i64 no) = flat63 (xs.take k) ++ .int .i64 no :: b :: r := by
  rw [List.set_append_right _ _ (by omega),h1,Nat.sub_self];rfl
 rw [hs1]
 have hs2 : (flat63 (xs.take k) ++ .int .i64 no :: b :: r).set (2 * k + 1) (.string t) = flat63 (xs.take k) ++ .int .i64 no :: .string t :: r := by
  rw [List.set_append_right _ _ (by omega),h1,show 2 * k + 1 - 2 * k = 1 by omega];rfl
 rw [hs2]
 have hlr : r.length = 2 * (xs.length - k) := by
  have := congrArg List.length hr
  rw [List.length_drop,hc] at this
  simp at this
  omega
 have ht : (flat63 (xs.take k) ++ Value.int .i64 no :: Value.string t :: r).take (2 * k + 2) = flat63 (xs.take k) ++ [.int .i64 no,.string t] := by
  rw [List.take_append,List.take_of_length_le (by omega),h1,show 2 * k + 2 - 2 * k = 2 by omega];rfl
 have hd : (flat63 (xs.take k) ++ Value.int .i64 no :: Value.string t :: r).drop (2 * k + 2 + (flat63 (xs.drop k)).length) = [] := List.drop_of_length_le (by simp [h1,hlr,h2];omega)
 rw [ht,hd,List.append_nil,flat63_app,flat63_app]
 rfl
theorem IndexFunc63.at' (A : Option Addr) (c n : Nat) (xs : List S63) (no : Int) (B : Nat) (w : World) (hn : xs.length = n) (hl : n ≤ 4611686018427387904) (hr : Kd.C k63 w A n xs) (h : w.cell? ⟨B,0,none⟩ = some (.int .i64 no)) :
  Calls prog 97 #[.slice A n c,.func (.func 98) #[] #[.pointer (some ⟨B,0,none⟩)]] w fun e w' => e = .returned (.int .i64 (idxS no xs 0)) ∧ Below w.heap.size w w' := by
 subst hn
 exact IndexFunc63.at A c xs no B w hl hr h
theorem field42 (m : ByteArray) (A : Option Addr) (n c : Nat) (W : World) : (Instr.field 42 (.agg #[.string m,.slice A n c]) 1).run prog W = .ok (.slice A n c) W := by kernel_rfl
set_option maxHeartbeats 4000000 in
theorem msg_With.at (m : ByteArray) (A : Option Addr) (c : Nat) (xs : List S63) (no : Int) (t : ByteArray) (w : World) (hl : xs.length ≤ 1000000) (hr : Kd.C k63 w A xs.length xs) (hc : xs.length ≤ c) :
  Calls prog 41 #[.agg #[.string m,.slice A xs.length c],.int .i64 no,.string t] w fun e w' => (∃ g : Nat,e = .returned (.agg #[.string m,.slice (some ⟨g,0,none⟩) (withM no t xs).length (withM no t xs).length]) ∧ w.heap.size ≤ g ∧ w'.heap[g]? = some (.cells (flat63 (withM no t xs)).toArray 63 (0,0))) ∧ Below w.heap.size w w' := by
 have hu42 := underlying42
 have hu63 := underlying63
 have hfld := field42
 have HR := aS hr
 have HC := aS hc
 obtain ⟨old,hold⟩ : ∃ old,withoutS no xs = old := ⟨_,rfl⟩
 have hol := withoutS_len no xs
 obtain ⟨k,hk⟩ : ∃ k,placeW no old = k := ⟨_,rfl⟩
 have hkl := placeW_le no old
 obtain ⟨ix,hix⟩ : ∃ ix,idxS no old 0 = ix := ⟨_,rfl⟩
 obtain ⟨n,hn⟩ : ∃ n,old.length = n := ⟨_,rfl⟩
 have hkx : (ix < 0 ∧ n = k) ∨ (0 ≤ ix ∧ ix = (k : Int)) := by
  unfold placeW at hk
  rw [hix] at hk
  split at hk <;> omega
 have HW : Aside0 (withM no t xs = old.take k ++ [⟨no,t⟩] ++ old.drop k) := ⟨by unfold withM insS;rw [hold,hk]⟩
 have HWL : Aside0 ((withM no t xs).length = n + 1) := ⟨by rw [HW.out];simp;rw [hk] at hkl;omega⟩
 rw [hold] at hol
 rw [hk,hn] at hkl
 have HOL : Aside0 (n ≤ 1000000) := ⟨by omega⟩
 have HKN := aS hkl
 have HN := aS hn
 clear hr hc hol hk hkl hn
 rcases hkx with ⟨hx,rfl⟩ | ⟨hx,rfl⟩
 ·have e1 : decide (ix < 0) = true := d_T hx
  go_enter func41,ntmps41
  go_wp2_with (first | (go_at_call 96;refine (msg_Without.at m A c xs no _ hl (c_B HR.out (Box3.start w _ _ _).below) HC.out).mono ?_;rintro e w1 ⟨⟨A1,c1,rfl,hc1,hC1⟩,hb1⟩;rw [hold] at hc1 hC1 ⊢;rw [HN.out] at hc1 hC1 ⊢;have D := aS (Box3.init hb1);have HC1 := aS hC1;have HCL1 := aS hc1;clear hb1 hc1 hC1;obtain ⟨a0,a1⟩ := cells_2 D.out.h1) | (go_at_call 97;refine (IndexFunc63.at' A1 c1 n old no (w.heap.size + 1) _ HN.out (by have := HOL.out;omega) HC1.out (blk_cell D.out.h2 0)).mono ?_;rintro e w2 ⟨rfl,hb1⟩;rw [hix];have D_ := aS (D.out.step hb1);have HC_ := aS (c_B HC1.out hb1);clear D HC1 a0 a1 hb1;have D := D_;have HC1 := HC_;clear D_ HC_;obtain ⟨a0,a1⟩ := cells_2 D.out.h1;obtain ⟨i0,hi0,_,hsz,_⟩ := info_parts info63;have hct := cut_to (P := prog) 40 63 .i64 underlying40 hi0 A1 n c1 (n : Int) (by omega) (by have := HKN.out;omega) HCL1.out;have hcf := cut_from (P := prog) 40 63 .i64 underlying40 hi0 2 hsz A1 n c1 (n : Int) (by omega) (by have := HKN.out;omega);simp only [Int.toNat_natCast] at hct hcf;clear hi0 hsz) | ((with_reducible refine gate_dst (N := 24) rfl ?_);refine make63 rfl _ _ rfl (n + 1) ?m1 ?m2 (by have := HOL.out;have := HN.out;omega) ?_;(case m1 => go_simp;(have := HOL.out;have := HN.out;first | done | omega | (unfold wrap64;omega)));(case m2 => go_simp;(have := HOL.out;have := HN.out;first | done | omega | (unfold wrap64;omega)));intro cur hcur;have HCUR := aS hcur;clear hcur;have D_ := aS (D.out.step (b_l (Below.refl _ _) (.cells cur.toArray 63)));have HC_ := aS (Kd.C_alloc HC1.out (.cells cur.toArray 63));have G := aS (blk_new w2 (.cells cur.toArray 63));have D2 := D;have HC2 := HC1;clear D HC1 a0 a1;have D := D_;have HC1 := HC_;clear D_ HC_;obtain ⟨a0,a1⟩ := cells_2 D.out.h1) | ((with_reducible refine gate_builtin (b := .copy) (xs := #[.tmp 25,.tmp 28]) rfl ?_);refine wp_copy2 rfl (.tmp 25) (.tmp 28) rfl (some ⟨w2.heap.size,0,none⟩) A1 (n + 1) (n + 1) n c1 rfl rfl w2.heap.size 0 cur (flat63 (old.take n)) G.out ?c1 ?c2 ?c3 (flat63_one _) ?_;(case c1 => rw [flat63_len,List.length_take];have := HN.out;have := HKN.out;show 2 * min n old.length = min n (n + 1) * 2;omega);(case c2 => intro h0;exact ⟨rfl,take_reads HC1.out h0⟩);(case c3 => rw [flat63_len,List.length_take,HCUR.out];have := HN.out;have := HKN.out;omega);intro w3 v3 g3 k3 b3;rw [cp1_row HCUR.out (by have := HN.out;have := HKN.out;omega)] at g3;have hb := b3 w2.heap.size w2 (Nat.le_refl _) (bO _);clear D HC1 G a0 a1 k3 b3;have D := aS (D2.out.step hb);have HC1 := aS (c_B HC2.out hb);have G := aS g3;have HB3 := aS hb;clear g3 hb;obtain ⟨a0,a1⟩ := cells_2 D.out.h1;have n0 := blk_cell D.out.h2 0;have q1 : ((n : Int) < ((n + 1 : Nat) : Int)) = True := eq_true (by have := HKN.out;omega);have q2 : ((n : Int) < (n : Int) + 1) = True := eq_true (by have := HKN.out;omega);have q0 : (0 ≤ (n : Int)) = True := eq_true (by omega);obtain ⟨u0,u1,x0,x1,y0,y1⟩ := two_cells HCUR.out HKN.out HN.out G.out))
  obtain ⟨i1,hi1,_,hsz1,_⟩ := info_parts info63
  have hcg := cut_from (P := prog) 40 63 .i64 underlying40 hi1 2 hsz1 (some ⟨w2.heap.size,0,none⟩) (n + 1) (n + 1) ((n : Int) + 1) (by omega) (by have := HKN.out;omega)
  rw [show ((n : Int) + 1).toNat = n + 1 by omega] at hcg
  obtain ⟨dp2,hdp⟩ : ∃ dp2,dp2 = (if n + 1 = n + 1 then (some ⟨w2.heap.size,0,none⟩ : Option Addr) else (some ⟨w2.heap.size,0,none⟩ : Option Addr).map (·.add ((n + 1) * 2))) := ⟨_,rfl⟩
  obtain ⟨dl,hdl⟩ : ∃ dl,dl = n + 1 - (n + 1) := ⟨_,rfl⟩
  rw [← hdp,← hdl] at hcg
  obtain ⟨sp2,hsp⟩ : ∃ sp2,sp2 = (if c1 = n then A1 else A1.map (·.add (n * 2))) := ⟨_,rfl⟩
  rw [← hsp] at hcf
  have HDL := aS hdl
  have HCUR2 : Aside0 (cur.length = 2 * (old.length + 1)) := ⟨by rw [HN.out];exact HCUR.out⟩
  have G2 := aS (two_put (k := n) G.out (.int .i64 no) (.string t))
  have HBc := aS ((HB3.out.setCell (p := ⟨w2.heap.size,n * 2,none⟩) (Nat.le_refl _) (.int .i64 no)).setCell (p := ⟨w2.heap.size,n * 2 + 1,none⟩) (Nat.le_refl _) (.string t))
  have HD2 : Aside0 (0 < (flat63 (old.drop n)).length → dp2 = some ⟨w2.heap.size,2 * n + 2,none⟩ ∧ ∃ ad,sp2 = some ad ∧ ∀ j v,(flat63 (old.drop n))[j]? = some v → ((w3.setCell ⟨w2.heap.size,n * 2,none⟩ (.int .i64 no)).setCell ⟨w2.heap.size,n * 2 + 1,none⟩ (.string t)).cell? (ad.add j) = some v) := ⟨fun h0 => ⟨by have h1 := h0;rw [flat63_len,List.length_drop,HN.out] at h1;rw [hdp,if_neg (by omega)];show some (Addr.add ⟨w2.heap.size,0,none⟩ ((n + 1) * 2)) = _;rw [show (⟨w2.heap.size,0,none⟩ : Addr).add ((n + 1) * 2) = ⟨w2.heap.size,0 + (n + 1) * 2,none⟩ by unfold Addr.add;split <;> simp_all,show 0 + (n + 1) * 2 = 2 * n + 2 by omega],by rw [hsp];exact drop_reads (c_B HC2.out HBc.out) (by have := HN.out;have := HKN.out;omega) (by rw [HN.out];exact HCL1.out) h0⟩⟩
  have e9 : wrap64 ((n : Int) + 1) = (n : Int) + 1 := by have := HOL.out;have := HKN.out;unfold wrap64;omega
  have e8 : IntKind.i64.wrap ((n : Int) + 1) = (n : Int) + 1 := i64_small _ (by omega) (by have := HOL.out;have := HKN.out;omega)
  clear hdp hdl hsp
  go_region_law (refine step_copy2 rfl (.tmp 39) (.tmp 42) rfl dp2 sp2 dl dl (n - n) (c1 - n) (by simp [Act.eval,Act.put]) (by simp [Act.eval,Act.put]) w2.heap.size (2 * n + 2) ((((flat63 (old.take n) ++ cur.drop (2 * n)).set (2 * n) (.int .i64 no)).set (2 * n + 1) (.string t))) (flat63 (old.drop n)) G2.out ?d1 ?d2 ?d3 (flat63_one _) ?_;(case d1 => rw [flat63_len,List.length_drop];have := HN.out;have := HKN.out;have := HDL.out;show 2 * (old.length - n) = min (n - n) dl * 2;omega);(case d2 => intro h0;exact HD2.out h0);(case d3 => have := HN.out;have := HKN.out;have := HCUR.out;simp only [List.length_set,List.length_append,flat63_len,List.length_take,List.length_drop];omega);intro w4 v4 g4 k4 b4;rw [row_done HCUR2.out (by have := HN.out;have := HKN.out;omega),← HW.out] at g4;have hb := b4 w2.heap.size w2 (Nat.le_refl _) (below_drew1 HBc.out);clear D HC1 G a0 a1 n0 k4 b4 u0 u1 x0 x1 y0 y1;have D := aS (D2.out.step hb);have G := aS g4;clear g4 hb;obtain ⟨a0,a1⟩ := cells_2 D.out.h1;obtain ⟨c0,c1f⟩ := cells_2 D.out.h3;obtain ⟨f0,f1⟩ := froz_2 D.out.h3)
  all_goals go_wp2
  all_goals refine bodyPost_ret (results_cell_row rfl _ _ (w.heap.size + 1 + 1) 42 _ (0,0) _ rfl (blk_put (blk_put D.out.h3 0 _ rfl) 1 _ rfl) hu42 rfl (by kernel_rfl)) rfl ?_
  all_goals exact ⟨⟨w2.heap.size,by rw [HWL.out];rfl,D2.out.below.size,far _ _ (far _ _ G.out (ne_of_blk D2.out)) (ne_of_blk D2.out)⟩,(D.out.below.setCell (p := ⟨w.heap.size + 1 + 1,0,none⟩) (by show w.heap.size ≤ w.heap.size + 1 + 1;omega) _).setCell (p := ⟨w.heap.size + 1 + 1,1,none⟩) (by show w.heap.size ≤ w.heap.size + 1 + 1;omega) _⟩
 ·have e1 : decide ((k : Int) < 0) = false := d_F (by omega)
  go_enter func41,ntmps41
  go_wp2_with (first | (go_at_call 96;refine (msg_Without.at m A c xs no _ hl (c_B HR.out (Box3.start w _ _ _).below) HC.out).mono ?_;rintro e w1 ⟨⟨A1,c1,rfl,hc1,hC1⟩,hb1⟩;rw [hold] at hc1 hC1 ⊢;rw [HN.out] at hc1 hC1 ⊢;have D := aS (Box3.init hb1);have HC1 := aS hC1;have HCL1 := aS hc1;clear hb1 hc1 hC1;obtain ⟨a0,a1⟩ := cells_2 D.out.h1) | (go_at_call 97;refine (IndexFunc63.at' A1 c1 n old no (w.heap.size + 1) _ HN.out (by have := HOL.out;omega) HC1.out (blk_cell D.out.h2 0)).mono ?_;rintro e w2 ⟨rfl,hb1⟩;rw [hix];have D_ := aS (D.out.step hb1);have HC_ := aS (c_B HC1.out hb1);clear D HC1 a0 a1 hb1;have D := D_;have HC1 := HC_;clear D_ HC_;obtain ⟨a0,a1⟩ := cells_2 D.out.h1;obtain ⟨i0,hi0,_,hsz,_⟩ := info_parts info63;have hct := cut_to (P := prog) 40 63 .i64 underlying40 hi0 A1 n c1 (k : Int) (by omega) (by have := HKN.out;omega) HCL1.out;have hcf := cut_from (P := prog) 40 63 .i64 underlying40 hi0 2 hsz A1 n c1 (k : Int) (by omega) (by have := HKN.out;omega);simp only [Int.toNat_natCast] at hct hcf;clear hi0 hsz) | ((with_reducible refine gate_dst (N := 24) rfl ?_);refine make63 rfl _ _ rfl (n + 1) ?m1 ?m2 (by have := HOL.out;have := HN.out;omega) ?_;(case m1 => go_simp;(have := HOL.out;have := HN.out;first | done | omega | (unfold wrap64;omega)));(case m2 => go_simp;(have := HOL.out;have := HN.out;first | done | omega | (unfold wrap64;omega)));intro cur hcur;have HCUR := aS hcur;clear hcur;have D_ := aS (D.out.step (b_l (Below.refl _ _) (.cells cur.toArray 63)));have HC_ := aS (Kd.C_alloc HC1.out (.cells cur.toArray 63));have G := aS (blk_new w2 (.cells cur.toArray 63));have D2 := D;have HC2 := HC1;clear D HC1 a0 a1;have D := D_;have HC1 := HC_;clear D_ HC_;obtain ⟨a0,a1⟩ := cells_2 D.out.h1) | ((with_reducible refine gate_builtin (b := .copy) (xs := #[.tmp 25,.tmp 28]) rfl ?_);refine wp_copy2 rfl (.tmp 25) (.tmp 28) rfl (some ⟨w2.heap.size,0,none⟩) A1 (n + 1) (n + 1) k c1 rfl rfl w2.heap.size 0 cur (flat63 (old.take k)) G.out ?c1 ?c2 ?c3 (flat63_one _) ?_;(case c1 => rw [flat63_len,List.length_take];have := HN.out;have := HKN.out;show 2 * min k old.length = min k (n + 1) * 2;omega);(case c2 => intro h0;exact ⟨rfl,take_reads HC1.out h0⟩);(case c3 => rw [flat63_len,List.length_take,HCUR.out];have := HN.out;have := HKN.out;omega);intro w3 v3 g3 k3 b3;rw [cp1_row HCUR.out (by have := HN.out;have := HKN.out;omega)] at g3;have hb := b3 w2.heap.size w2 (Nat.le_refl _) (bO _);clear D HC1 G a0 a1 k3 b3;have D := aS (D2.out.step hb);have HC1 := aS (c_B HC2.out hb);have G := aS g3;have HB3 := aS hb;clear g3 hb;obtain ⟨a0,a1⟩ := cells_2 D.out.h1;have n0 := blk_cell D.out.h2 0;have q1 : ((k : Int) < ((n + 1 : Nat) : Int)) = True := eq_true (by have := HKN.out;omega);have q2 : ((k : Int) < (n : Int) + 1) = True := eq_true (by have := HKN.out;omega);have q0 : (0 ≤ (k : Int)) = True := eq_true (by omega);obtain ⟨u0,u1,x0,x1,y0,y1⟩ := two_cells HCUR.out HKN.out HN.out G.out))
  obtain ⟨i1,hi1,_,hsz1,_⟩ := info_parts info63
  have hcg := cut_from (P := prog) 40 63 .i64 underlying40 hi1 2 hsz1 (some ⟨w2.heap.size,0,none⟩) (n + 1) (n + 1) ((k : Int) + 1) (by omega) (by have := HKN.out;omega)
  rw [show ((k : Int) + 1).toNat = k + 1 by omega] at hcg
  obtain ⟨dp2,hdp⟩ : ∃ dp2,dp2 = (if n + 1 = k + 1 then (some ⟨w2.heap.size,0,none⟩ : Option Addr) else (some ⟨w2.heap.size,0,none⟩ : Option Addr).map (·.add ((k + 1) * 2))) := ⟨_,rfl⟩
  obtain ⟨dl,hdl⟩ : ∃ dl,dl = n + 1 - (k + 1) := ⟨_,rfl⟩
  rw [← hdp,← hdl] at hcg
  obtain ⟨sp2,hsp⟩ : ∃ sp2,sp2 = (if c1 = k then A1 else A1.map (·.add (k * 2))) := ⟨_,rfl⟩
  rw [← hsp] at hcf
  have HDL := aS hdl
  have HCUR2 : Aside0 (cur.length = 2 * (old.length + 1)) := ⟨by rw [HN.out];exact HCUR.out⟩
  have G2 := aS (two_put (k := k) G.out (.int .i64 no) (.string t))
  have HBc := aS ((HB3.out.setCell (p := ⟨w2.heap.size,k * 2,none⟩) (Nat.le_refl _) (.int .i64 no)).setCell (p := ⟨w2.heap.size,k * 2 + 1,none⟩) (Nat.le_refl _) (.string t))
  have HD2 : Aside0 (0 < (flat63 (old.drop k)).length → dp2 = some ⟨w2.heap.size,2 * k + 2,none⟩ ∧ ∃ ad,sp2 = some ad ∧ ∀ j v,(flat63 (old.drop k))[j]? = some v → ((w3.setCell ⟨w2.heap.size,k * 2,none⟩ (.int .i64 no)).setCell ⟨w2.heap.size,k * 2 + 1,none⟩ (.string t)).cell? (ad.add j) = some v) := ⟨fun h0 => ⟨by have h1 := h0;rw [flat63_len,List.length_drop,HN.out] at h1;rw [hdp,if_neg (by omega)];show some (Addr.add ⟨w2.heap.size,0,none⟩ ((k + 1) * 2)) = _;rw [show (⟨w2.heap.size,0,none⟩ : Addr).add ((k + 1) * 2) = ⟨w2.heap.size,0 + (k + 1) * 2,none⟩ by unfold Addr.add;split <;> simp_all,show 0 + (k + 1) * 2 = 2 * k + 2 by omega],by rw [hsp];exact drop_reads (c_B HC2.out HBc.out) (by have := HN.out;have := HKN.out;omega) (by rw [HN.out];exact HCL1.out) h0⟩⟩
  have e9 : wrap64 ((k : Int) + 1) = (k : Int) + 1 := by have := HOL.out;have := HKN.out;unfold wrap64;omega
  have e8 : IntKind.i64.wrap ((k : Int) + 1) = (k : Int) + 1 := i64_small _ (by omega) (by have := HOL.out;have := HKN.out;omega)
  clear hdp hdl hsp
  go_region_law (refine step_copy2 rfl (.tmp 39) (.tmp 42) rfl dp2 sp2 dl dl (n - k) (c1 - k) (by simp [Act.eval,Act.put]) (by simp [Act.eval,Act.put]) w2.heap.size (2 * k + 2) ((((flat63 (old.take k) ++ cur.drop (2 * k)).set (2 * k) (.int .i64 no)).set (2 * k + 1) (.string t))) (flat63 (old.drop k)) G2.out ?d1 ?d2 ?d3 (flat63_one _) ?_;(case d1 => rw [flat63_len,List.length_drop];have := HN.out;have := HKN.out;have := HDL.out;show 2 * (old.length - k) = min (n - k) dl * 2;omega);(case d2 => intro h0;exact HD2.out h0);(case d3 => have := HN.out;have := HKN.out;have := HCUR.out;simp only [List.length_set,List.length_append,flat63_len,List.length_take,List.length_drop];omega);intro w4 v4 g4 k4 b4;rw [row_done HCUR2.out (by have := HN.out;have := HKN.out;omega),← HW.out] at g4;have hb := b4 w2.heap.size w2 (Nat.le_refl _) (below_drew1 HBc.out);clear D HC1 G a0 a1 n0 k4 b4 u0 u1 x0 x1 y0 y1;have D := aS (D2.out.step hb);have G := aS g4;clear g4 hb;obtain ⟨a0,a1⟩ := cells_2 D.out.h1;obtain ⟨c0,c1f⟩ := cells_2 D.out.h3;obtain ⟨f0,f1⟩ := froz_2 D.out.h3)
  all_goals go_wp2
  all_goals refine bodyPost_ret (results_cell_row rfl _ _ (w.heap.size + 1 + 1) 42 _ (0,0) _ rfl (blk_put (blk_put D.out.h3 0 _ rfl) 1 _ rfl) hu42 rfl (by kernel_rfl)) rfl ?_
  all_goals exact ⟨⟨w2.heap.size,by rw [HWL.out];rfl,D2.out.below.size,far _ _ (far _ _ G.out (ne_of_blk D2.out)) (ne_of_blk D2.out)⟩,(D.out.below.setCell (p := ⟨w.heap.size + 1 + 1,0,none⟩) (by show w.heap.size ≤ w.heap.size + 1 + 1;omega) _).setCell (p := ⟨w.heap.size + 1 + 1,1,none⟩) (by show w.heap.size ≤ w.heap.size + 1 + 1;omega) _⟩
def typP (st : Int) (m : ByteArray) : ByteArray := if st = 1 then m else (bcdP m).1
set_option maxHeartbeats 1000000 in
theorem wire_Type.at (st : Int) (m : ByteArray) (w : World) (hst : st = 1 ∨ st = 2) (hm : isMti m = true) :
  Calls prog 46 #[.int .i64 st,.string m] w fun e w' => (∃ ok,e = .returned (.tuple #[.string (typP st m),.bool ok])) ∧ Below w.heap.size w w' := by
 obtain ⟨r,hg⟩ : ∃ r,typP st m = r := ⟨_,rfl⟩
 rw [hg]
 rw [typP] at hg
 rcases hst with rfl | rfl
 ·have HG := aS hg
  clear hg
  go_enter func46,ntmps46
  go_wp2_with (first | (go_at_call 51;refine (mti_Right.at _ _).mono ?_;rintro e w1 ⟨rfl,hb⟩;rw [hm]))
  go_ret2
  obtain rfl := HG.out
  exact ⟨⟨_,rfl⟩,hb⟩
 ·obtain ⟨v1,v2,hv⟩ : ∃ v1 v2,bcdP m = (v1,v2) := ⟨_,_,rfl⟩
  rw [hv] at hg
  have HG := aS hg
  clear hg
  go_enter func46,ntmps46
  go_wp2_with (first | (go_at_call 51;refine (mti_Right.at _ _).mono ?_;rintro e w1 ⟨rfl,hb⟩;rw [hm]) | (go_at_call 102;refine (bcd_Put.at _ _).mono ?_;rintro e w2 ⟨rfl,hb2⟩;rw [hv]))
  go_ret2
  obtain rfl := HG.out
  exact ⟨⟨_,rfl⟩,b_s hb hb2⟩
def cellP (st : Int) (x : S87) (t : ByteArray) : ByteArray :=
 (if x.f2 = 1 then ⟨#[]⟩ else (preP st x.f2 t.size).1) ++ (if howV st x.f1 = 1 then (bcdP t).1 else if howV st x.f1 = 2 then hexP t else t)
theorem nums_size (xs : List Int) : (strOfNums xs).size = xs.length := by
 have hl := data_length (strOfNums xs)
 rw [strOfNums_data,List.length_map] at hl
 exact hl.symm
theorem hexa_Put.size (s : ByteArray) : ∀ (k : Nat) (xs : List Int) (i : Nat) (r : ByteArray),s.size ≤ 1000000 → i ≤ s.size → xs.length ≤ 2 * i → hexa_Put.l0 k s xs i = some r → r.size ≤ 2 * s.size
 | 0,_,_,_,_,_,_,h => by simp [hexa_Put.l0] at h
 | k + 1,xs,i,r,hs,hi,hx,he => by
  rw [hexa_Put.l0] at he
  by_cases c : (i : Int) < s.size
  ·have hr := bt_range s (i : Int)
   rw [if_pos c,if_pos (by omega),if_pos (by omega),if_pos (by omega),and15 hr.1 hr.2,if_pos (by omega),if_pos (by omega),Option.bind_some,if_pos (by simp;omega),show wrap64 ((i : Int) + 1) = ((i + 1 : Nat) : Int) from w64n i (by omega) 1 (by omega)] at he
   exact hexa_Put.size s k _ _ r hs (by omega) (by rw [List.length_append];simp;omega) he
  ·rw [if_neg c] at he
   cases he
   rw [nums_size];omega
theorem hexP_size (s : ByteArray) (hs : s.size ≤ 1000000) : (hexP s).size ≤ 2000000 := by
 unfold hexP
 cases h : hexa_Put.f (s.size + 3) s with
 | none => exact Nat.zero_le _
 | some r => have := hexa_Put.size s _ [] 0 r hs (by omega) (by simp) h;show r.size ≤ _;omega
theorem bcd_Put.size0 (s : ByteArray) : ∀ (k : Nat) (xs : List Int) (i : Nat) (r : ByteArray × Bool),s.size ≤ 1000000 → s.size % 2 = 0 → i % 2 = 0 → i ≤ s.size → xs.length ≤ i → bcd_Put.l0 k s xs i = some r → r.1.size ≤ s.size
 | 0,_,_,_,_,_,_,_,_,h => by simp [bcd_Put.l0] at h
 | k + 1,xs,i,r,hs,h2,hi2,hi,hx,he => by
  rw [bcd_Put.l0] at he
  by_cases c : (i : Int) < s.size
  ·have hw1 : wrap64 ((i : Int) + 1) = ((i + 1 : Nat) : Int) := w64n i (by omega) 1 (by omega)
   have hw2 : wrap64 ((i : Int) + 2) = ((i + 2 : Nat) : Int) := w64n i (by omega) 2 (by omega)
   rw [if_pos c,if_pos (by omega),hw1,if_pos (by omega),if_pos (by omega),if_pos (by omega),hw2] at he
   exact bcd_Put.size0 s k _ _ r hs h2 (by omega) (by omega) (by rw [List.length_append,List.length_singleton];omega) he
  ·rw [if_neg c] at he
   cases he
   show (strOfNums xs).size ≤ _
   rw [nums_size];omega
theorem bcdP_size (s : ByteArray) : (bcdP s).1.size ≤ 1000 := by
 have h1 : ∀ t : ByteArray,t.size ≤ 1000 → t.size % 2 = 0 → ∀ k r,bcd_Put.j1 k t = some r → r.1.size ≤ 1000 := by
  intro t ht h2 k r hr
  cases k with
  | zero => simp [bcd_Put.j1] at hr
  | succ k =>
   rw [bcd_Put.j1,if_pos (by omega)] at hr
   have := bcd_Put.size0 t k [] 0 r (by omega) h2 rfl (by omega) (by simp) hr
   omega
 unfold bcdP
 cases h : bcd_Put.f (s.size + 5) s with
 | none => exact Nat.zero_le _
 | some r =>
  show r.1.size ≤ 1000
  rw [bcd_Put.f] at h
  by_cases c : (s.size : Int) > 999
  ·rw [if_pos c,bcd_Put.j0,if_pos rfl] at h
   cases h
   exact Nat.zero_le _
  ·rw [if_neg c,digits_All.f,Option.bind_some,bcd_Put.j0] at h
   split at h
   ·cases h
    exact Nat.zero_le _
   ·split at h
    ·exact h1 s (by omega) (by omega) _ _ h
    ·have hz : ((⟨#[48]⟩ : ByteArray) ++ s).size = 1 + s.size := app_size _ _
     rw [if_pos (by omega)] at h
     exact h1 _ (by omega) (by omega) _ _ h
theorem digits_Put.size0 : ∀ (k : Nat) (n : Int) (xs : List Int) (i : Int) (r : ByteArray × Bool),digits_Put.l0 k n xs i = some r → r.1.size ≤ xs.length
 | 0,_,_,_,_,h => by simp [digits_Put.l0] at h
 | k + 1,n,xs,i,r,h => by
  rw [digits_Put.l0] at h
  (repeat' split at h) <;> first | (cases h;done) | skip
  ·have := digits_Put.size0 k _ _ _ r h
   rw [List.length_set] at this
   exact this
  ·cases h;exact Nat.zero_le _
  ·cases h;show (strOfNums xs).size ≤ _;rw [nums_size];exact Nat.le_refl _
theorem digP_size (n wd : Int) : (digP n wd).1.size ≤ 18 := by
 have h1 : ∀ r,digits_Put.j0 30 n wd true = some r → r.1.size ≤ 18 := by
  intro r h
  rw [digits_Put.j0,if_pos rfl] at h
  cases h
  exact Nat.zero_le _
 unfold digP
 cases h : digits_Put.f 30 n wd with
 | none => exact Nat.zero_le _
 | some r =>
  show r.1.size ≤ 18
  rw [digits_Put.f] at h
  split at h
  ·exact h1 r h
  ·split at h
   ·exact h1 r h
   ·rename_i c1 c2
    by_cases c : wd > 18
    ·rw [d_T c] at h;exact h1 r h
    ·rw [d_F c,digits_Put.j0,if_neg (by decide),if_pos (by omega),if_pos (by omega)] at h
     have := digits_Put.size0 _ _ _ _ r h
     rw [List.length_replicate] at this
     omega
theorem preP_size (st f n : Int) : (preP st f n).1.size ≤ 1000 := by
 unfold preP
 split
 ·exact Nat.zero_le _
 ·split
  ·exact bcdP_size _
  ·have := digP_size n (width f);show (digP n (width f)).1.size ≤ 1000;omega
theorem specValue_facts {x : S87} {t : ByteArray} (h : specValue x t = 0) : specCheck x = 0 ∧ (t.size : Int) ≥ x.f3 ∧ (t.size : Int) ≤ x.f4 ∧ t.size ≤ 999 := by
 unfold specValue at h
 (repeat' split at h) <;> first | (exact absurd h (by decide)) | skip
 rename_i a b c d
 have ha : specCheck x = 0 := by simpa using a
 have hf : x.f4 ≤ 999 := by
  unfold specCheck at ha
  (repeat' split at ha) <;> first | (exact absurd ha (by decide)) | omega
 exact ⟨ha,by omega,by omega,by omega⟩
theorem cellP_size (st : Int) (x : S87) (t : ByteArray) (ht : t.size ≤ 1000) : (cellP st x t).size ≤ 2002000 := by
 unfold cellP
 rw [app_size]
 have h1 := preP_size st x.f2 t.size
 have h2 := bcdP_size t
 have h3 := hexP_size t (by omega)
 have h4 : (if x.f2 = 1 then (⟨#[]⟩ : ByteArray) else (preP st x.f2 t.size).1).size ≤ 1000 := by split;exact Nat.zero_le _;exact h1
 have h5 : (if howV st x.f1 = 1 then (bcdP t).1 else if howV st x.f1 = 2 then hexP t else t).size ≤ 2000000 := by (repeat' split) <;> omega
 omega
set_option maxHeartbeats 2000000 in
theorem cell_Put.at (st : Int) (x : S87) (t : ByteArray) (w : World) (hst : st = 1 ∨ st = 2) (hv : specValue x t = 0) :
  Calls prog 49 #[.int .i64 st,v87 x,.string t] w fun e w' => e = .returned (.tuple #[.string (cellP st x t),.int .i64 0]) ∧ Below w.heap.size w w' := by
 have hu87 := underlying87
 have hk : known st = true := by rcases hst with rfl | rfl <;> decide
 obtain ⟨hx,hs1,hs2,hs3⟩ := specValue_facts hv
 have hfo : x.f2 = 1 ∨ x.f2 = 2 ∨ x.f2 = 3 := by
  unfold specCheck at hx
  (repeat' split at hx) <;> first | (exact absurd hx (by decide)) | omega
 have HT : Aside0 (t.size ≤ 1000000) := ⟨by omega⟩
 have hh : howV st x.f1 = 0 ∨ howV st x.f1 = 1 ∨ howV st x.f1 = 2 := by unfold howV;(repeat' split) <;> decide
 obtain ⟨r,hg⟩ : ∃ r,cellP st x t = r := ⟨_,rfl⟩
 rw [hg]
 rw [cellP] at hg
 have z1 := preP_size st x.f2 t.size
 have z2 := bcdP_size t
 have z3 := hexP_size t HT.out
 have z0 : t.size ≤ 999 := hs3
 clear hx hs1 hs2 hs3
 unfold v87
 by_cases hF : x.f2 = 1
 ·have e2 : (x.f2 != 1) = false := bne_eq_false_iff_eq.mpr hF
  rw [if_pos hF] at hg
  clear hF hfo z1
  rcases hh with hh | hh | hh
  all_goals
   rw [hh] at hg
   simp only [reduceIte,Int.reduceEq] at hg
   have HG := aS hg
   clear hg
   go_enter func49,ntmps49
   go_wp2_with (first | (go_at_call 86;refine (cell_known.at _ _).mono ?_;rintro e w1 ⟨rfl,rfl⟩;rw [hk]) | (go_at_call 90;refine (spec_Value.at x _ _ HT.out).mono ?_;rintro e w2 ⟨rfl,hb1⟩;rw [hv];have B := aS (blk_nb hb1);have H := aS (below_a1 hb1);clear hb1;obtain ⟨k0,k1,k2,k3,k4⟩ := cells_5 B.out) | (go_at_call 88;refine (cell_how.at _ _ _).mono ?_;rintro e w3 ⟨rfl,rfl⟩;rw [hh]) | (go_at_call 102;refine (bcd_Put.at _ _).mono ?_;rintro e w4 ⟨rfl,hb1⟩;have H_ := aS (b_s H.out hb1);clear B H k0 k1 k2 k3 k4 hb1;have H := H_;clear H_) | (go_at_call 106;refine (hexa_Put.at _ _ HT.out).mono ?_;rintro e w4 ⟨rfl,hb1⟩;have H_ := aS (b_s H.out hb1);clear B H k0 k1 k2 k3 k4 hb1;have H := H_;clear H_))
   go_ret2
   obtain rfl := HG.out
   exact ⟨rfl,H.out⟩
 ·have e2 : (x.f2 != 1) = true := bne_iff_ne.mpr hF
  have HFO : Aside0 (x.f2 = 2 ∨ x.f2 = 3) := ⟨by omega⟩
  rw [if_neg hF] at hg
  clear hF hfo
  obtain ⟨q1,q2,hp⟩ : ∃ q1 q2,preP st x.f2 t.size = (q1,q2) := ⟨_,_,rfl⟩
  rw [hp] at hg z1
  simp only at z1
  rcases hh with hh | hh | hh
  all_goals
   rw [hh] at hg
   simp only [reduceIte,Int.reduceEq] at hg
   have HG := aS hg
   clear hg
   go_enter func49,ntmps49
   go_wp2_with (first | (go_at_call 86;refine (cell_known.at _ _).mono ?_;rintro e w1 ⟨rfl,rfl⟩;rw [hk]) | (go_at_call 90;refine (spec_Value.at x _ _ HT.out).mono ?_;rintro e w2 ⟨rfl,hb1⟩;rw [hv];have B := aS (blk_nb hb1);have H := aS (below_a1 hb1);clear hb1;obtain ⟨k0,k1,k2,k3,k4⟩ := cells_5 B.out) | (go_at_call 108;refine (prefix_Put.at _ _ _ _ hst HFO.out).mono ?_;rintro e w3 ⟨rfl,hb1⟩;rw [hp];have B_ := aS (k_B B.out hb1);have H_ := aS (b_s H.out hb1);clear B H k0 k1 k2 k3 k4 hb1;have B := B_;have H := H_;clear B_ H_;obtain ⟨k0,k1,k2,k3,k4⟩ := cells_5 B.out) | (go_at_call 88;refine (cell_how.at _ _ _).mono ?_;rintro e w3 ⟨rfl,rfl⟩;rw [hh]) | (go_at_call 102;refine (bcd_Put.at _ _).mono ?_;rintro e w4 ⟨rfl,hb1⟩;have H_ := aS (b_s H.out hb1);clear B H k0 k1 k2 k3 k4 hb1;have H := H_;clear H_) | (go_at_call 106;refine (hexa_Put.at _ _ HT.out).mono ?_;rintro e w4 ⟨rfl,hb1⟩;have H_ := aS (b_s H.out hb1);clear B H k0 k1 k2 k3 k4 hb1;have H := H_;clear H_))
   go_ret2
   obtain rfl := HG.out
   exact ⟨rfl,H.out⟩
set_option maxHeartbeats 2000000 in
theorem groatref11_Wider.at (x y : S87) (w : World) : Calls prog 161 #[v87 x,v87 y] w fun e w' => e = .returned (.bool (widerS x y)) ∧ Below w.heap.size w w' := by
 have hu87 := underlying87
 obtain ⟨c1,hc1⟩ : ∃ c,specCheck x = c := ⟨_,rfl⟩
 obtain ⟨c2,hc2⟩ : ∃ c,specCheck y = c := ⟨_,rfl⟩
 have H1 := aS hc1
 have H2 := aS hc2
 unfold v87
 clear hc1 hc2
 go_enter func161,ntmps161
 go_wp2_with (first | (go_at_call 113;have D0 := D;clear D0;refine (groatref11_Check.at y _).mono ?_;rintro e w2 ⟨rfl,hb1⟩;rw [H2.out];have D_ := aS (D.out.step hb1);clear D a0 a1 a2 a3 a4 b0 b1 b2 b3 b4 hb1;have D := D_;clear D_;obtain ⟨a0,a1,a2,a3,a4⟩ := cells_5 D.out.h1;obtain ⟨b0,b1,b2,b3,b4⟩ := cells_5 D.out.h2) | (go_at_call 113;refine (groatref11_Check.at x _).mono ?_;rintro e w1 ⟨rfl,hb1⟩;rw [H1.out];have D := aS (Box2.init hb1);clear hb1;obtain ⟨a0,a1,a2,a3,a4⟩ := cells_5 D.out.h1;obtain ⟨b0,b1,b2,b3,b4⟩ := cells_5 D.out.h2) | (go_at_call 184;refine (groatref04_Wider.at _ _ _).mono ?_;rintro e w3 ⟨rfl,rfl⟩))
 all_goals go_ret
 all_goals refine ⟨ret_bool ?_,D.out.below⟩
 all_goals try simp only [bne_iff_ne,bne_eq_false_iff_eq,beq_eq_false_iff_ne,beq_iff_eq,ne_eq] at *
 all_goals unfold widerS classesOk
 all_goals rw [H1.out,H2.out]
 all_goals first | (simp_all;done) | (simp_all;omega) | (clear hu87;rw [Bool.eq_iff_iff];simp only [beq_iff_eq,Bool.and_eq_true,decide_eq_true_eq];rw [if_neg (by omega),if_pos (by omega)];simp only [decide_eq_true_eq];omega)
theorem drop225 {l : List S225} {i : Nat} (h : i < l.length) : l.drop i = rd_T225 l i :: l.drop (i + 1) := by
 rw [List.drop_eq_getElem_cons h]
 simp [rd_T225,List.getD_eq_getElem?_getD,List.getElem?_eq_getElem h]
theorem at225 {A : Option Addr} {l : List S225} {w wr : World} (HR : Kd.C k225 w A l.length l) (HB : Below w.heap.size w wr) (i : Nat) (h : i < l.length) : ∃ ad,A = some ad ∧ wr.cell? (ad.add (i * 2)) = some (.int .i64 (rd_T225 l (i : Int)).f0)
  ∧ wr.cell? ⟨(ad.add (i * 2)).block,(ad.add (i * 2)).off + 1,none⟩ = some (.string (rd_T225 l (i : Int)).f1) := by
 obtain ⟨ad,rfl,h0,h1⟩ := at_T225 HR i (by omega) (by omega)
 simp only [Int.toNat_natCast] at h0 h1
 have up : ∀ {a : Addr} {v : Value},w.cell? a = some v → wr.cell? a = some v := fun hx => (HB.cell (World.block_lt_of_cell? w _ hx)).trans hx
 exact ⟨ad,rfl,up h0,up h1⟩
set_option maxHeartbeats 1000000 in
theorem groatref10_has.at (A : Option Addr) (c : Nat) (l : List S225) (t : Int) (w : World) (hl : l.length ≤ 4611686018427387904) (hr : Kd.C k225 w A l.length l) (hc : l.length ≤ c) :
  Calls prog 158 #[.slice A l.length c,.int .i64 l.length,.int .i64 t] w fun e w' => e = .returned (.bool (decide (t ∈ l.map S225.f0))) ∧ w' = w := by
 have hu225 := underlying225
 have HR := aS hr
 have HC := aS hc
 clear hr hc
 go_enter func158,ntmps158
 go_wp2
 go_loopg [7] l.length (fun g v7 w' => ∃ i : Nat,v7 = .int .i64 i ∧ i + g = l.length ∧ Aside0 (decide (t ∈ (l.drop i).map S225.f0) = decide (t ∈ l.map S225.f0)) ∧ w' = w)
 case atStart => exact ⟨0,rfl,Nat.zero_add _,⟨rfl⟩,rfl⟩
 case round =>
  obtain ⟨i,rfl,hi,HF,rfl⟩ := hrel
  by_cases h : i < l.length
  ·have c0 : decide ((i : Int) < l.length) = true := d_T (by omega)
   obtain ⟨ad,rfl,hx0,hx1⟩ := at225 HR.out (Below.refl _ _) i h
   have p : (0 ≤ (i : Int)) = True := eq_true (by omega)
   have q : ((i : Int) < l.length) = True := eq_true (by omega)
   have hf := HF.out
   rw [drop225 h,List.map_cons] at hf
   clear HF
   generalize rd_T225 l (i : Int) = x at *
   by_cases e : x.f0 = t
   ·have e0 : (x.f0 == t) = true := beq_iff_eq.mpr e
    have HF : Aside0 (true = decide (t ∈ l.map S225.f0)) := ⟨by rw [← hf,e];simp⟩
    clear hf e
    go_wp2
    go_ret
    exact ⟨by rw [← HF.out];rfl,rfl⟩
   ·have e0 : (x.f0 == t) = false := beq_eq_false_iff_ne.mpr e
    have HF : Aside0 (decide (t ∈ (l.drop (i + 1)).map S225.f0) = decide (t ∈ l.map S225.f0)) := ⟨by rw [← hf];simp [Ne.symm e]⟩
    clear hf e
    go_wp2
    obtain ⟨g,rfl⟩ : ∃ g,gk = g + 1 := ⟨gk - 1,by omega⟩
    go_roundg g
    case rel => exact ⟨i + 1,rfl,by omega,HF,rfl⟩
    case measure => omega
  ·have c0 : decide ((i : Int) < l.length) = false := d_F (by omega)
   have hf := HF.out
   rw [List.drop_of_length_le (by omega)] at hf
   clear HF
   have HF := aS hf
   clear hf
   go_wp2
   go_ret
   exact ⟨by rw [← HF.out];rfl,rfl⟩
theorem groatref08_Get.at' (s : ByteArray) (i : Int) (w : World) (hs : s.size ≤ 4611686018427387904) : Calls prog 156 #[.string s,.int .i64 i] w fun e w' => e = .returned (.tuple #[.int .i64 (getTag s i).1,.int .i64 (getTag s i).2.1,.int .i64 (getTag s i).2.2]) ∧ Below w.heap.size w w' :=
 (groatref08_Get.at s i w hs).mono fun e w' ⟨h,n,hn⟩ => ⟨h,by rw [hn];exact pw_below_drewN (Below.refl _ _) n⟩
theorem groatref09_Get.at' (s : ByteArray) (i : Int) (w : World) (hs : s.size ≤ 4611686018427387904) : Calls prog 157 #[.string s,.int .i64 i] w fun e w' => e = .returned (.tuple #[.int .i64 (getLen s i).1,.int .i64 (getLen s i).2.1,.int .i64 (getLen s i).2.2]) ∧ Below w.heap.size w w' :=
 (groatref09_Get.at s i w hs).mono fun e w' ⟨h,n,hn⟩ => ⟨h,by rw [hn];exact pw_below_drewN (Below.refl _ _) n⟩
set_option maxHeartbeats 4000000 in
theorem groatref10_Get.at (s : ByteArray) (w : World) (hs : s.size ≤ 1000000) :
  Calls prog 119 #[.string s] w fun e w' => (∃ v0 : Value,e = .returned (.tuple #[v0,.int .i64 (pg s (s.size + 1) 0 []).2.1,.int .i64 (pg s (s.size + 1) 0 []).2.2])) ∧ Below w.heap.size w w' := by
 have hu225 := underlying225
 have hs0 : s.size ≤ 4611686018427387904 := by omega
 go_enter func119,ntmps119
 go_wp2_with (first | ((with_reducible refine gate_dst (N := 12) rfl ?_);refine Kd.R_lit k225 _ 225 ?hg (N := 12) ?hd (xs := ([] : List (S225))) (inner := []) (ok := fun _ => True) (okp := fun _ => True) ?hr ?hp (fun _ hk => hk) trivial (Below.refl _ _) (Nat.le_refl _) (by simp) ?_;(case hd => rfl);(case hg => rfl);(case hr => first | (go_simp;done) | (go_simp;rfl));(case hp => exact (Reps.none _ _));intro v599 w2 ho3 hb hg_ hnew_;clear hg_ hnew_;have HO := aS (show Kd.R k225 225 w2 w.heap.size (fun _ => True) v599 [] from ho3);have HB := aS (show Below w.heap.size w w2 from hb);clear hb ho3))
 go_loopg [5,6] (s.size + 1) (fun g v5 v6 w' => ∃ (xs : List S225) (i : Nat),v6 = .int .i64 i ∧ i ≤ s.size ∧ s.size - i < g ∧ xs.length + g ≤ s.size + 1 ∧ Aside0 (pg s g i xs = pg s (s.size + 1) 0 []) ∧ Aside0 (Kd.R k225 225 w' w.heap.size (fun _ => True) v5 xs) ∧ Aside0 (Below w.heap.size w w'))
 case atStart => exact ⟨[],0,rfl,Nat.zero_le _,by omega,by simp,⟨rfl⟩,HO,HB⟩
 case round =>
  clear HO HB
  obtain ⟨xs,i,rfl,hi,hg0,hg1,HF,HO,HB⟩ := hrel
  obtain ⟨A5,c5,rfl⟩ := Kd.R_slice HO.out
  obtain ⟨g,rfl⟩ : ∃ g,gk = g + 1 := ⟨gk - 1,by omega⟩
  have hf := HF.out
  rw [pg] at hf
  clear HF
  have HR := aS hf
  clear hf
  by_cases h : i < s.size
  ·have c0 : decide ((i : Int) < s.size) = true := d_T (by omega)
   have hf := HR.out
   rw [if_pos (by omega)] at hf
   clear HR
   have HT := aS (fun h => @tag_ok s i h)
   generalize hT : getTag s i = T at *
   by_cases h1 : T.2.2 = 0
   ·rw [if_pos h1] at hf
    have e1 : (T.2.2 != 0) = false := bne_eq_false_iff_eq.mpr h1
    obtain ⟨t1,t2,t3⟩ := HT.out h1
    have HL := aS (fun h => @len_ok s T.2.1 h)
    generalize hL : getLen s T.2.1 = L at *
    by_cases h2 : L.2.2 = 0
    ·rw [if_pos h2] at hf
     have e2 : (L.2.2 != 0) = false := bne_eq_false_iff_eq.mpr h2
     obtain ⟨l1,l2,l3,l4⟩ := HL.out h2
     have HY : Aside0 (xs.length < 5864062014805) := ⟨by omega⟩
     by_cases h3 : (s.size : Int) - L.2.1 < L.1
     ·have e3 : decide ((s.size : Int) - L.2.1 < L.1) = true := d_T h3
      rw [if_pos h3] at hf
      have HR := aS hf
      clear hf
      go_wp2_with (first | (go_at_call 156;refine (groatref08_Get.at' _ _ _ hs0).mono ?_;rintro e w1 ⟨rfl,hb1⟩;rw [hT];have n0_ := aS (b_s HB.out hb1);have n1_ := aS (Kd.R_below HO.out hb1);clear hb1;clear HB HO;have HB := n0_;have HO := n1_;clear n0_ n1_) | (go_at_call 157;refine (groatref09_Get.at' _ _ _ hs0).mono ?_;rintro e w1 ⟨rfl,hb1⟩;rw [hL];have n0_ := aS (b_s HB.out hb1);have n1_ := aS (Kd.R_below HO.out hb1);clear hb1;clear HB HO;have HB := n0_;have HO := n1_;clear n0_ n1_))
      go_ret3
      exact ⟨⟨_,by rw [← HR.out];rfl⟩,HB.out⟩
     ·have e3 : decide ((s.size : Int) - L.2.1 < L.1) = false := d_F h3
      rw [if_neg h3] at hf
      by_cases h4 : T.1 ∈ xs.map S225.f0
      ·rw [if_pos h4] at hf
       have HR := aS hf
       have H4 := aS (d_T h4)
       clear hf h4
       go_wp2_with (first | (go_at_call 156;refine (groatref08_Get.at' _ _ _ hs0).mono ?_;rintro e w1 ⟨rfl,hb1⟩;rw [hT];have n0_ := aS (b_s HB.out hb1);have n1_ := aS (Kd.R_below HO.out hb1);clear hb1;clear HB HO;have HB := n0_;have HO := n1_;clear n0_ n1_) | (go_at_call 157;refine (groatref09_Get.at' _ _ _ hs0).mono ?_;rintro e w1 ⟨rfl,hb1⟩;rw [hL];have n0_ := aS (b_s HB.out hb1);have n1_ := aS (Kd.R_below HO.out hb1);clear hb1;clear HB HO;have HB := n0_;have HO := n1_;clear n0_ n1_) | (go_at_call 158;obtain ⟨_,hc5,hC5⟩ := Kd.R_reads' HO.out;refine (groatref10_has.at A5 c5 xs T.1 _ (by have := HY.out;omega) hC5 hc5).mono ?_;rintro e w1 ⟨rfl,rfl⟩;rw [H4.out];clear hc5 hC5))
       go_ret3
       exact ⟨⟨_,by rw [← HR.out];rfl⟩,HB.out⟩
      ·rw [if_neg h4] at hf
       have HR := aS hf
       have H4 := aS (d_F h4)
       clear hf h4
       have p1 : (0 ≤ L.2.1) = True := eq_true (by omega)
       have p2 : (L.2.1 ≤ L.2.1 + L.1) = True := eq_true (by omega)
       have p3 : (L.2.1 + L.1 ≤ (s.size : Int)) = True := eq_true (by omega)
       go_wp2_with (first | (go_at_call 156;refine (groatref08_Get.at' _ _ _ hs0).mono ?_;rintro e w1 ⟨rfl,hb1⟩;rw [hT];have n0_ := aS (b_s HB.out hb1);have n1_ := aS (Kd.R_below HO.out hb1);clear hb1;clear HB HO;have HB := n0_;have HO := n1_;clear n0_ n1_) | (go_at_call 157;refine (groatref09_Get.at' _ _ _ hs0).mono ?_;rintro e w1 ⟨rfl,hb1⟩;rw [hL];have n0_ := aS (b_s HB.out hb1);have n1_ := aS (Kd.R_below HO.out hb1);clear hb1;clear HB HO;have HB := n0_;have HO := n1_;clear n0_ n1_) | (go_at_call 158;obtain ⟨_,hc5,hC5⟩ := Kd.R_reads' HO.out;refine (groatref10_has.at A5 c5 xs T.1 _ (by have := HY.out;omega) hC5 hc5).mono ?_;rintro e w1 ⟨rfl,rfl⟩;rw [H4.out];clear hc5 hC5) | ((with_reducible refine gate_builtin (b := .append) (xs := #[.tmp 53,.tmp 62]) rfl ?_);at_builtin;refine Kd.R_append k225 (w0 := w) w.heap.size rfl (.tmp 53) (.tmp 62) 191 225 (.agg #[(.int .i64 0),(.string ⟨#[]⟩)]) 24 rfl underlying191 info225 rfl (by decide) (by omega) _ xs (⟨T.1,s.extract L.2.1.toNat (L.2.1 + L.1).toNat⟩ : S225) [.int .i64 T.1,.string (s.extract L.2.1.toNat (L.2.1 + L.1).toNat)] (fun _ => True) (fun _ => False) rfl rfl ?aP (fun _ hk => hk.elim) ?aF ?aO ?aB ?aS ?aL ?_;(case aP => exact k225_mkM _ _ _ (⟨T.1,s.extract L.2.1.toNat (L.2.1 + L.1).toNat⟩ : S225));(case aB => exact (by repeat (first | exact HB.out | apply b_l)));(case aF => exact (fun _ _ => trivial));(case aO => exact (by (with_reducible repeat (first | apply Kd.R_alloc | apply Kd.R_drewN | apply Kd.R_drew));exact HO.out));(case aS => exact (below_size (by repeat (first | exact HB.out | apply b_l))));(case aL => have := HY.out;omega);intro v130 w13 ho hb hgr hat;have n0_ := aS (hb);have n1_ := aS (ho);clear HB HO;have HB := n0_;have HO2 := n1_;clear n0_ n1_;clear ho hb hgr hat))
       go_roundg g
       case measure => omega
       case rel =>
        refine ⟨xs ++ [⟨T.1,s.extract L.2.1.toNat (L.2.1 + L.1).toNat⟩],(L.2.1 + L.1).toNat,?_,by omega,by omega,by rw [List.length_append,List.length_singleton];omega,⟨?_⟩,HO2,HB⟩
        ·rw [Int.toNat_of_nonneg (by omega)]
        ·rw [Int.toNat_of_nonneg (by omega)]
         exact HR.out
    ·rw [if_neg h2] at hf
     have e2 : (L.2.2 != 0) = true := bne_iff_ne.mpr h2
     have HR := aS hf
     clear hf
     go_wp2_with (first | (go_at_call 156;refine (groatref08_Get.at' _ _ _ hs0).mono ?_;rintro e w1 ⟨rfl,hb1⟩;rw [hT];have n0_ := aS (b_s HB.out hb1);have n1_ := aS (Kd.R_below HO.out hb1);clear hb1;clear HB HO;have HB := n0_;have HO := n1_;clear n0_ n1_) | (go_at_call 157;refine (groatref09_Get.at' _ _ _ hs0).mono ?_;rintro e w1 ⟨rfl,hb1⟩;rw [hL];have n0_ := aS (b_s HB.out hb1);have n1_ := aS (Kd.R_below HO.out hb1);clear hb1;clear HB HO;have HB := n0_;have HO := n1_;clear n0_ n1_))
     go_ret3
     exact ⟨⟨_,by rw [← HR.out];rfl⟩,HB.out⟩
   ·have e1 : (T.2.2 != 0) = true := bne_iff_ne.mpr h1
    rw [if_neg h1] at hf
    have HR := aS hf
    clear hf
    go_wp2_with (first | (go_at_call 156;refine (groatref08_Get.at' _ _ _ hs0).mono ?_;rintro e w1 ⟨rfl,hb1⟩;rw [hT];have n0_ := aS (b_s HB.out hb1);have n1_ := aS (Kd.R_below HO.out hb1);clear hb1;clear HB HO;have HB := n0_;have HO := n1_;clear n0_ n1_))
    go_ret3
    exact ⟨⟨_,by rw [← HR.out];rfl⟩,HB.out⟩
  ·have c0 : decide ((i : Int) < s.size) = false := d_F (by omega)
   have hf := HR.out
   rw [if_neg (by omega)] at hf
   clear HR
   have HR := aS hf
   clear hf
   go_wp2
   go_ret3
   exact ⟨⟨_,by rw [← HR.out];rfl⟩,HB.out⟩
def cellSz (st : Int) (x : S87) (n : Int) : Int := if howV st x.f1 = 1 then bcdSize n else if howV st x.f1 = 2 then 2 * n else n
def cellF (x : S87) (t : ByteArray) (j : Int) : ByteArray × Int × Int := if specValue x t ≠ 0 then (⟨#[]⟩,0,specValue x t) else (t,j,0)
def cellT (st : Int) (x : S87) (t : ByteArray) (n j : Int) : ByteArray × Int × Int :=
 if howV st x.f1 = 1 then if (bcdG t n).2 ≠ 0 then (⟨#[]⟩,0,(bcdG t n).2) else cellF x (bcdG t n).1 j
 else if howV st x.f1 = 2 then if (hexG t).2 = false then (⟨#[]⟩,0,3) else cellF x (hexG t).1 j
 else cellF x t j
def cellM (st : Int) (x : S87) (b : ByteArray) (n i : Int) : ByteArray × Int × Int :=
 if (b.size : Int) - i < cellSz st x n then (⟨#[]⟩,0,2) else cellT st x (b.extract i.toNat (i + cellSz st x n).toNat) n (i + cellSz st x n)
def cellG (st : Int) (x : S87) (b : ByteArray) (i : Int) : ByteArray × Int × Int :=
 if x.f2 = 1 then cellM st x b x.f3 i else
 if (prefG st x.f2 b i).2.2 ≠ 0 then (⟨#[]⟩,0,(prefG st x.f2 b i).2.2) else
 if (prefG st x.f2 b i).1 < x.f3 ∨ (prefG st x.f2 b i).1 > x.f4 then (⟨#[]⟩,0,5) else
 cellM st x b (prefG st x.f2 b i).1 (prefG st x.f2 b i).2.1
theorem bcdLoop_size (b : ByteArray) (n : Int) : ∀ (d i : Nat) (xs : List Int),(bcdLoop b n d i xs).1.length ≤ xs.length + 2 * d
 | 0,_,xs => by rw [bcdLoop];simp
 | d + 1,i,xs => by
  rw [bcdLoop]
  split
  ·simp
  ·split
   ·simp
   ·have h := bcdLoop_size b n d (i + 1) (xs ++ [48 + bt b i / 16,48 + bt b i % 16])
    rw [List.length_append] at h
    simp at h
    omega
theorem bcdG_size (b : ByteArray) (n : Int) (hn : 0 ≤ n ∧ n ≤ 999) : (bcdG b n).1.size ≤ 1000000 := by
 unfold bcdG
 split
 ·exact Nat.zero_le _
 ·split
  ·have h := bcdLoop_size b n (bcdSize n).toNat 0 []
   have hz : (bcdSize n).toNat ≤ 1000 := by unfold bcdSize;split <;> omega
   have hl := data_length (strOfNums (List.drop (n % 2).toNat (bcdLoop b n (bcdSize n).toNat 0 []).1))
   rw [strOfNums_data,List.length_map,List.length_drop] at hl
   simp at h
   show (strOfNums (List.drop (n % 2).toNat (bcdLoop b n (bcdSize n).toNat 0 []).1)).size ≤ 1000000
   omega
  ·exact Nat.zero_le _
theorem hexa_Get.size (s : ByteArray) : ∀ (k : Nat) (xs : List Int) (h : Int) (i : Nat) (r : ByteArray × Int × Bool),s.size ≤ 1000000 → i ≤ s.size → xs.length ≤ i → hexa_Get.l0 k s xs h i = some r → r.1.size ≤ s.size
 | 0,_,_,_,_,_,_,_,h => by simp [hexa_Get.l0] at h
 | k + 1,xs,h,i,r,hs,hi,hx,he => by
  rw [hexa_Get.l0] at he
  have hw : wrap64 ((i : Int) + 1) = ((i + 1 : Nat) : Int) := by unfold wrap64;omega
  by_cases c : (i : Int) < s.size
  ·rw [if_pos c,if_pos (by omega)] at he
   obtain ⟨d,hd,he⟩ := Option.bind_eq_some_iff.mp he
   by_cases c2 : d.2 = true
   ·rw [if_pos c2] at he
    by_cases c3 : Int.tmod (i : Int) 2 = 0
    ·rw [if_pos c3,hw] at he
     exact hexa_Get.size s k _ _ _ r hs (by omega) (by omega) he
    ·rw [if_neg c3,if_pos (by omega),hw] at he
     exact hexa_Get.size s k _ _ _ r hs (by omega) (by rw [List.length_append,List.length_singleton];omega) he
   ·rw [if_neg c2] at he
    cases he
    exact Nat.zero_le _
  ·rw [if_neg c] at he
   split at he
   ·cases he
    have hl := data_length (strOfNums xs)
    rw [strOfNums_data,List.length_map] at hl
    show (strOfNums xs).size ≤ _
    omega
   ·cases he
    exact Nat.zero_le _
theorem hexG_size (s : ByteArray) (hs : s.size ≤ 1000000) : (hexG s).1.size ≤ 1000000 := by
 unfold hexG
 cases h : hexa_Get.f (s.size + 3) s with
 | none => exact Nat.zero_le _
 | some r => exact Nat.le_trans (hexa_Get.size s _ [] 0 0 r hs (by omega) (by simp) h) hs
set_option maxHeartbeats 4000000 in
theorem cell_Get.at (st : Int) (x : S87) (b : ByteArray) (i : Int) (w : World) (hst : st = 1 ∨ st = 2) (hx : specCheck x = 0) (h0 : 0 ≤ i) (h1 : i ≤ b.size) (hb : b.size ≤ 100000) :
  Calls prog 37 #[.int .i64 st,v87 x,.string b,.int .i64 i] w fun e w' => e = .returned (.tuple #[.string (cellG st x b i).1,.int .i64 (cellG st x b i).2.1,.int .i64 (cellG st x b i).2.2]) ∧ Below w.heap.size w w' := by
 have hu87 := underlying87
 have hk : known st = true := by rcases hst with rfl | rfl <;> decide
 have a0 : decide (i < 0) = false := d_F (by omega)
 have a1 : decide ((b.size : Int) < i) = false := d_F (by omega)
 have e1 : (specCheck x != 0) = false := bne_eq_false_iff_eq.mpr hx
 have hn : 1 ≤ x.f3 ∧ x.f3 ≤ x.f4 ∧ x.f4 ≤ 999 ∧ (x.f2 = 1 ∨ x.f2 = 2 ∨ x.f2 = 3) := by unfold specCheck at hx;(repeat' split at hx) <;> first | (exact absurd hx (by decide)) | omega
 obtain ⟨r,hg⟩ : ∃ r,cellG st x b i = r := ⟨_,rfl⟩
 rw [hg]
 rw [cellG] at hg
 have hh : howV st x.f1 = 0 ∨ howV st x.f1 = 1 ∨ howV st x.f1 = 2 := by unfold howV;(repeat' split) <;> decide
 clear hx
 obtain ⟨hn3,hn4,hn5,hf⟩ := hn
 unfold v87
 by_cases hF : x.f2 = 1
 ·have e2 : (x.f2 != 1) = false := bne_eq_false_iff_eq.mpr hF
  rw [if_pos hF] at hg
  clear hF hf
  obtain ⟨sz,hsz⟩ : ∃ sz,cellSz st x x.f3 = sz := ⟨_,rfl⟩
  have hszr : 0 ≤ sz ∧ sz ≤ 2000 := by rw [← hsz];unfold cellSz bcdSize;(repeat' split) <;> omega
  rw [cellM,hsz] at hg
  have e3 : wrap64 (2 * x.f3) = 2 * x.f3 := by unfold wrap64;omega
  have hn9 : 0 ≤ x.f3 ∧ x.f3 ≤ 999 := by omega
  by_cases c : (b.size : Int) - i < sz
  ·rw [if_pos c] at hg
   have HG := aS hg
   clear hg
   have c0 : decide ((b.size : Int) - i < sz) = true := d_T c
   unfold cellSz at hsz
   rcases hh with hh | hh | hh
   all_goals
    rw [hh] at hsz
    simp only [reduceIte,Int.reduceEq] at hsz
    try subst hsz
    go_enter func37,ntmps37
    go_wp2_with (first | (go_at_call 86;refine (cell_known.at _ _).mono ?_;rintro e w1 ⟨rfl,rfl⟩;rw [hk]) | (go_at_call 77;refine (spec_Check.at x _).mono ?_;rintro e w2 ⟨rfl,hb1⟩;have B := aS (blk_nb hb1);have H := aS (below_a1 hb1);clear hb1;have k0 := blk_cell B.out 0;have k1 := blk_cell B.out 1;have k2 := blk_cell B.out 2;have k3 := blk_cell B.out 3;have k4 := blk_cell B.out 4) | (go_at_call 88;refine (cell_how.at _ _ _).mono ?_;rintro e w3 ⟨rfl,rfl⟩;rw [hh]) | (go_at_call 78;refine (bcd_Size.at _ _ (by omega)).mono ?_;rintro e w3 ⟨rfl,rfl⟩))
    go_ret3
    obtain rfl := HG.out
    exact ⟨rfl,H.out⟩
  ·rw [if_neg c,cellT] at hg
   have c0 : decide ((b.size : Int) - i < sz) = false := d_F c
   have p0 : (0 ≤ i) = True := eq_true (by omega)
   have p1 : (i ≤ i + sz) = True := eq_true (by omega)
   have p2 : (i + sz ≤ (b.size : Int)) = True := eq_true (by omega)
   have hz9 : Aside0 ((b.extract i.toNat (i + sz).toNat).size ≤ 1000000) := ⟨by rw [ByteArray.size_extract];omega⟩
   unfold cellSz at hsz
   rcases hh with hh | hh | hh
   ·rw [hh] at hsz hg
    simp only [reduceIte,Int.reduceEq] at hsz hg
    subst hsz
    have hzt := hz9
    obtain ⟨sv,hs⟩ : ∃ sv,specValue x (b.extract i.toNat (i + x.f3).toNat) = sv := ⟨_,rfl⟩
    rw [cellF,hs] at hg
    have HG := aS hg
    clear hg
    go_enter func37,ntmps37
    go_wp2_with (first | (go_at_call 86;refine (cell_known.at _ _).mono ?_;rintro e w1 ⟨rfl,rfl⟩;rw [hk]) | (go_at_call 77;refine (spec_Check.at x _).mono ?_;rintro e w2 ⟨rfl,hb1⟩;have B := aS (blk_nb hb1);have H := aS (below_a1 hb1);clear hb1;have k0 := blk_cell B.out 0;have k1 := blk_cell B.out 1;have k2 := blk_cell B.out 2;have k3 := blk_cell B.out 3;have k4 := blk_cell B.out 4) | (go_at_call 88;refine (cell_how.at _ _ _).mono ?_;rintro e w3 ⟨rfl,rfl⟩;rw [hh]) | (go_at_call 78;refine (bcd_Size.at _ _ (by omega)).mono ?_;rintro e w3 ⟨rfl,rfl⟩) | (go_at_call 90;refine (spec_Value.at x _ _ hzt.out).mono ?_;rintro e w3 ⟨rfl,hb3⟩;rw [hs];have B_ := aS (k_B B.out hb3);have H_ := aS (b_s H.out hb3);clear B H k0 k1 k2 k3 k4 hb3;have B := B_;have H := H_;clear B_ H_;have k0 := blk_cell B.out 0;have k1 := blk_cell B.out 1;have k2 := blk_cell B.out 2;have k3 := blk_cell B.out 3;have k4 := blk_cell B.out 4))
    all_goals go_ret3
    all_goals obtain rfl := HG.out
    all_goals refine ⟨?_,H.out⟩
    all_goals (repeat' split) <;> first | rfl | simp_all
   ·rw [hh] at hsz hg
    simp only [reduceIte,Int.reduceEq] at hsz hg
    subst hsz
    obtain ⟨v1,v2,hv⟩ : ∃ v1 v2,bcdG (b.extract i.toNat (i + bcdSize x.f3).toNat) x.f3 = (v1,v2) := ⟨_,_,rfl⟩
    have hzt : Aside0 (v1.size ≤ 1000000) := ⟨by have := bcdG_size (b.extract i.toNat (i + bcdSize x.f3).toNat) x.f3 hn9;rw [hv] at this;exact this⟩
    obtain ⟨sv,hs⟩ : ∃ sv,specValue x v1 = sv := ⟨_,rfl⟩
    rw [hv,cellF,hs] at hg
    have HG := aS hg
    clear hg
    go_enter func37,ntmps37
    go_wp2_with (first | (go_at_call 86;refine (cell_known.at _ _).mono ?_;rintro e w1 ⟨rfl,rfl⟩;rw [hk]) | (go_at_call 77;refine (spec_Check.at x _).mono ?_;rintro e w2 ⟨rfl,hb1⟩;have B := aS (blk_nb hb1);have H := aS (below_a1 hb1);clear hb1;have k0 := blk_cell B.out 0;have k1 := blk_cell B.out 1;have k2 := blk_cell B.out 2;have k3 := blk_cell B.out 3;have k4 := blk_cell B.out 4) | (go_at_call 88;refine (cell_how.at _ _ _).mono ?_;rintro e w3 ⟨rfl,rfl⟩;rw [hh]) | (go_at_call 78;refine (bcd_Size.at _ _ (by omega)).mono ?_;rintro e w3 ⟨rfl,rfl⟩) | (go_at_call 79;refine (bcd_Get.at _ _ _ hn9 hz9.out).mono ?_;rintro e w3 ⟨⟨pq,rfl⟩,hb3⟩;rw [hv];have B_ := aS (k_B B.out hb3);have H_ := aS (b_s H.out hb3);clear B H k0 k1 k2 k3 k4 hb3;have B := B_;have H := H_;clear B_ H_;have k0 := blk_cell B.out 0;have k1 := blk_cell B.out 1;have k2 := blk_cell B.out 2;have k3 := blk_cell B.out 3;have k4 := blk_cell B.out 4) | (go_at_call 90;refine (spec_Value.at x _ _ hzt.out).mono ?_;rintro e w3 ⟨rfl,hb3⟩;rw [hs];have B_ := aS (k_B B.out hb3);have H_ := aS (b_s H.out hb3);clear B H k0 k1 k2 k3 k4 hb3;have B := B_;have H := H_;clear B_ H_;have k0 := blk_cell B.out 0;have k1 := blk_cell B.out 1;have k2 := blk_cell B.out 2;have k3 := blk_cell B.out 3;have k4 := blk_cell B.out 4))
    all_goals go_ret3
    all_goals obtain rfl := HG.out
    all_goals refine ⟨?_,H.out⟩
    all_goals (repeat' split) <;> first | rfl | simp_all
   ·rw [hh] at hsz hg
    simp only [reduceIte,Int.reduceEq] at hsz hg
    subst hsz
    obtain ⟨v1,v2,hv⟩ : ∃ v1 v2,hexG (b.extract i.toNat (i + 2 * x.f3).toNat) = (v1,v2) := ⟨_,_,rfl⟩
    have hzt : Aside0 (v1.size ≤ 1000000) := ⟨by have := hexG_size (b.extract i.toNat (i + 2 * x.f3).toNat) hz9.out;rw [hv] at this;exact this⟩
    obtain ⟨sv,hs⟩ : ∃ sv,specValue x v1 = sv := ⟨_,rfl⟩
    rw [hv,cellF,hs] at hg
    have HG := aS hg
    clear hg
    go_enter func37,ntmps37
    go_wp2_with (first | (go_at_call 86;refine (cell_known.at _ _).mono ?_;rintro e w1 ⟨rfl,rfl⟩;rw [hk]) | (go_at_call 77;refine (spec_Check.at x _).mono ?_;rintro e w2 ⟨rfl,hb1⟩;have B := aS (blk_nb hb1);have H := aS (below_a1 hb1);clear hb1;have k0 := blk_cell B.out 0;have k1 := blk_cell B.out 1;have k2 := blk_cell B.out 2;have k3 := blk_cell B.out 3;have k4 := blk_cell B.out 4) | (go_at_call 88;refine (cell_how.at _ _ _).mono ?_;rintro e w3 ⟨rfl,rfl⟩;rw [hh]) | (go_at_call 78;refine (bcd_Size.at _ _ (by omega)).mono ?_;rintro e w3 ⟨rfl,rfl⟩) | (go_at_call 89;refine (hexa_Get.at _ _ hz9.out).mono ?_;rintro e w3 ⟨⟨pq,rfl⟩,hb3⟩;rw [hv];have B_ := aS (k_B B.out hb3);have H_ := aS (b_s H.out hb3);clear B H k0 k1 k2 k3 k4 hb3;have B := B_;have H := H_;clear B_ H_;have k0 := blk_cell B.out 0;have k1 := blk_cell B.out 1;have k2 := blk_cell B.out 2;have k3 := blk_cell B.out 3;have k4 := blk_cell B.out 4) | (go_at_call 90;refine (spec_Value.at x _ _ hzt.out).mono ?_;rintro e w3 ⟨rfl,hb3⟩;rw [hs];have B_ := aS (k_B B.out hb3);have H_ := aS (b_s H.out hb3);clear B H k0 k1 k2 k3 k4 hb3;have B := B_;have H := H_;clear B_ H_;have k0 := blk_cell B.out 0;have k1 := blk_cell B.out 1;have k2 := blk_cell B.out 2;have k3 := blk_cell B.out 3;have k4 := blk_cell B.out 4))
    all_goals go_ret3
    all_goals obtain rfl := HG.out
    all_goals refine ⟨?_,H.out⟩
    all_goals (repeat' split) <;> first | rfl | simp_all
 ·have e2 : (x.f2 != 1) = true := bne_iff_ne.mpr hF
  have hfo : Aside0 (x.f2 = 2 ∨ x.f2 = 3) := ⟨by omega⟩
  rw [if_neg hF] at hg
  have hok := prefG_ok hst hfo.out h0 h1
  obtain ⟨pn,pj,pe,hp⟩ : ∃ pn pj pe,prefG st x.f2 b i = (pn,pj,pe) := ⟨_,_,_,rfl⟩
  rw [hp] at hg hok
  simp only at hg hok
  have h0 := aS h0
  have h1 := aS h1
  clear hF hf
  by_cases c1 : pe = 0
  ·have e5 : (pe != 0) = false := bne_eq_false_iff_eq.mpr c1
   rw [if_neg (by omega)] at hg
   have hj := hok c1
   have hj0 := h0.out
   clear hok c1
   by_cases c2 : pn < x.f3 ∨ pn > x.f4
   ·rw [if_pos c2] at hg
    have HG := aS hg
    have hu : decide (pn < x.f3) = true ∨ decide (pn < x.f3) = false ∧ decide (x.f4 < pn) = true := by
     by_cases k : pn < x.f3
     ·exact .inl (d_T k)
     ·exact .inr ⟨d_F k,d_T (by omega)⟩
    clear hg c2
    rcases hu with f5 | ⟨f5,f6⟩
    all_goals
     go_enter func37,ntmps37
     go_wp2_with (first | (go_at_call 86;refine (cell_known.at _ _).mono ?_;rintro e w1 ⟨rfl,rfl⟩;rw [hk]) | (go_at_call 77;refine (spec_Check.at x _).mono ?_;rintro e w2 ⟨rfl,hb1⟩;have B := aS (blk_nb hb1);have H := aS (below_a1 hb1);clear hb1;have k0 := blk_cell B.out 0;have k1 := blk_cell B.out 1;have k2 := blk_cell B.out 2;have k3 := blk_cell B.out 3;have k4 := blk_cell B.out 4) | (go_at_call 88;refine (cell_how.at _ _ _).mono ?_;rintro e w3 ⟨rfl,rfl⟩;rw [hh]) | (go_at_call 78;refine (bcd_Size.at _ _ (by omega)).mono ?_;rintro e w3 ⟨rfl,rfl⟩) | (go_at_call 87;refine (prefix_Get.at _ _ _ _ _ hst hfo.out h0.out h1.out (by omega)).mono ?_;rintro e w3 ⟨rfl,hb3⟩;rw [hp];have B_ := aS (k_B B.out hb3);have H_ := aS (b_s H.out hb3);clear B H k0 k1 k2 k3 k4 hb3;have B := B_;have H := H_;clear B_ H_;have k0 := blk_cell B.out 0;have k1 := blk_cell B.out 1;have k2 := blk_cell B.out 2;have k3 := blk_cell B.out 3;have k4 := blk_cell B.out 4))
     go_ret3
     obtain rfl := HG.out
     exact ⟨rfl,H.out⟩
   ·rw [if_neg c2] at hg
    have f5 : decide (pn < x.f3) = false := d_F (by omega)
    have f6 : decide (x.f4 < pn) = false := d_F (by omega)
    have hr : x.f3 ≤ pn ∧ pn ≤ x.f4 := by omega
    clear c2
    obtain ⟨sz,hsz⟩ : ∃ sz,cellSz st x pn = sz := ⟨_,rfl⟩
    have hszr : 0 ≤ sz ∧ sz ≤ 2000 := by rw [← hsz];unfold cellSz bcdSize;(repeat' split) <;> omega
    rw [cellM,hsz] at hg
    have e3 : wrap64 (2 * pn) = 2 * pn := by unfold wrap64;omega
    have hn9 : 0 ≤ pn ∧ pn ≤ 999 := by omega
    by_cases c : (b.size : Int) - pj < sz
    ·rw [if_pos c] at hg
     have HG := aS hg
     clear hg
     have c0 : decide ((b.size : Int) - pj < sz) = true := d_T c
     unfold cellSz at hsz
     rcases hh with hh | hh | hh
     all_goals
      rw [hh] at hsz
      simp only [reduceIte,Int.reduceEq] at hsz
      try subst hsz
      go_enter func37,ntmps37
      go_wp2_with (first | (go_at_call 86;refine (cell_known.at _ _).mono ?_;rintro e w1 ⟨rfl,rfl⟩;rw [hk]) | (go_at_call 77;refine (spec_Check.at x _).mono ?_;rintro e w2 ⟨rfl,hb1⟩;have B := aS (blk_nb hb1);have H := aS (below_a1 hb1);clear hb1;have k0 := blk_cell B.out 0;have k1 := blk_cell B.out 1;have k2 := blk_cell B.out 2;have k3 := blk_cell B.out 3;have k4 := blk_cell B.out 4) | (go_at_call 88;refine (cell_how.at _ _ _).mono ?_;rintro e w3 ⟨rfl,rfl⟩;rw [hh]) | (go_at_call 78;refine (bcd_Size.at _ _ (by omega)).mono ?_;rintro e w3 ⟨rfl,rfl⟩) | (go_at_call 87;refine (prefix_Get.at _ _ _ _ _ hst hfo.out h0.out h1.out (by omega)).mono ?_;rintro e w3 ⟨rfl,hb3⟩;rw [hp];have B_ := aS (k_B B.out hb3);have H_ := aS (b_s H.out hb3);clear B H k0 k1 k2 k3 k4 hb3;have B := B_;have H := H_;clear B_ H_;have k0 := blk_cell B.out 0;have k1 := blk_cell B.out 1;have k2 := blk_cell B.out 2;have k3 := blk_cell B.out 3;have k4 := blk_cell B.out 4))
      go_ret3
      obtain rfl := HG.out
      exact ⟨rfl,H.out⟩
    ·rw [if_neg c,cellT] at hg
     have c0 : decide ((b.size : Int) - pj < sz) = false := d_F c
     have p0 : (0 ≤ pj) = True := eq_true (by omega)
     have p1 : (pj ≤ pj + sz) = True := eq_true (by omega)
     have p2 : (pj + sz ≤ (b.size : Int)) = True := eq_true (by omega)
     have hz9 : Aside0 ((b.extract pj.toNat (pj + sz).toNat).size ≤ 1000000) := ⟨by rw [ByteArray.size_extract];omega⟩
     unfold cellSz at hsz
     rcases hh with hh | hh | hh
     ·rw [hh] at hsz hg
      simp only [reduceIte,Int.reduceEq] at hsz hg
      subst hsz
      have hzt := hz9
      obtain ⟨sv,hs⟩ : ∃ sv,specValue x (b.extract pj.toNat (pj + pn).toNat) = sv := ⟨_,rfl⟩
      rw [cellF,hs] at hg
      have HG := aS hg
      clear hg
      go_enter func37,ntmps37
      go_wp2_with (first | (go_at_call 86;refine (cell_known.at _ _).mono ?_;rintro e w1 ⟨rfl,rfl⟩;rw [hk]) | (go_at_call 77;refine (spec_Check.at x _).mono ?_;rintro e w2 ⟨rfl,hb1⟩;have B := aS (blk_nb hb1);have H := aS (below_a1 hb1);clear hb1;have k0 := blk_cell B.out 0;have k1 := blk_cell B.out 1;have k2 := blk_cell B.out 2;have k3 := blk_cell B.out 3;have k4 := blk_cell B.out 4) | (go_at_call 88;refine (cell_how.at _ _ _).mono ?_;rintro e w3 ⟨rfl,rfl⟩;rw [hh]) | (go_at_call 78;refine (bcd_Size.at _ _ (by omega)).mono ?_;rintro e w3 ⟨rfl,rfl⟩) | (go_at_call 87;refine (prefix_Get.at _ _ _ _ _ hst hfo.out h0.out h1.out (by omega)).mono ?_;rintro e w3 ⟨rfl,hb3⟩;rw [hp];have B_ := aS (k_B B.out hb3);have H_ := aS (b_s H.out hb3);clear B H k0 k1 k2 k3 k4 hb3;have B := B_;have H := H_;clear B_ H_;have k0 := blk_cell B.out 0;have k1 := blk_cell B.out 1;have k2 := blk_cell B.out 2;have k3 := blk_cell B.out 3;have k4 := blk_cell B.out 4) | (go_at_call 90;refine (spec_Value.at x _ _ hzt.out).mono ?_;rintro e w3 ⟨rfl,hb3⟩;rw [hs];have B_ := aS (k_B B.out hb3);have H_ := aS (b_s H.out hb3);clear B H k0 k1 k2 k3 k4 hb3;have B := B_;have H := H_;clear B_ H_;have k0 := blk_cell B.out 0;have k1 := blk_cell B.out 1;have k2 := blk_cell B.out 2;have k3 := blk_cell B.out 3;have k4 := blk_cell B.out 4))
      all_goals go_ret3
      all_goals obtain rfl := HG.out
      all_goals refine ⟨?_,H.out⟩
      all_goals (repeat' split) <;> first | rfl | simp_all
     ·rw [hh] at hsz hg
      simp only [reduceIte,Int.reduceEq] at hsz hg
      subst hsz
      obtain ⟨v1,v2,hv⟩ : ∃ v1 v2,bcdG (b.extract pj.toNat (pj + bcdSize pn).toNat) pn = (v1,v2) := ⟨_,_,rfl⟩
      have hzt : Aside0 (v1.size ≤ 1000000) := ⟨by have := bcdG_size (b.extract pj.toNat (pj + bcdSize pn).toNat) pn hn9;rw [hv] at this;exact this⟩
      obtain ⟨sv,hs⟩ : ∃ sv,specValue x v1 = sv := ⟨_,rfl⟩
      rw [hv,cellF,hs] at hg
      have HG := aS hg
      clear hg
      go_enter func37,ntmps37
      go_wp2_with (first | (go_at_call 86;refine (cell_known.at _ _).mono ?_;rintro e w1 ⟨rfl,rfl⟩;rw [hk]) | (go_at_call 77;refine (spec_Check.at x _).mono ?_;rintro e w2 ⟨rfl,hb1⟩;have B := aS (blk_nb hb1);have H := aS (below_a1 hb1);clear hb1;have k0 := blk_cell B.out 0;have k1 := blk_cell B.out 1;have k2 := blk_cell B.out 2;have k3 := blk_cell B.out 3;have k4 := blk_cell B.out 4) | (go_at_call 88;refine (cell_how.at _ _ _).mono ?_;rintro e w3 ⟨rfl,rfl⟩;rw [hh]) | (go_at_call 78;refine (bcd_Size.at _ _ (by omega)).mono ?_;rintro e w3 ⟨rfl,rfl⟩) | (go_at_call 87;refine (prefix_Get.at _ _ _ _ _ hst hfo.out h0.out h1.out (by omega)).mono ?_;rintro e w3 ⟨rfl,hb3⟩;rw [hp];have B_ := aS (k_B B.out hb3);have H_ := aS (b_s H.out hb3);clear B H k0 k1 k2 k3 k4 hb3;have B := B_;have H := H_;clear B_ H_;have k0 := blk_cell B.out 0;have k1 := blk_cell B.out 1;have k2 := blk_cell B.out 2;have k3 := blk_cell B.out 3;have k4 := blk_cell B.out 4) | (go_at_call 79;refine (bcd_Get.at _ _ _ hn9 hz9.out).mono ?_;rintro e w3 ⟨⟨pq,rfl⟩,hb3⟩;rw [hv];have B_ := aS (k_B B.out hb3);have H_ := aS (b_s H.out hb3);clear B H k0 k1 k2 k3 k4 hb3;have B := B_;have H := H_;clear B_ H_;have k0 := blk_cell B.out 0;have k1 := blk_cell B.out 1;have k2 := blk_cell B.out 2;have k3 := blk_cell B.out 3;have k4 := blk_cell B.out 4) | (go_at_call 90;refine (spec_Value.at x _ _ hzt.out).mono ?_;rintro e w3 ⟨rfl,hb3⟩;rw [hs];have B_ := aS (k_B B.out hb3);have H_ := aS (b_s H.out hb3);clear B H k0 k1 k2 k3 k4 hb3;have B := B_;have H := H_;clear B_ H_;have k0 := blk_cell B.out 0;have k1 := blk_cell B.out 1;have k2 := blk_cell B.out 2;have k3 := blk_cell B.out 3;have k4 := blk_cell B.out 4))
      all_goals go_ret3
      all_goals obtain rfl := HG.out
      all_goals refine ⟨?_,H.out⟩
      all_goals (repeat' split) <;> first | rfl | simp_all
     ·rw [hh] at hsz hg
      simp only [reduceIte,Int.reduceEq] at hsz hg
      subst hsz
      obtain ⟨v1,v2,hv⟩ : ∃ v1 v2,hexG (b.extract pj.toNat (pj + 2 * pn).toNat) = (v1,v2) := ⟨_,_,rfl⟩
      have hzt : Aside0 (v1.size ≤ 1000000) := ⟨by have := hexG_size (b.extract pj.toNat (pj + 2 * pn).toNat) hz9.out;rw [hv] at this;exact this⟩
      obtain ⟨sv,hs⟩ : ∃ sv,specValue x v1 = sv := ⟨_,rfl⟩
      rw [hv,cellF,hs] at hg
      have HG := aS hg
      clear hg
      go_enter func37,ntmps37
      go_wp2_with (first | (go_at_call 86;refine (cell_known.at _ _).mono ?_;rintro e w1 ⟨rfl,rfl⟩;rw [hk]) | (go_at_call 77;refine (spec_Check.at x _).mono ?_;rintro e w2 ⟨rfl,hb1⟩;have B := aS (blk_nb hb1);have H := aS (below_a1 hb1);clear hb1;have k0 := blk_cell B.out 0;have k1 := blk_cell B.out 1;have k2 := blk_cell B.out 2;have k3 := blk_cell B.out 3;have k4 := blk_cell B.out 4) | (go_at_call 88;refine (cell_how.at _ _ _).mono ?_;rintro e w3 ⟨rfl,rfl⟩;rw [hh]) | (go_at_call 78;refine (bcd_Size.at _ _ (by omega)).mono ?_;rintro e w3 ⟨rfl,rfl⟩) | (go_at_call 87;refine (prefix_Get.at _ _ _ _ _ hst hfo.out h0.out h1.out (by omega)).mono ?_;rintro e w3 ⟨rfl,hb3⟩;rw [hp];have B_ := aS (k_B B.out hb3);have H_ := aS (b_s H.out hb3);clear B H k0 k1 k2 k3 k4 hb3;have B := B_;have H := H_;clear B_ H_;have k0 := blk_cell B.out 0;have k1 := blk_cell B.out 1;have k2 := blk_cell B.out 2;have k3 := blk_cell B.out 3;have k4 := blk_cell B.out 4) | (go_at_call 89;refine (hexa_Get.at _ _ hz9.out).mono ?_;rintro e w3 ⟨⟨pq,rfl⟩,hb3⟩;rw [hv];have B_ := aS (k_B B.out hb3);have H_ := aS (b_s H.out hb3);clear B H k0 k1 k2 k3 k4 hb3;have B := B_;have H := H_;clear B_ H_;have k0 := blk_cell B.out 0;have k1 := blk_cell B.out 1;have k2 := blk_cell B.out 2;have k3 := blk_cell B.out 3;have k4 := blk_cell B.out 4) | (go_at_call 90;refine (spec_Value.at x _ _ hzt.out).mono ?_;rintro e w3 ⟨rfl,hb3⟩;rw [hs];have B_ := aS (k_B B.out hb3);have H_ := aS (b_s H.out hb3);clear B H k0 k1 k2 k3 k4 hb3;have B := B_;have H := H_;clear B_ H_;have k0 := blk_cell B.out 0;have k1 := blk_cell B.out 1;have k2 := blk_cell B.out 2;have k3 := blk_cell B.out 3;have k4 := blk_cell B.out 4))
      all_goals go_ret3
      all_goals obtain rfl := HG.out
      all_goals refine ⟨?_,H.out⟩
      all_goals (repeat' split) <;> first | rfl | simp_all
  ·have e5 : (pe != 0) = true := bne_iff_ne.mpr c1
   rw [if_pos c1] at hg
   have HG := aS hg
   clear hg hok c1
   go_enter func37,ntmps37
   go_wp2_with (first | (go_at_call 86;refine (cell_known.at _ _).mono ?_;rintro e w1 ⟨rfl,rfl⟩;rw [hk]) | (go_at_call 77;refine (spec_Check.at x _).mono ?_;rintro e w2 ⟨rfl,hb1⟩;have B := aS (blk_nb hb1);have H := aS (below_a1 hb1);clear hb1;have k0 := blk_cell B.out 0;have k1 := blk_cell B.out 1;have k2 := blk_cell B.out 2;have k3 := blk_cell B.out 3;have k4 := blk_cell B.out 4) | (go_at_call 88;refine (cell_how.at _ _ _).mono ?_;rintro e w3 ⟨rfl,rfl⟩;rw [hh]) | (go_at_call 78;refine (bcd_Size.at _ _ (by omega)).mono ?_;rintro e w3 ⟨rfl,rfl⟩) | (go_at_call 87;refine (prefix_Get.at _ _ _ _ _ hst hfo.out h0.out h1.out (by omega)).mono ?_;rintro e w3 ⟨rfl,hb3⟩;rw [hp];have B_ := aS (k_B B.out hb3);have H_ := aS (b_s H.out hb3);clear B H k0 k1 k2 k3 k4 hb3;have B := B_;have H := H_;clear B_ H_;have k0 := blk_cell B.out 0;have k1 := blk_cell B.out 1;have k2 := blk_cell B.out 2;have k3 := blk_cell B.out 3;have k4 := blk_cell B.out 4))
   go_ret3
   obtain rfl := HG.out
   exact ⟨rfl,H.out⟩
end Go.Proofs.YtgbmnpgaddhfpaaGreatDoor.T
namespace Go.Proofs.YtgbmnpgaddhfpaaGreatDoor.T
open Go.RowKit Go.Proofs.YtgbmnpgaddhfpaaGreatDoorW.PrintWords Go.Proofs.YtgbmnpgaddhfpaaGreatDoorW.PrintLast Go.Proofs.YtgbmnpgaddhfpaaGreatDoorW.PrintMore
attribute [local go_sem] max2_int min2_int max_two min_two
open Go.Proofs.YtgbmnpgaddhfpaaGreatDoor.G
open Extern.Stop (cell)
open Tryz
set_option maxRecDepth 100000
def bs8 (t : ByteArray) : List UInt8 := [t.data.toList[0]?.getD 0,t.data.toList[1]?.getD 0,t.data.toList[2]?.getD 0,t.data.toList[3]?.getD 0,t.data.toList[4]?.getD 0,t.data.toList[5]?.getD 0,t.data.toList[6]?.getD 0,t.data.toList[7]?.getD 0]
def zero8q (t : ByteArray) : Bool := bs8 t == [0,0,0,0,0,0,0,0]
theorem cells8_bs (t : ByteArray) : cells8 t = ((bs8 t).map cell).toArray := by
 have hb := bt_data t
 have h0 := hb 0
 have h1 := hb 1
 have h2 := hb 2
 have h3 := hb 3
 have h4 := hb 4
 have h5 := hb 5
 have h6 := hb 6
 have h7 := hb 7
 show #[Value.int .u8 (bt t ((0 : Nat) : Int)),Value.int .u8 (bt t ((1 : Nat) : Int)),Value.int .u8 (bt t ((2 : Nat) : Int)),Value.int .u8 (bt t ((3 : Nat) : Int)),Value.int .u8 (bt t ((4 : Nat) : Int)),Value.int .u8 (bt t ((5 : Nat) : Int)),Value.int .u8 (bt t ((6 : Nat) : Int)),Value.int .u8 (bt t ((7 : Nat) : Int))] = _
 rw [h0,h1,h2,h3,h4,h5,h6,h7]
 rfl
theorem bitmap_bits.at' (t : ByteArray) (w : World) : Calls prog 83 #[.agg #[.int .u8 (bt t 0),.int .u8 (bt t 1),.int .u8 (bt t 2),.int .u8 (bt t 3),.int .u8 (bt t 4),.int .u8 (bt t 5),.int .u8 (bt t 6),.int .u8 (bt t 7)]] w fun e w' => e = .returned (.int .u64 (bitsAt t 8)) ∧ Below w.heap.size w w' := bitmap_bits.at t w
theorem eql8 (t : ByteArray) (W : World) : (Op.equalIn 10000 154 (.agg #[.int .u8 (bt t 0),.int .u8 (bt t 1),.int .u8 (bt t 2),.int .u8 (bt t 3),.int .u8 (bt t 4),.int .u8 (bt t 5),.int .u8 (bt t 6),.int .u8 (bt t 7)]) (.agg #[.int .u8 0,.int .u8 0,.int .u8 0,.int .u8 0,.int .u8 0,.int .u8 0,.int .u8 0,.int .u8 0])).run prog W = .ok (zero8q t) W := by
 have h := run_equalIn_bytes (P := prog) W 9998 154 5 8 underlying154 underlying5 (by intro w;kernel_rfl) (bs8 t) [0,0,0,0,0,0,0,0] rfl rfl
 rw [← cells8_bs] at h
 exact h
def bmG (st : Int) (b : ByteArray) (i : Int) : (Int × Int) × Int × Int :=
 if (takeG st b i).2.2 ≠ 0 then ((0,0),0,(takeG st b i).2.2) else
 if Go.bits .and .u64 (bitsAt (takeG st b i).1 8) 9223372036854775808 = 0 then ((bitsAt (takeG st b i).1 8,0),(takeG st b i).2.1,0) else
 if (takeG st b (takeG st b i).2.1).2.2 ≠ 0 then ((0,0),0,(takeG st b (takeG st b i).2.1).2.2) else
 if zero8q (takeG st b (takeG st b i).2.1).1 = true then ((0,0),0,8) else
 ((Go.bits .andNot .u64 (bitsAt (takeG st b i).1 8) 9223372036854775808,bitsAt (takeG st b (takeG st b i).2.1).1 8),(takeG st b (takeG st b i).2.1).2.1,0)
theorem takeG_ok {st : Int} {b : ByteArray} {i : Int} (h0 : 0 ≤ i) (h1 : i ≤ b.size) (h : (takeG st b i).2.2 = 0) : i < (takeG st b i).2.1 ∧ (takeG st b i).2.1 ≤ b.size := by
 unfold takeG at h ⊢
 (repeat' split at h) <;> first | (exact absurd h (by decide)) | skip
 ·rename_i a c d
  rw [if_pos a,if_neg c,if_neg d]
  exact ⟨by show i < i + _;omega,by show i + _ ≤ _;omega⟩
 ·rename_i a c
  rw [if_neg a,if_neg c]
  exact ⟨by show i < i + _;omega,by show i + _ ≤ _;omega⟩
theorem setRow_fresh (W : World) (a b : Array Value) (t : TypeId) : (W.alloc (.cells a t)).setRow W.heap.size b = W.alloc (.cells b t) := by
 have h : (W.heap.push (Obj.cells a t)).modify W.heap.size (fun x => match x with | Obj.cells c elem frozen => Obj.cells b elem frozen | o => o) = W.heap.push (Obj.cells b t) := by
  apply Array.ext_getElem?
  intro i
  rw [Array.getElem?_modify,Array.getElem?_push,Array.getElem?_push]
  by_cases e : W.heap.size = i
  ·subst e;simp
  ·rw [if_neg e,if_neg (fun c => e c.symm),if_neg (fun c => e c.symm)]
 unfold World.setRow
 unfold World.alloc
 exact congrArg (fun q => ({ W with heap := q } : World)) h
theorem store_fresh8 (t : ByteArray) (W : World) : (storeCells { block := W.heap.size,off := 0 } (cells8 t).toList).run prog (W.alloc (.cells #[.int .u8 0,.int .u8 0,.int .u8 0,.int .u8 0,.int .u8 0,.int .u8 0,.int .u8 0,.int .u8 0] 154)) = .ok () (W.alloc (.cells (cells8 t) 154)) := by
 have h := run_storeCells_at (P := prog) W.heap.size 0 154 (cells8 t).toList 0 _ (W.alloc (.cells #[.int .u8 0,.int .u8 0,.int .u8 0,.int .u8 0,.int .u8 0,.int .u8 0,.int .u8 0,.int .u8 0] 154)) (blk_new W _) (by simp [cells8]) (by
  intro v hv
  simp only [cells8,List.mem_cons,List.not_mem_nil,or_false] at hv
  rcases hv with rfl | rfl | rfl | rfl | rfl | rfl | rfl | rfl <;> rfl)
 refine h.trans ?_
 rw [setRow_fresh]
 rfl
set_option maxHeartbeats 2000000 in
theorem bitmap_Get.at (st : Int) (b : ByteArray) (i : Int) (w : World) (hst : st = 1 ∨ st = 2) (h0 : 0 ≤ i) (h1 : i ≤ b.size) (hb : b.size ≤ 100000) :
  Calls prog 34 #[.int .i64 st,.string b,.int .i64 i] w fun e w' => e = .returned (.tuple #[vSet (bmG st b i).1,.int .i64 (bmG st b i).2.1,.int .i64 (bmG st b i).2.2]) ∧ Below w.heap.size w w' := by
 have hu82 := underlying82
 have hu154 := underlying154
 have hk : known st = true := by rcases hst with rfl | rfl <;> decide
 have a0 : decide (i < 0) = false := d_F (by omega)
 have a1 : decide ((b.size : Int) < i) = false := d_F (by omega)
 obtain ⟨r,hg⟩ : ∃ r,bmG st b i = r := ⟨_,rfl⟩
 rw [hg]
 rw [bmG] at hg
 have hok := takeG_ok (st := st) h0 h1
 obtain ⟨x1,x2,x3,hx⟩ : ∃ x1 x2 x3,takeG st b i = (x1,x2,x3) := ⟨_,_,_,rfl⟩
 rw [hx] at hg hok
 simp only at hg hok
 have st1 := store_fresh8 x1
 have z0 : ∀ h : 0 < (cells8 x1).size,(cells8 x1)[0] = .int .u8 (bt x1 0) := fun _ => rfl
 have z1 : ∀ h : 1 < (cells8 x1).size,(cells8 x1)[1] = .int .u8 (bt x1 1) := fun _ => rfl
 have z2 : ∀ h : 2 < (cells8 x1).size,(cells8 x1)[2] = .int .u8 (bt x1 2) := fun _ => rfl
 have z3 : ∀ h : 3 < (cells8 x1).size,(cells8 x1)[3] = .int .u8 (bt x1 3) := fun _ => rfl
 have z4 : ∀ h : 4 < (cells8 x1).size,(cells8 x1)[4] = .int .u8 (bt x1 4) := fun _ => rfl
 have z5 : ∀ h : 5 < (cells8 x1).size,(cells8 x1)[5] = .int .u8 (bt x1 5) := fun _ => rfl
 have z6 : ∀ h : 6 < (cells8 x1).size,(cells8 x1)[6] = .int .u8 (bt x1 6) := fun _ => rfl
 have z7 : ∀ h : 7 < (cells8 x1).size,(cells8 x1)[7] = .int .u8 (bt x1 7) := fun _ => rfl
 by_cases c1 : x3 = 0
 ·have e1 : (x3 != 0) = false := bne_eq_false_iff_eq.mpr c1
  rw [if_neg (by omega)] at hg
  have hj := hok c1
  have h2 : Aside0 (0 ≤ x2) := ⟨by omega⟩
  have h3 : Aside0 (x2 ≤ b.size) := ⟨hj.2⟩
  clear hok c1 hj
  obtain ⟨X,hX⟩ : ∃ X,bitsAt x1 8 = X := ⟨_,rfl⟩
  rw [hX] at hg
  by_cases c2 : Go.bits .and .u64 X 9223372036854775808 = 0
  ·have e2 : (Go.bits .and .u64 X 9223372036854775808 == 0) = true := beq_iff_eq.mpr c2
   rw [if_pos c2] at hg
   have HG := aS hg
   clear hg c2
   go_enter func34,ntmps34
   go_wp2_with (first | (go_at_call 81;refine (bitmap_known.at _ _).mono ?_;rintro e w1 ⟨rfl,rfl⟩;rw [hk]) | (go_at_call 82;refine (bitmap_take.at _ _ _ _ hst h0 h1 hb).mono ?_;rintro e w2 ⟨rfl,hb1⟩;rw [hx];have B := aS (blk_nb hb1);have H := aS (below_a1 hb1);have k0 := blk_cell B.out 0;have k1 := blk_cell B.out 1;have f0 := blk_frozen B.out 0;have f1 := blk_frozen B.out 1;have g0 := fun o => blk_frozen (blk_alloc B.out o) 0;have g1 := fun o => blk_frozen (blk_alloc B.out o) 1;have l0 := fun o => blk_cell (blk_alloc B.out o) 0;have l1 := fun o => blk_cell (blk_alloc B.out o) 1;clear hb1) | (go_at_call 83;refine (bitmap_bits.at' _ _).mono ?_;rintro e w3 ⟨rfl,hb3⟩;rw [hX];have B_ := aS (k_B (blk_alloc B.out _) hb3);have H_ := aS (b_s (b_l H.out _) hb3);clear B H k0 k1 f0 f1 g0 g1 l0 l1;have B := B_;have H := H_;clear B_ H_;have k0 := blk_cell B.out 0;have k1 := blk_cell B.out 1;have f0 := blk_frozen B.out 0;have f1 := blk_frozen B.out 1;have g0 := fun o => blk_frozen (blk_alloc B.out o) 0;have g1 := fun o => blk_frozen (blk_alloc B.out o) 1;have l0 := fun o => blk_cell (blk_alloc B.out o) 0;have l1 := fun o => blk_cell (blk_alloc B.out o) 1;clear hb3) | (go_at_call 84;refine (fields_Bits.at _ _ _).mono ?_;rintro e w4 ⟨rfl,hb4⟩;have B_ := aS (k_B B.out hb4);have H_ := aS (b_s H.out hb4);clear B H k0 k1 f0 f1 g0 g1 l0 l1;have B := B_;have H := H_;clear B_ H_;have k0 := blk_cell B.out 0;have k1 := blk_cell B.out 1;have f0 := blk_frozen B.out 0;have f1 := blk_frozen B.out 1;have g0 := fun o => blk_frozen (blk_alloc B.out o) 0;have g1 := fun o => blk_frozen (blk_alloc B.out o) 1;have l0 := fun o => blk_cell (blk_alloc B.out o) 0;have l1 := fun o => blk_cell (blk_alloc B.out o) 1;clear hb4;simp only [vSet]))
   refine bodyPost_ret (results_ctt rfl _ _ w.heap.size 82 _ (0,0) _ rfl (blk_put (blk_put B.out 0 _ rfl) 1 _ rfl) hu82 rfl (by kernel_rfl)) rfl ?_
   obtain rfl := HG.out
   exact ⟨rfl,(H.out.setCell (p := ⟨w.heap.size,0,none⟩) (Nat.le_refl _) _).setCell (p := ⟨w.heap.size,1,none⟩) (Nat.le_refl _) _⟩
  ·have e2 : (Go.bits .and .u64 X 9223372036854775808 == 0) = false := beq_eq_false_iff_ne.mpr c2
   rw [if_neg c2] at hg
   obtain ⟨y1,y2,y3,hy⟩ : ∃ y1 y2 y3,takeG st b x2 = (y1,y2,y3) := ⟨_,_,_,rfl⟩
   rw [hy] at hg
   simp only at hg
   have st2 := store_fresh8 y1
   have y0z : ∀ h : 0 < (cells8 y1).size,(cells8 y1)[0] = .int .u8 (bt y1 0) := fun _ => rfl
   have y1z : ∀ h : 1 < (cells8 y1).size,(cells8 y1)[1] = .int .u8 (bt y1 1) := fun _ => rfl
   have y2z : ∀ h : 2 < (cells8 y1).size,(cells8 y1)[2] = .int .u8 (bt y1 2) := fun _ => rfl
   have y3z : ∀ h : 3 < (cells8 y1).size,(cells8 y1)[3] = .int .u8 (bt y1 3) := fun _ => rfl
   have y4z : ∀ h : 4 < (cells8 y1).size,(cells8 y1)[4] = .int .u8 (bt y1 4) := fun _ => rfl
   have y5z : ∀ h : 5 < (cells8 y1).size,(cells8 y1)[5] = .int .u8 (bt y1 5) := fun _ => rfl
   have y6z : ∀ h : 6 < (cells8 y1).size,(cells8 y1)[6] = .int .u8 (bt y1 6) := fun _ => rfl
   have y7z : ∀ h : 7 < (cells8 y1).size,(cells8 y1)[7] = .int .u8 (bt y1 7) := fun _ => rfl
   obtain ⟨Y,hY⟩ : ∃ Y,bitsAt y1 8 = Y := ⟨_,rfl⟩
   rw [hY] at hg
   clear c2
   by_cases c3 : y3 = 0
   ·have e3 : (y3 != 0) = false := bne_eq_false_iff_eq.mpr c3
    rw [if_neg (by omega)] at hg
    clear c3
    have hE := eql8 y1
    obtain ⟨q,hq⟩ : ∃ q,zero8q y1 = q := ⟨_,rfl⟩
    simp only [hq] at hE
    rw [hq] at hg
    have HG := aS hg
    clear hg hq
    cases q with
    | true =>
     go_enter func34,ntmps34
     go_wp2_with (first | (go_at_call 81;refine (bitmap_known.at _ _).mono ?_;rintro e w1 ⟨rfl,rfl⟩;rw [hk]) | (go_at_call 82;refine (bitmap_take.at _ _ _ _ hst ?ta ?tb hb).mono ?_;(case ta => first | exact h0 | exact h2.out);(case tb => first | exact h1 | exact h3.out);rintro e w2 ⟨rfl,hb1⟩;(first | rw [hx] | rw [hy]);(first | (have B_ := aS (k_B B.out hb1);have H_ := aS (b_s H.out hb1);clear B H k0 k1 f0 f1 g0 g1 l0 l1;have B := B_;have H := H_;clear B_ H_;have k0 := blk_cell B.out 0;have k1 := blk_cell B.out 1;have f0 := blk_frozen B.out 0;have f1 := blk_frozen B.out 1;have g0 := fun o => blk_frozen (blk_alloc B.out o) 0;have g1 := fun o => blk_frozen (blk_alloc B.out o) 1;have l0 := fun o => blk_cell (blk_alloc B.out o) 0;have l1 := fun o => blk_cell (blk_alloc B.out o) 1) | (have B := aS (blk_nb hb1);have H := aS (below_a1 hb1);have k0 := blk_cell B.out 0;have k1 := blk_cell B.out 1;have f0 := blk_frozen B.out 0;have f1 := blk_frozen B.out 1;have g0 := fun o => blk_frozen (blk_alloc B.out o) 0;have g1 := fun o => blk_frozen (blk_alloc B.out o) 1;have l0 := fun o => blk_cell (blk_alloc B.out o) 0;have l1 := fun o => blk_cell (blk_alloc B.out o) 1));clear hb1) | (go_at_call 83;refine (bitmap_bits.at' _ _).mono ?_;rintro e w3 ⟨rfl,hb3⟩;(first | rw [hX] | rw [hY]);have B_ := aS (k_B (blk_alloc B.out _) hb3);have H_ := aS (b_s (b_l H.out _) hb3);clear B H k0 k1 f0 f1 g0 g1 l0 l1;have B := B_;have H := H_;clear B_ H_;have k0 := blk_cell B.out 0;have k1 := blk_cell B.out 1;have f0 := blk_frozen B.out 0;have f1 := blk_frozen B.out 1;have g0 := fun o => blk_frozen (blk_alloc B.out o) 0;have g1 := fun o => blk_frozen (blk_alloc B.out o) 1;have l0 := fun o => blk_cell (blk_alloc B.out o) 0;have l1 := fun o => blk_cell (blk_alloc B.out o) 1;clear hb3))
     refine bodyPost_ret (results_ctt rfl _ _ w.heap.size 82 _ (0,0) _ rfl (blk_put (blk_put (blk_alloc B.out _) 0 _ rfl) 1 _ rfl) hu82 rfl (by kernel_rfl)) rfl ?_
     obtain rfl := HG.out
     exact ⟨rfl,((b_l H.out _).setCell (p := ⟨w.heap.size,0,none⟩) (Nat.le_refl _) _).setCell (p := ⟨w.heap.size,1,none⟩) (Nat.le_refl _) _⟩
    | false =>
     go_enter func34,ntmps34
     go_wp2_with (first | (go_at_call 81;refine (bitmap_known.at _ _).mono ?_;rintro e w1 ⟨rfl,rfl⟩;rw [hk]) | (go_at_call 82;refine (bitmap_take.at _ _ _ _ hst ?ta ?tb hb).mono ?_;(case ta => first | exact h0 | exact h2.out);(case tb => first | exact h1 | exact h3.out);rintro e w2 ⟨rfl,hb1⟩;(first | rw [hx] | rw [hy]);(first | (have B_ := aS (k_B B.out hb1);have H_ := aS (b_s H.out hb1);clear B H k0 k1 f0 f1 g0 g1 l0 l1;have B := B_;have H := H_;clear B_ H_;have k0 := blk_cell B.out 0;have k1 := blk_cell B.out 1;have f0 := blk_frozen B.out 0;have f1 := blk_frozen B.out 1;have g0 := fun o => blk_frozen (blk_alloc B.out o) 0;have g1 := fun o => blk_frozen (blk_alloc B.out o) 1;have l0 := fun o => blk_cell (blk_alloc B.out o) 0;have l1 := fun o => blk_cell (blk_alloc B.out o) 1) | (have B := aS (blk_nb hb1);have H := aS (below_a1 hb1);have k0 := blk_cell B.out 0;have k1 := blk_cell B.out 1;have f0 := blk_frozen B.out 0;have f1 := blk_frozen B.out 1;have g0 := fun o => blk_frozen (blk_alloc B.out o) 0;have g1 := fun o => blk_frozen (blk_alloc B.out o) 1;have l0 := fun o => blk_cell (blk_alloc B.out o) 0;have l1 := fun o => blk_cell (blk_alloc B.out o) 1));clear hb1) | (go_at_call 83;refine (bitmap_bits.at' _ _).mono ?_;rintro e w3 ⟨rfl,hb3⟩;(first | rw [hX] | rw [hY]);have B_ := aS (k_B (blk_alloc B.out _) hb3);have H_ := aS (b_s (b_l H.out _) hb3);clear B H k0 k1 f0 f1 g0 g1 l0 l1;have B := B_;have H := H_;clear B_ H_;have k0 := blk_cell B.out 0;have k1 := blk_cell B.out 1;have f0 := blk_frozen B.out 0;have f1 := blk_frozen B.out 1;have g0 := fun o => blk_frozen (blk_alloc B.out o) 0;have g1 := fun o => blk_frozen (blk_alloc B.out o) 1;have l0 := fun o => blk_cell (blk_alloc B.out o) 0;have l1 := fun o => blk_cell (blk_alloc B.out o) 1;clear hb3) | (go_at_call 84;refine (fields_Bits.at _ _ _).mono ?_;rintro e w4 ⟨rfl,hb4⟩;have B_ := aS (k_B B.out hb4);have H_ := aS (b_s H.out hb4);clear B H k0 k1 f0 f1 g0 g1 l0 l1;have B := B_;have H := H_;clear B_ H_;have k0 := blk_cell B.out 0;have k1 := blk_cell B.out 1;have f0 := blk_frozen B.out 0;have f1 := blk_frozen B.out 1;have g0 := fun o => blk_frozen (blk_alloc B.out o) 0;have g1 := fun o => blk_frozen (blk_alloc B.out o) 1;have l0 := fun o => blk_cell (blk_alloc B.out o) 0;have l1 := fun o => blk_cell (blk_alloc B.out o) 1;clear hb4;simp only [vSet]))
     refine bodyPost_ret (results_ctt rfl _ _ w.heap.size 82 _ (0,0) _ rfl (blk_put (blk_put B.out 0 _ rfl) 1 _ rfl) hu82 rfl (by kernel_rfl)) rfl ?_
     obtain rfl := HG.out
     exact ⟨rfl,(H.out.setCell (p := ⟨w.heap.size,0,none⟩) (Nat.le_refl _) _).setCell (p := ⟨w.heap.size,1,none⟩) (Nat.le_refl _) _⟩
   ·have e3 : (y3 != 0) = true := bne_iff_ne.mpr c3
    rw [if_pos c3] at hg
    have HG := aS hg
    clear hg c3
    go_enter func34,ntmps34
    go_wp2_with (first | (go_at_call 81;refine (bitmap_known.at _ _).mono ?_;rintro e w1 ⟨rfl,rfl⟩;rw [hk]) | (go_at_call 82;refine (bitmap_take.at _ _ _ _ hst ?ta ?tb hb).mono ?_;(case ta => first | exact h0 | exact h2.out);(case tb => first | exact h1 | exact h3.out);rintro e w2 ⟨rfl,hb1⟩;(first | rw [hx] | rw [hy]);(first | (have B_ := aS (k_B B.out hb1);have H_ := aS (b_s H.out hb1);clear B H k0 k1 f0 f1 g0 g1 l0 l1;have B := B_;have H := H_;clear B_ H_;have k0 := blk_cell B.out 0;have k1 := blk_cell B.out 1;have f0 := blk_frozen B.out 0;have f1 := blk_frozen B.out 1;have g0 := fun o => blk_frozen (blk_alloc B.out o) 0;have g1 := fun o => blk_frozen (blk_alloc B.out o) 1;have l0 := fun o => blk_cell (blk_alloc B.out o) 0;have l1 := fun o => blk_cell (blk_alloc B.out o) 1) | (have B := aS (blk_nb hb1);have H := aS (below_a1 hb1);have k0 := blk_cell B.out 0;have k1 := blk_cell B.out 1;have f0 := blk_frozen B.out 0;have f1 := blk_frozen B.out 1;have g0 := fun o => blk_frozen (blk_alloc B.out o) 0;have g1 := fun o => blk_frozen (blk_alloc B.out o) 1;have l0 := fun o => blk_cell (blk_alloc B.out o) 0;have l1 := fun o => blk_cell (blk_alloc B.out o) 1));clear hb1) | (go_at_call 83;refine (bitmap_bits.at' _ _).mono ?_;rintro e w3 ⟨rfl,hb3⟩;(first | rw [hX] | rw [hY]);have B_ := aS (k_B (blk_alloc B.out _) hb3);have H_ := aS (b_s (b_l H.out _) hb3);clear B H k0 k1 f0 f1 g0 g1 l0 l1;have B := B_;have H := H_;clear B_ H_;have k0 := blk_cell B.out 0;have k1 := blk_cell B.out 1;have f0 := blk_frozen B.out 0;have f1 := blk_frozen B.out 1;have g0 := fun o => blk_frozen (blk_alloc B.out o) 0;have g1 := fun o => blk_frozen (blk_alloc B.out o) 1;have l0 := fun o => blk_cell (blk_alloc B.out o) 0;have l1 := fun o => blk_cell (blk_alloc B.out o) 1;clear hb3))
    refine bodyPost_ret (results_ctt rfl _ _ w.heap.size 82 _ (0,0) _ rfl (blk_put (blk_put (blk_alloc B.out _) 0 _ rfl) 1 _ rfl) hu82 rfl (by kernel_rfl)) rfl ?_
    obtain rfl := HG.out
    exact ⟨rfl,((b_l H.out _).setCell (p := ⟨w.heap.size,0,none⟩) (Nat.le_refl _) _).setCell (p := ⟨w.heap.size,1,none⟩) (Nat.le_refl _) _⟩
 ·have e1 : (x3 != 0) = true := bne_iff_ne.mpr c1
  rw [if_pos c1] at hg
  have HG := aS hg
  clear hg c1
  go_enter func34,ntmps34
  go_wp2_with (first | (go_at_call 81;refine (bitmap_known.at _ _).mono ?_;rintro e w1 ⟨rfl,rfl⟩;rw [hk]) | (go_at_call 82;refine (bitmap_take.at _ _ _ _ hst h0 h1 hb).mono ?_;rintro e w2 ⟨rfl,hb1⟩;rw [hx];have B := aS (blk_nb hb1);have H := aS (below_a1 hb1);have k0 := blk_cell B.out 0;have k1 := blk_cell B.out 1;have f0 := blk_frozen B.out 0;have f1 := blk_frozen B.out 1;have g0 := fun o => blk_frozen (blk_alloc B.out o) 0;have g1 := fun o => blk_frozen (blk_alloc B.out o) 1;have l0 := fun o => blk_cell (blk_alloc B.out o) 0;have l1 := fun o => blk_cell (blk_alloc B.out o) 1;clear hb1))
  refine bodyPost_ret (results_ctt rfl _ _ w.heap.size 82 _ (0,0) _ rfl (blk_put (blk_put (blk_alloc B.out _) 0 _ rfl) 1 _ rfl) hu82 rfl (by kernel_rfl)) rfl ?_
  obtain rfl := HG.out
  exact ⟨rfl,((b_l H.out _).setCell (p := ⟨w.heap.size,0,none⟩) (Nat.le_refl _) _).setCell (p := ⟨w.heap.size,1,none⟩) (Nat.le_refl _) _⟩
end Go.Proofs.YtgbmnpgaddhfpaaGreatDoor.T
