/- Walks and plain laws beneath the law TopBuilt. No conditions but what each statement names. -/
import Derived.Deep.RegionLaw
import Derived.Test.YtgbmnpgaddhfpaaGreatDoorB8
set_option linter.unusedVariables false
set_option linter.unusedSimpArgs false
namespace Go.Proofs.YtgbmnpgaddhfpaaGreatDoor.T
open Go.RowKit Go.Proofs.YtgbmnpgaddhfpaaGreatDoorW.PrintWords Go.Proofs.YtgbmnpgaddhfpaaGreatDoorW.PrintLast Go.Proofs.YtgbmnpgaddhfpaaGreatDoorW.PrintMore
attribute [local go_sem] max2_int min2_int max_two min_two
open Go.Proofs.YtgbmnpgaddhfpaaGreatDoor.G
open Tryz
set_option maxRecDepth 100000
def placeW (no : Int) (xs : List S63) : Nat := if idxS no xs 0 < 0 then xs.length else (idxS no xs 0).toNat
def insS (no : Int) (t : ByteArray) (xs : List S63) : List S63 := xs.take (placeW no xs) ++ [⟨no,t⟩] ++ xs.drop (placeW no xs)
def withM (no : Int) (t : ByteArray) (xs : List S63) : List S63 := insS no t (withoutS no xs)
theorem idxS_range (no : Int) : ∀ (xs : List S63) (i : Int),0 ≤ i → idxS no xs i = -1 ∨ i ≤ idxS no xs i ∧ idxS no xs i < i + xs.length
 | [],_,_ => .inl rfl
 | x :: xs,i,hi => by
  rw [idxS]
  split
  ·exact .inr ⟨by omega,by simp;omega⟩
  ·rcases idxS_range no xs (i + 1) (by omega) with h | h
   ·exact .inl h
   ·exact .inr ⟨by omega,by simp;omega⟩
theorem placeW_le (no : Int) (xs : List S63) : placeW no xs ≤ xs.length := by
 unfold placeW
 rcases idxS_range no xs 0 (by omega) with h | h <;> split <;> omega
theorem withoutS_len (no : Int) : ∀ xs : List S63,(withoutS no xs).length ≤ xs.length
 | [] => Nat.le_refl _
 | x :: xs => by
  rw [withoutS]
  have := withoutS_len no xs
  split
  ·simp;omega
  ·simp;omega
theorem make63 {ops : Array Oper} {rest : List Oper} {o : Oper} {a : Act} {Q : Exit → Act → World → Prop} {W : World} (hgd : o.guard = none) (x y : Operand) (ho : o.op = .makeSlice 40 x y) (m : Nat) (hx : a.eval x = .int .i64 m) (hy : a.eval y = .int .i64 m) (hm : m ≤ 2000000)
  (h : ∀ cur : List Value,cur.length = 2 * m → wpList prog ops Q rest (a.put o.dst (.slice (some ⟨W.heap.size,0,none⟩) m m)) (W.alloc (.cells cur.toArray 63))) : wpList prog ops Q (o :: rest) a W := by
 obtain ⟨i0,hi,hzz⟩ := Option.map_eq_some_iff.1 info63
 simp only [Prod.mk.injEq] at hzz
 obtain ⟨hz0,hz1,hz2⟩ := hzz
 have hr := run_make (P := prog) W 40 63 i0 _ underlying40 hi hz0 .i64 .i64 (m : Int) (m : Int) (by omega) (by omega) (by rw [hz2];omega) (by omega)
 simp only [Int.toNat_natCast] at hr
 rw [hz1] at hr
 have h9 := h (madeCells (Value.agg #[(.int .i64 0),(.string ⟨#[]⟩)]).cells (m * 2)).toList (by rw [Array.length_toList,size_madeCells];omega)
 rw [Array.toArray_toList] at h9
 refine wpList_plain hgd fun K hK => ?_
 unfold Oper.wp
 simp only [execOp,ho]
 simp [hx,hy,hr,Result.andThen]
 exact hK _ _ h9
theorem flat63_take : ∀ (xs : List S63) (k : Nat),flat63 (xs.take k) = (flat63 xs).take (2 * k)
 | [],k => by simp [flat63]
 | x :: xs,0 => by simp [flat63]
 | x :: xs,k + 1 => by
  have e : flat63 (x :: xs) = .int .i64 x.f0 :: .string x.f1 :: flat63 xs := rfl
  have e2 : flat63 (x :: xs.take k) = .int .i64 x.f0 :: .string x.f1 :: flat63 (xs.take k) := rfl
  rw [List.take_succ_cons,e,e2,flat63_take xs k,show 2 * (k + 1) = 2 * k + 1 + 1 by omega,List.take_succ_cons,List.take_succ_cons]
theorem take_reads {w : World} {A : Option Addr} {n k : Nat} {xs : List S63} (h : Kd.C k63 w A n xs) (h0 : 0 < (flat63 (xs.take k)).length) : ∃ ad,A = some ad ∧ ∀ j v,(flat63 (xs.take k))[j]? = some v → w.cell? (ad.add j) = some v := by
 have hl : 0 < xs.length := by
  rcases xs with _ | ⟨x,xs⟩
  ·simp [flat63] at h0
  ·simp
 obtain ⟨ad,rfl,_⟩ := h.2.2 (by have := Kd.C_len h;omega)
 refine ⟨ad,rfl,fun j v hv => flat63_reads h j v ?_⟩
 rw [flat63_take,List.getElem?_take] at hv
 split at hv
 ·exact hv
 ·cases hv
theorem drop_reads {w : World} {A : Option Addr} {n k c : Nat} {xs : List S63} (h : Kd.C k63 w A n xs) (hk : k ≤ xs.length) (hc : xs.length ≤ c) (h0 : 0 < (flat63 (xs.drop k)).length) : ∃ ad,(if c = k then A else A.map (·.add (k * 2))) = some ad ∧ ∀ j v,(flat63 (xs.drop k))[j]? = some v → w.cell? (ad.add j) = some v := by
 have hl : 0 < xs.length - k := by rw [flat63_len,List.length_drop] at h0;omega
 have hn := Kd.C_len h
 have h2 : Kd.C k63 w A xs.length xs := by rw [hn];exact h
 have hd := Kd.C_drop h2 hk hc
 obtain ⟨ad,e,_⟩ := hd.2.2 (by rw [List.length_drop];exact hl)
 have hd2 : Kd.C k63 w (some ad) (xs.drop k).length (xs.drop k) := by rw [← e];exact hd
 exact ⟨ad,e,fun j v hv => flat63_reads hd2 j v hv⟩
theorem cp1_row {cur : List Value} {xs : List S63} {k n : Nat} (hc : cur.length = 2 * (n + 1)) (hk : k ≤ xs.length) : (cur.take 0 ++ flat63 (xs.take k) ++ cur.drop (0 + (flat63 (xs.take k)).length)) = flat63 (xs.take k) ++ cur.drop (2 * k) := by
 rw [flat63_len,List.length_take,Nat.min_eq_left hk]
 simp
theorem two_cells {W : World} {g k n : Nat} {cur : List Value} {xs : List S63} (hc : cur.length = 2 * (n + 1)) (hk : k ≤ n) (hx : xs.length = n) (h : W.heap[g]? = some (.cells (flat63 (xs.take k) ++ cur.drop (2 * k)).toArray 63 (0,0))) :
  ∃ u0 u1,W.cell? ⟨g,k * 2,none⟩ = some u0 ∧ W.cell? ⟨g,k * 2 + 1,none⟩ = some u1 ∧ W.frozen? ⟨g,k * 2,none⟩ = false ∧ W.frozen? ⟨g,k * 2 + 1,none⟩ = false := by
 have hl : (flat63 (xs.take k) ++ cur.drop (2 * k)).length = 2 * (n + 1) := by rw [List.length_append,flat63_len,List.length_take,List.length_drop,hc];omega
 have h0 := blk_cell h (k * 2)
 have h1 := blk_cell h (k * 2 + 1)
 rw [List.getElem?_toArray,List.getElem?_eq_getElem (by omega)] at h0 h1
 exact ⟨_,_,h0,h1,blk_frozen h _,blk_frozen h _⟩
theorem two_put {W : World} {g k : Nat} {L : List Value} (h : W.heap[g]? = some (.cells L.toArray 63 (0,0))) (u v : Value) : ((W.setCell ⟨g,k * 2,none⟩ u).setCell ⟨g,k * 2 + 1,none⟩ v).heap[g]? = some (.cells ((L.set (2 * k) u).set (2 * k + 1) v).toArray 63 (0,0)) :=
 blk_put (blk_put h (k * 2) _ (by rw [List.setIfInBounds_toArray,Nat.mul_comm])) (k * 2 + 1) _ (by rw [List.setIfInBounds_toArray,Nat.mul_comm])
theorem ne_of_blk {w W : World} {a b c : Obj} (D : Box3 w W a b c) : W.heap.size ≠ w.heap.size + 1 + 1 := by have := blk_lt D.h3;omega
theorem step_copy2 {ops : Array Oper} {o : Oper} {a : Act} {w : World} {K : Act → World → Prop} {Q : Exit → Act → World → Prop} {E : Prop} (hgd : o.guard = none) (d s : Operand) (ho : o.op = .call { callee := .builtin .copy,args := #[d,s],argTypes := #[40,40] })
  (dp sp : Option Addr) (dLen dCap sLen sCap : Nat) (hd : a.eval d = .slice dp dLen dCap) (hs : a.eval s = .slice sp sLen sCap) (g k : Nat) (cur cs : List Value) (hg : w.heap[g]? = some (.cells cur.toArray 63 (0,0))) (hn : cs.length = Nat.min sLen dLen * 2)
  (hpos : 0 < cs.length → dp = some ⟨g,k,none⟩ ∧ ∃ ad,sp = some ad ∧ ∀ j v,cs[j]? = some v → w.cell? (ad.add j) = some v) (hfit : k + cs.length ≤ cur.length) (h1 : ∀ v ∈ cs,v.oneCell' = true)
  (h : ∀ w' v,w'.heap[g]? = some (.cells (cur.take k ++ cs ++ cur.drop (k + cs.length)).toArray 63 (0,0)) → (∀ j,j ≠ g → w'.heap[j]? = w.heap[j]?) → (∀ (B : Nat) (w0 : World),B ≤ g → Below B w0 w → Below B w0 w') → K (a.put o.dst v) w') :
  if Region.wanted o (yielded ops a.tmps) = true then Oper.wp prog o a w K Q else E := by
 have hw : Region.wanted o (yielded ops a.tmps) = true := by simp [Region.wanted,hgd]
 rw [if_pos hw]
 have hrun := run_copy2 prog w 40 40 o.type 63 dp sp dLen dCap sLen sCap g k cur.toArray 63 cs underlying40 (by kernel_rfl) hg hn hpos (by simpa using hfit) h1
 have hh := setRow_heap w g _ ((cur.toArray.toList.take k ++ cs ++ cur.toArray.toList.drop (k + cs.length)).toArray) 63 _ hg
 have h9 := h (w.setRow g ((cur.toArray.toList.take k ++ cs ++ cur.toArray.toList.drop (k + cs.length)).toArray)) (goInt (Nat.min sLen dLen)) (by simpa using hh) (fun j hj => setRow_other w g j _ hj) (fun B w0 hB hb => below_setRow hb hB _)
 generalize w.setRow g ((cur.toArray.toList.take k ++ cs ++ cur.toArray.toList.drop (k + cs.length)).toArray) = W9 at hrun h9
 unfold Oper.wp
 simp only [execOp,ho,resolve,invoke,builtin]
 simp [hd,hs,hrun,Result.andThen]
 exact h9
theorem row_done {cur : List Value} {xs : List S63} {k : Nat} {no : Int} {t : ByteArray} (hc : cur.length = 2 * (xs.length + 1)) (hk : k ≤ xs.length) :
  ((((flat63 (xs.take k) ++ cur.drop (2 * k)).set (2 * k) (.int .i64 no)).set (2 * k + 1) (.string t)).take (2 * k + 2) ++ flat63 (xs.drop k) ++ (((flat63 (xs.take k) ++ cur.drop (2 * k)).set (2 * k) (.int .i64 no)).set (2 * k + 1) (.string t)).drop (2 * k + 2 + (flat63 (xs.drop k)).length)) = flat63 (xs.take k ++ [⟨no,t⟩] ++ xs.drop k) := by
 have h1 : (flat63 (xs.take k)).length = 2 * k := by rw [flat63_len,List.length_take];omega
 have h2 : (flat63 (xs.drop k)).length = 2 * (xs.length - k) := by rw [flat63_len,List.length_drop]
 obtain ⟨a,b,r,hr⟩ : ∃ a b r,cur.drop (2 * k) = a :: b :: r := by
  have hl : (cur.drop (2 * k)).length = 2 * (xs.length + 1) - 2 * k := by rw [List.length_drop,hc]
  match e : cur.drop (2 * k) with
  | [] => rw [e] at hl;simp at hl;omega
  | [a] => rw [e] at hl;simp at hl;omega
  | a :: b :: r => exact ⟨a,b,r,rfl⟩
 rw [hr]
 have hs1 : (flat63 (xs.take k) ++ a :: b :: r).set (2 * k) (.int .i64 no) = flat63 (xs.take k) ++ .int .i64 no :: b :: r := by
  rw [List.set_append_right _ _ (by omega),h1,Nat.sub_self];rfl
 rw [hs1]
 have hs2 : (flat63 (xs.take k) ++ .int .i64 no :: b :: r).set (2 * k + 1) (.string t) = flat63 (xs.take k) ++ .int .i64 no :: .string t :: r := by
  rw [List.set_append_right _ _ (by omega),h1,show 2 * k + 1 - 2 * k = 1 by omega];rfl
 rw [hs2]
 have hlr : r.length = 2 * (xs.length - k) := by
  have := congrArg List.length hr
  rw [List.length_drop,hc] at this
  simp at this
  omega
 have ht : (flat63 (xs.take k) ++ Value.int .i64 no :: Value.string t :: r).take (2 * k + 2) = flat63 (xs.take k) ++ [.int .i64 no,.string t] := by
  rw [List.take_append,List.take_of_length_le (by omega),h1,show 2 * k + 2 - 2 * k = 2 by omega];rfl
 have hd : (flat63 (xs.take k) ++ Value.int .i64 no :: Value.string t :: r).drop (2 * k + 2 + (flat63 (xs.drop k)).length) = [] := List.drop_of_length_le (by simp [h1,hlr,h2];omega)
 rw [ht,hd,List.append_nil,flat63_app,flat63_app]
 rfl
theorem IndexFunc63.at' (A : Option Addr) (c n : Nat) (xs : List S63) (no : Int) (B : Nat) (w : World) (hn : xs.length = n) (hl : n ≤ 4611686018427387904) (hr : Kd.C k63 w A n xs) (h : w.cell? ⟨B,0,none⟩ = some (.int .i64 no)) :
  Calls prog 97 #[.slice A n c,.func (.func 98) #[] #[.pointer (some ⟨B,0,none⟩)]] w fun e w' => e = .returned (.int .i64 (idxS no xs 0)) ∧ Below w.heap.size w w' := by
 subst hn
 exact IndexFunc63.at A c xs no B w hl hr h
theorem field42 (m : ByteArray) (A : Option Addr) (n c : Nat) (W : World) : (Instr.field 42 (.agg #[.string m,.slice A n c]) 1).run prog W = .ok (.slice A n c) W := by kernel_rfl
set_option maxHeartbeats 4000000 in
theorem msg_With.at (m : ByteArray) (A : Option Addr) (c : Nat) (xs : List S63) (no : Int) (t : ByteArray) (w : World) (hl : xs.length ≤ 1000000) (hr : Kd.C k63 w A xs.length xs) (hc : xs.length ≤ c) :
  Calls prog 41 #[.agg #[.string m,.slice A xs.length c],.int .i64 no,.string t] w fun e w' => (∃ g : Nat,e = .returned (.agg #[.string m,.slice (some ⟨g,0,none⟩) (withM no t xs).length (withM no t xs).length]) ∧ w.heap.size ≤ g ∧ w'.heap[g]? = some (.cells (flat63 (withM no t xs)).toArray 63 (0,0))) ∧ Below w.heap.size w w' := by
 have hu42 := underlying42
 have hu63 := underlying63
 have hfld := field42
 have HR := aS hr
 have HC := aS hc
 obtain ⟨old,hold⟩ : ∃ old,withoutS no xs = old := ⟨_,rfl⟩
 have hol := withoutS_len no xs
 obtain ⟨k,hk⟩ : ∃ k,placeW no old = k := ⟨_,rfl⟩
 have hkl := placeW_le no old
 obtain ⟨ix,hix⟩ : ∃ ix,idxS no old 0 = ix := ⟨_,rfl⟩
 obtain ⟨n,hn⟩ : ∃ n,old.length = n := ⟨_,rfl⟩
 have hkx : (ix < 0 ∧ n = k) ∨ (0 ≤ ix ∧ ix = (k : Int)) := by
  unfold placeW at hk
  rw [hix] at hk
  split at hk <;> omega
 have HW : Aside0 (withM no t xs = old.take k ++ [⟨no,t⟩] ++ old.drop k) := ⟨by unfold withM insS;rw [hold,hk]⟩
 have HWL : Aside0 ((withM no t xs).length = n + 1) := ⟨by rw [HW.out];simp;rw [hk] at hkl;omega⟩
 rw [hold] at hol
 rw [hk,hn] at hkl
 have HOL : Aside0 (n ≤ 1000000) := ⟨by omega⟩
 have HKN := aS hkl
 have HN := aS hn
 clear hr hc hol hk hkl hn
 rcases hkx with ⟨hx,rfl⟩ | ⟨hx,rfl⟩
 ·have e1 : decide (ix < 0) = true := d_T hx
  go_enter func41,ntmps41
  go_wp2_with (first | (go_at_call 96;refine (msg_Without.at m A c xs no _ hl (c_B HR.out (Box3.start w _ _ _).below) HC.out).mono ?_;rintro e w1 ⟨⟨A1,c1,rfl,hc1,hC1⟩,hb1⟩;rw [hold] at hc1 hC1 ⊢;rw [HN.out] at hc1 hC1 ⊢;have D := aS (Box3.init hb1);have HC1 := aS hC1;have HCL1 := aS hc1;clear hb1 hc1 hC1;obtain ⟨a0,a1⟩ := cells_2 D.out.h1) | (go_at_call 97;refine (IndexFunc63.at' A1 c1 n old no (w.heap.size + 1) _ HN.out (by have := HOL.out;omega) HC1.out (blk_cell D.out.h2 0)).mono ?_;rintro e w2 ⟨rfl,hb1⟩;rw [hix];have D_ := aS (D.out.step hb1);have HC_ := aS (c_B HC1.out hb1);clear D HC1 a0 a1 hb1;have D := D_;have HC1 := HC_;clear D_ HC_;obtain ⟨a0,a1⟩ := cells_2 D.out.h1;obtain ⟨i0,hi0,_,hsz,_⟩ := info_parts info63;have hct := cut_to (P := prog) 40 63 .i64 underlying40 hi0 A1 n c1 (n : Int) (by omega) (by have := HKN.out;omega) HCL1.out;have hcf := cut_from (P := prog) 40 63 .i64 underlying40 hi0 2 hsz A1 n c1 (n : Int) (by omega) (by have := HKN.out;omega);simp only [Int.toNat_natCast] at hct hcf;clear hi0 hsz) | ((with_reducible refine gate_dst (N := 24) rfl ?_);refine make63 rfl _ _ rfl (n + 1) ?m1 ?m2 (by have := HOL.out;have := HN.out;omega) ?_;(case m1 => go_simp;(have := HOL.out;have := HN.out;first | done | omega | (unfold wrap64;omega)));(case m2 => go_simp;(have := HOL.out;have := HN.out;first | done | omega | (unfold wrap64;omega)));intro cur hcur;have HCUR := aS hcur;clear hcur;have D_ := aS (D.out.step (b_l (Below.refl _ _) (.cells cur.toArray 63)));have HC_ := aS (Kd.C_alloc HC1.out (.cells cur.toArray 63));have G := aS (blk_new w2 (.cells cur.toArray 63));have D2 := D;have HC2 := HC1;clear D HC1 a0 a1;have D := D_;have HC1 := HC_;clear D_ HC_;obtain ⟨a0,a1⟩ := cells_2 D.out.h1) | ((with_reducible refine gate_builtin (b := .copy) (xs := #[.tmp 25,.tmp 28]) rfl ?_);refine wp_copy2 rfl (.tmp 25) (.tmp 28) rfl (some ⟨w2.heap.size,0,none⟩) A1 (n + 1) (n + 1) n c1 rfl rfl w2.heap.size 0 cur (flat63 (old.take n)) G.out ?c1 ?c2 ?c3 (flat63_one _) ?_;(case c1 => rw [flat63_len,List.length_take];have := HN.out;have := HKN.out;show 2 * min n old.length = min n (n + 1) * 2;omega);(case c2 => intro h0;exact ⟨rfl,take_reads HC1.out h0⟩);(case c3 => rw [flat63_len,List.length_take,HCUR.out];have := HN.out;have := HKN.out;omega);intro w3 v3 g3 k3 b3;rw [cp1_row HCUR.out (by have := HN.out;have := HKN.out;omega)] at g3;have hb := b3 w2.heap.size w2 (Nat.le_refl _) (bO _);clear D HC1 G a0 a1 k3 b3;have D := aS (D2.out.step hb);have HC1 := aS (c_B HC2.out hb);have G := aS g3;have HB3 := aS hb;clear g3 hb;obtain ⟨a0,a1⟩ := cells_2 D.out.h1;have n0 := blk_cell D.out.h2 0;have q1 : ((n : Int) < ((n + 1 : Nat) : Int)) = True := eq_true (by have := HKN.out;omega);have q2 : ((n : Int) < (n : Int) + 1) = True := eq_true (by have := HKN.out;omega);have q0 : (0 ≤ (n : Int)) = True := eq_true (by omega);obtain ⟨u0,u1,x0,x1,y0,y1⟩ := two_cells HCUR.out HKN.out HN.out G.out))
  obtain ⟨i1,hi1,_,hsz1,_⟩ := info_parts info63
  have hcg := cut_from (P := prog) 40 63 .i64 underlying40 hi1 2 hsz1 (some ⟨w2.heap.size,0,none⟩) (n + 1) (n + 1) ((n : Int) + 1) (by omega) (by have := HKN.out;omega)
  rw [show ((n : Int) + 1).toNat = n + 1 by omega] at hcg
  obtain ⟨dp2,hdp⟩ : ∃ dp2,dp2 = (if n + 1 = n + 1 then (some ⟨w2.heap.size,0,none⟩ : Option Addr) else (some ⟨w2.heap.size,0,none⟩ : Option Addr).map (·.add ((n + 1) * 2))) := ⟨_,rfl⟩
  obtain ⟨dl,hdl⟩ : ∃ dl,dl = n + 1 - (n + 1) := ⟨_,rfl⟩
  rw [← hdp,← hdl] at hcg
  obtain ⟨sp2,hsp⟩ : ∃ sp2,sp2 = (if c1 = n then A1 else A1.map (·.add (n * 2))) := ⟨_,rfl⟩
  rw [← hsp] at hcf
  have HDL := aS hdl
  have HCUR2 : Aside0 (cur.length = 2 * (old.length + 1)) := ⟨by rw [HN.out];exact HCUR.out⟩
  have G2 := aS (two_put (k := n) G.out (.int .i64 no) (.string t))
  have HBc := aS ((HB3.out.setCell (p := ⟨w2.heap.size,n * 2,none⟩) (Nat.le_refl _) (.int .i64 no)).setCell (p := ⟨w2.heap.size,n * 2 + 1,none⟩) (Nat.le_refl _) (.string t))
  have HD2 : Aside0 (0 < (flat63 (old.drop n)).length → dp2 = some ⟨w2.heap.size,2 * n + 2,none⟩ ∧ ∃ ad,sp2 = some ad ∧ ∀ j v,(flat63 (old.drop n))[j]? = some v → ((w3.setCell ⟨w2.heap.size,n * 2,none⟩ (.int .i64 no)).setCell ⟨w2.heap.size,n * 2 + 1,none⟩ (.string t)).cell? (ad.add j) = some v) := ⟨fun h0 => ⟨by have h1 := h0;rw [flat63_len,List.length_drop,HN.out] at h1;rw [hdp,if_neg (by omega)];show some (Addr.add ⟨w2.heap.size,0,none⟩ ((n + 1) * 2)) = _;rw [show (⟨w2.heap.size,0,none⟩ : Addr).add ((n + 1) * 2) = ⟨w2.heap.size,0 + (n + 1) * 2,none⟩ by unfold Addr.add;split <;> simp_all,show 0 + (n + 1) * 2 = 2 * n + 2 by omega],by rw [hsp];exact drop_reads (c_B HC2.out HBc.out) (by have := HN.out;have := HKN.out;omega) (by rw [HN.out];exact HCL1.out) h0⟩⟩
  have e9 : wrap64 ((n : Int) + 1) = (n : Int) + 1 := by have := HOL.out;have := HKN.out;unfold wrap64;omega
  have e8 : IntKind.i64.wrap ((n : Int) + 1) = (n : Int) + 1 := i64_small _ (by omega) (by have := HOL.out;have := HKN.out;omega)
  clear hdp hdl hsp
  go_region_law (refine step_copy2 rfl (.tmp 39) (.tmp 42) rfl dp2 sp2 dl dl (n - n) (c1 - n) (by simp [Act.eval,Act.put]) (by simp [Act.eval,Act.put]) w2.heap.size (2 * n + 2) ((((flat63 (old.take n) ++ cur.drop (2 * n)).set (2 * n) (.int .i64 no)).set (2 * n + 1) (.string t))) (flat63 (old.drop n)) G2.out ?d1 ?d2 ?d3 (flat63_one _) ?_;(case d1 => rw [flat63_len,List.length_drop];have := HN.out;have := HKN.out;have := HDL.out;show 2 * (old.length - n) = min (n - n) dl * 2;omega);(case d2 => intro h0;exact HD2.out h0);(case d3 => have := HN.out;have := HKN.out;have := HCUR.out;simp only [List.length_set,List.length_append,flat63_len,List.length_take,List.length_drop];omega);intro w4 v4 g4 k4 b4;rw [row_done HCUR2.out (by have := HN.out;have := HKN.out;omega),← HW.out] at g4;have hb := b4 w2.heap.size w2 (Nat.le_refl _) (below_drew1 HBc.out);clear D HC1 G a0 a1 n0 k4 b4 u0 u1 x0 x1 y0 y1;have D := aS (D2.out.step hb);have G := aS g4;clear g4 hb;obtain ⟨a0,a1⟩ := cells_2 D.out.h1;obtain ⟨c0,c1f⟩ := cells_2 D.out.h3;obtain ⟨f0,f1⟩ := froz_2 D.out.h3)
  all_goals go_wp2
  all_goals refine bodyPost_ret (results_cell_row rfl _ _ (w.heap.size + 1 + 1) 42 _ (0,0) _ rfl (blk_put (blk_put D.out.h3 0 _ rfl) 1 _ rfl) hu42 rfl (by kernel_rfl)) rfl ?_
  all_goals exact ⟨⟨w2.heap.size,by rw [HWL.out];rfl,D2.out.below.size,far _ _ (far _ _ G.out (ne_of_blk D2.out)) (ne_of_blk D2.out)⟩,(D.out.below.setCell (p := ⟨w.heap.size + 1 + 1,0,none⟩) (by show w.heap.size ≤ w.heap.size + 1 + 1;omega) _).setCell (p := ⟨w.heap.size + 1 + 1,1,none⟩) (by show w.heap.size ≤ w.heap.size + 1 + 1;omega) _⟩
 ·have e1 : decide ((k : Int) < 0) = false := d_F (by omega)
  go_enter func41,ntmps41
  go_wp2_with (first | (go_at_call 96;refine (msg_Without.at m A c xs no _ hl (c_B HR.out (Box3.start w _ _ _).below) HC.out).mono ?_;rintro e w1 ⟨⟨A1,c1,rfl,hc1,hC1⟩,hb1⟩;rw [hold] at hc1 hC1 ⊢;rw [HN.out] at hc1 hC1 ⊢;have D := aS (Box3.init hb1);have HC1 := aS hC1;have HCL1 := aS hc1;clear hb1 hc1 hC1;obtain ⟨a0,a1⟩ := cells_2 D.out.h1) | (go_at_call 97;refine (IndexFunc63.at' A1 c1 n old no (w.heap.size + 1) _ HN.out (by have := HOL.out;omega) HC1.out (blk_cell D.out.h2 0)).mono ?_;rintro e w2 ⟨rfl,hb1⟩;rw [hix];have D_ := aS (D.out.step hb1);have HC_ := aS (c_B HC1.out hb1);clear D HC1 a0 a1 hb1;have D := D_;have HC1 := HC_;clear D_ HC_;obtain ⟨a0,a1⟩ := cells_2 D.out.h1;obtain ⟨i0,hi0,_,hsz,_⟩ := info_parts info63;have hct := cut_to (P := prog) 40 63 .i64 underlying40 hi0 A1 n c1 (k : Int) (by omega) (by have := HKN.out;omega) HCL1.out;have hcf := cut_from (P := prog) 40 63 .i64 underlying40 hi0 2 hsz A1 n c1 (k : Int) (by omega) (by have := HKN.out;omega);simp only [Int.toNat_natCast] at hct hcf;clear hi0 hsz) | ((with_reducible refine gate_dst (N := 24) rfl ?_);refine make63 rfl _ _ rfl (n + 1) ?m1 ?m2 (by have := HOL.out;have := HN.out;omega) ?_;(case m1 => go_simp;(have := HOL.out;have := HN.out;first | done | omega | (unfold wrap64;omega)));(case m2 => go_simp;(have := HOL.out;have := HN.out;first | done | omega | (unfold wrap64;omega)));intro cur hcur;have HCUR := aS hcur;clear hcur;have D_ := aS (D.out.step (b_l (Below.refl _ _) (.cells cur.toArray 63)));have HC_ := aS (Kd.C_alloc HC1.out (.cells cur.toArray 63));have G := aS (blk_new w2 (.cells cur.toArray 63));have D2 := D;have HC2 := HC1;clear D HC1 a0 a1;have D := D_;have HC1 := HC_;clear D_ HC_;obtain ⟨a0,a1⟩ := cells_2 D.out.h1) | ((with_reducible refine gate_builtin (b := .copy) (xs := #[.tmp 25,.tmp 28]) rfl ?_);refine wp_copy2 rfl (.tmp 25) (.tmp 28) rfl (some ⟨w2.heap.size,0,none⟩) A1 (n + 1) (n + 1) k c1 rfl rfl w2.heap.size 0 cur (flat63 (old.take k)) G.out ?c1 ?c2 ?c3 (flat63_one _) ?_;(case c1 => rw [flat63_len,List.length_take];have := HN.out;have := HKN.out;show 2 * min k old.length = min k (n + 1) * 2;omega);(case c2 => intro h0;exact ⟨rfl,take_reads HC1.out h0⟩);(case c3 => rw [flat63_len,List.length_take,HCUR.out];have := HN.out;have := HKN.out;omega);intro w3 v3 g3 k3 b3;rw [cp1_row HCUR.out (by have := HN.out;have := HKN.out;omega)] at g3;have hb := b3 w2.heap.size w2 (Nat.le_refl _) (bO _);clear D HC1 G a0 a1 k3 b3;have D := aS (D2.out.step hb);have HC1 := aS (c_B HC2.out hb);have G := aS g3;have HB3 := aS hb;clear g3 hb;obtain ⟨a0,a1⟩ := cells_2 D.out.h1;have n0 := blk_cell D.out.h2 0;have q1 : ((k : Int) < ((n + 1 : Nat) : Int)) = True := eq_true (by have := HKN.out;omega);have q2 : ((k : Int) < (n : Int) + 1) = True := eq_true (by have := HKN.out;omega);have q0 : (0 ≤ (k : Int)) = True := eq_true (by omega);obtain ⟨u0,u1,x0,x1,y0,y1⟩ := two_cells HCUR.out HKN.out HN.out G.out))
  obtain ⟨i1,hi1,_,hsz1,_⟩ := info_parts info63
  have hcg := cut_from (P := prog) 40 63 .i64 underlying40 hi1 2 hsz1 (some ⟨w2.heap.size,0,none⟩) (n + 1) (n + 1) ((k : Int) + 1) (by omega) (by have := HKN.out;omega)
  rw [show ((k : Int) + 1).toNat = k + 1 by omega] at hcg
  obtain ⟨dp2,hdp⟩ : ∃ dp2,dp2 = (if n + 1 = k + 1 then (some ⟨w2.heap.size,0,none⟩ : Option Addr) else (some ⟨w2.heap.size,0,none⟩ : Option Addr).map (·.add ((k + 1) * 2))) := ⟨_,rfl⟩
  obtain ⟨dl,hdl⟩ : ∃ dl,dl = n + 1 - (k + 1) := ⟨_,rfl⟩
  rw [← hdp,← hdl] at hcg
  obtain ⟨sp2,hsp⟩ : ∃ sp2,sp2 = (if c1 = k then A1 else A1.map (·.add (k * 2))) := ⟨_,rfl⟩
  rw [← hsp] at hcf
  have HDL := aS hdl
  have HCUR2 : Aside0 (cur.length = 2 * (old.length + 1)) := ⟨by rw [HN.out];exact HCUR.out⟩
  have G2 := aS (two_put (k := k) G.out (.int .i64 no) (.string t))
  have HBc := aS ((HB3.out.setCell (p := ⟨w2.heap.size,k * 2,none⟩) (Nat.le_refl _) (.int .i64 no)).setCell (p := ⟨w2.heap.size,k * 2 + 1,none⟩) (Nat.le_refl _) (.string t))
  have HD2 : Aside0 (0 < (flat63 (old.drop k)).length → dp2 = some ⟨w2.heap.size,2 * k + 2,none⟩ ∧ ∃ ad,sp2 = some ad ∧ ∀ j v,(flat63 (old.drop k))[j]? = some v → ((w3.setCell ⟨w2.heap.size,k * 2,none⟩ (.int .i64 no)).setCell ⟨w2.heap.size,k * 2 + 1,none⟩ (.string t)).cell? (ad.add j) = some v) := ⟨fun h0 => ⟨by have h1 := h0;rw [flat63_len,List.length_drop,HN.out] at h1;rw [hdp,if_neg (by omega)];show some (Addr.add ⟨w2.heap.size,0,none⟩ ((k + 1) * 2)) = _;rw [show (⟨w2.heap.size,0,none⟩ : Addr).add ((k + 1) * 2) = ⟨w2.heap.size,0 + (k + 1) * 2,none⟩ by unfold Addr.add;split <;> simp_all,show 0 + (k + 1) * 2 = 2 * k + 2 by omega],by rw [hsp];exact drop_reads (c_B HC2.out HBc.out) (by have := HN.out;have := HKN.out;omega) (by rw [HN.out];exact HCL1.out) h0⟩⟩
  have e9 : wrap64 ((k : Int) + 1) = (k : Int) + 1 := by have := HOL.out;have := HKN.out;unfold wrap64;omega
  have e8 : IntKind.i64.wrap ((k : Int) + 1) = (k : Int) + 1 := i64_small _ (by omega) (by have := HOL.out;have := HKN.out;omega)
  clear hdp hdl hsp
  go_region_law (refine step_copy2 rfl (.tmp 39) (.tmp 42) rfl dp2 sp2 dl dl (n - k) (c1 - k) (by simp [Act.eval,Act.put]) (by simp [Act.eval,Act.put]) w2.heap.size (2 * k + 2) ((((flat63 (old.take k) ++ cur.drop (2 * k)).set (2 * k) (.int .i64 no)).set (2 * k + 1) (.string t))) (flat63 (old.drop k)) G2.out ?d1 ?d2 ?d3 (flat63_one _) ?_;(case d1 => rw [flat63_len,List.length_drop];have := HN.out;have := HKN.out;have := HDL.out;show 2 * (old.length - k) = min (n - k) dl * 2;omega);(case d2 => intro h0;exact HD2.out h0);(case d3 => have := HN.out;have := HKN.out;have := HCUR.out;simp only [List.length_set,List.length_append,flat63_len,List.length_take,List.length_drop];omega);intro w4 v4 g4 k4 b4;rw [row_done HCUR2.out (by have := HN.out;have := HKN.out;omega),← HW.out] at g4;have hb := b4 w2.heap.size w2 (Nat.le_refl _) (below_drew1 HBc.out);clear D HC1 G a0 a1 n0 k4 b4 u0 u1 x0 x1 y0 y1;have D := aS (D2.out.step hb);have G := aS g4;clear g4 hb;obtain ⟨a0,a1⟩ := cells_2 D.out.h1;obtain ⟨c0,c1f⟩ := cells_2 D.out.h3;obtain ⟨f0,f1⟩ := froz_2 D.out.h3)
  all_goals go_wp2
  all_goals refine bodyPost_ret (results_cell_row rfl _ _ (w.heap.size + 1 + 1) 42 _ (0,0) _ rfl (blk_put (blk_put D.out.h3 0 _ rfl) 1 _ rfl) hu42 rfl (by kernel_rfl)) rfl ?_
  all_goals exact ⟨⟨w2.heap.size,by rw [HWL.out];rfl,D2.out.below.size,far _ _ (far _ _ G.out (ne_of_blk D2.out)) (ne_of_blk D2.out)⟩,(D.out.below.setCell (p := ⟨w.heap.size + 1 + 1,0,none⟩) (by show w.heap.size ≤ w.heap.size + 1 + 1;omega) _).setCell (p := ⟨w.heap.size + 1 + 1,1,none⟩) (by show w.heap.size ≤ w.heap.size + 1 + 1;omega) _⟩
section
def waitsT (ops : Array Oper) (t i : Nat) : Bool := match ops[t]? with | some o => o.after.any fun e => Region.binds .any e && e.on == i | none => false
theorem waitsT_spec {ops : Array Oper} {t i : Nat} (h : waitsT ops t i = true) : ∃ o,ops[t]? = some o ∧ ∃ e ∈ o.after,Region.binds .any e = true ∧ e.on = i := by
 unfold waitsT at h
 split at h
 ·rename_i o ho
  obtain ⟨e,he,hb⟩ := Array.any_eq_true'.1 h
  simp only [Bool.and_eq_true,beq_iff_eq] at hb
  exact ⟨o,ho,e,he,hb⟩
 ·cases h
def growB (ops : Array Oper) (k : Nat) (ds : List Tmp) (n : Nat) : Bool :=
 (decide (k < ops.size) && decide (ds.Nodup ∧ ds.length = k)) && ((ds.all fun d => decide (d < n)) &&
 (((List.range k).all fun i => match ops[i]? with | some o => (o.guard.isNone && (o.dst == ds[i]?)) && o.after.all fun e => !(Region.binds .any e) || decide (e.on < i) | none => false) &&
 (((List.range k).all fun i => (List.range (k + 1)).any fun j => decide (i < j) && waitsT ops j i) && ((List.range ops.size).all fun t => decide (t ≤ k) || waitsT ops t (t - 1)))))
section
variable {P : Program} {ops : Array Oper} {Q : Exit → Act → World → Prop}
theorem region_auto {id : Nat} {a0 : Act} {w : World} (hm : P.follows .mixedOrders = true) (k : Nat) (ds : List Tmp) (hB : growB ops k ds a0.tmps.size = true) (post : Nat → Value → World → Prop) (R : Nat → Nat → Value → Value → Prop)
  (hsym : ∀ i j u v,R i j u v → R j i v u) (hst : ∀ i u w w',post i u w → Below w.heap.size w w' → post i u w')
  (hgrow : ∀ i o,i < k → ops[i]? = some o → ∀ (a : Act) (w1 : World),Below w.heap.size w w1 → Fr k (fun i => ds.getD i 0) a0 a → (∀ e ∈ o.after,Region.binds .any e = true → post e.on (a.eval (.tmp (ds.getD e.on 0))) w1) → ∀ K' : Act → World → Prop,(∀ u w',Below w1.heap.size w1 w' → post i u w' → (∀ j v,j < k → j ≠ i → post j v w1 → R i j u v) → K' (a.put (some (ds.getD i 0)) u) w') → o.wp P a w1 K' Q)
  (htail : ∀ a w' fuel,ops.size - k ≤ fuel → Below w.heap.size w w' → putL a0 ((List.range k).map fun i => (ds.getD i 0,a.eval (.tmp (ds.getD i 0)))) = a → (∀ i,i < k → post i (a.eval (.tmp (ds.getD i 0))) w') → (∀ i j,i < k → j < k → j ≠ i → R i j (a.eval (.tmp (ds.getD i 0))) (a.eval (.tmp (ds.getD j 0)))) → wpAny P .any ops Q fuel (Array.replicate k true ++ Array.replicate (ops.size - k) false) a w') :
  (Code.region id ops true).wp P Q a0 w := by
 unfold growB at hB
 simp only [Bool.and_eq_true,decide_eq_true_eq,List.all_eq_true,List.mem_range,Bool.or_eq_true,List.any_eq_true] at hB
 obtain ⟨⟨hk,hnd,hlen⟩,hsz,hlow,hsink,hchain⟩ := hB
 have hget : ∀ i,i < k → ds[i]? = some (ds.getD i 0) := fun i hi => by rw [List.getD_eq_getElem?_getD,List.getElem?_eq_getElem (by omega)];rfl
 refine region_grow hm k (fun i => ds.getD i 0) post R hk hsym hst ?_ hgrow ?_ ?_ ?_ htail
 ·intro i o hi ho
  have h := hlow i hi
  rw [ho] at h
  simp only [Bool.and_eq_true,Array.all_eq_true_iff_forall_mem,Bool.or_eq_true,Bool.not_eq_true',decide_eq_true_eq,Option.isNone_iff_eq_none,beq_iff_eq] at h
  exact ⟨h.1.1,h.1.2.trans (hget i hi),fun e he hb => (h.2 e he).resolve_left (by rw [hb];simp)⟩
 ·intro i j hi hj e
  exact (List.getElem?_inj (by omega) hnd).1 ((hget i hi).trans ((congrArg some e).trans (hget j hj).symm))
 ·intro i hi
  exact hsz _ (List.mem_of_getElem? (hget i hi))
 ·intro listed hc i hki hi hl
  have hik : i = k := by
   by_cases c : i ≤ k
   ·omega
   ·obtain ⟨_,o,ho,hall⟩ := mem_ready.1 hi
    have his := (Array.getElem?_eq_some_iff.1 ho).1
    rcases hchain i his with h | h
    ·omega
    ·obtain ⟨o',ho',e,he,hb,hon⟩ := waitsT_spec h
     rw [ho] at ho';cases ho'
     have := hall e he hb
     rw [hon,hl (i - 1) (by omega)] at this
     cases this
  subst hik
  obtain ⟨_,o,ho,hall⟩ := mem_ready.1 hi
  have key : ∀ d j,i - j ≤ d → j < i → listed.getD j false = true := by
   intro d
   induction d with
   | zero => intro j h1 h2;omega
   | succ d ih =>
    intro j h1 h2
    obtain ⟨t,ht,h3,h4⟩ := hsink j h2
    obtain ⟨o',ho',e,he,hb,hon⟩ := waitsT_spec h4
    by_cases c : t = i
    ·subst c
     rw [ho] at ho';cases ho'
     rw [← hon]
     exact hall e he hb
    ·rw [← hon]
     exact hc t o' (by omega) ho' (ih t (by omega) (by omega)) e he hb
  exact fun j hj => key _ j (Nat.le_refl _) hj
end
end
theorem drop225 {l : List S225} {i : Nat} (h : i < l.length) : l.drop i = rd_T225 l i :: l.drop (i + 1) := by
 rw [List.drop_eq_getElem_cons h]
 simp [rd_T225,List.getD_eq_getElem?_getD,List.getElem?_eq_getElem h]
theorem at225 {A : Option Addr} {l : List S225} {w wr : World} (HR : Kd.C k225 w A l.length l) (HB : Below w.heap.size w wr) (i : Nat) (h : i < l.length) : ∃ ad,A = some ad ∧ wr.cell? (ad.add (i * 2)) = some (.int .i64 (rd_T225 l (i : Int)).f0)
  ∧ wr.cell? ⟨(ad.add (i * 2)).block,(ad.add (i * 2)).off + 1,none⟩ = some (.string (rd_T225 l (i : Int)).f1) := by
 obtain ⟨ad,rfl,h0,h1⟩ := at_T225 HR i (by omega) (by omega)
 simp only [Int.toNat_natCast] at h0 h1
 have up : ∀ {a : Addr} {v : Value},w.cell? a = some v → wr.cell? a = some v := fun hx => (HB.cell (World.block_lt_of_cell? w _ hx)).trans hx
 exact ⟨ad,rfl,up h0,up h1⟩
set_option maxHeartbeats 1000000 in
theorem groatref10_has.at (A : Option Addr) (c : Nat) (l : List S225) (t : Int) (w : World) (hl : l.length ≤ 4611686018427387904) (hr : Kd.C k225 w A l.length l) (hc : l.length ≤ c) :
  Calls prog 158 #[.slice A l.length c,.int .i64 l.length,.int .i64 t] w fun e w' => e = .returned (.bool (decide (t ∈ l.map S225.f0))) ∧ w' = w := by
 have hu225 := underlying225
 have HR := aS hr
 have HC := aS hc
 clear hr hc
 go_enter func158,ntmps158
 go_wp2
 go_loopg [7] l.length (fun g v7 w' => ∃ i : Nat,v7 = .int .i64 i ∧ i + g = l.length ∧ Aside0 (decide (t ∈ (l.drop i).map S225.f0) = decide (t ∈ l.map S225.f0)) ∧ w' = w)
 case atStart => exact ⟨0,rfl,Nat.zero_add _,⟨rfl⟩,rfl⟩
 case round =>
  obtain ⟨i,rfl,hi,HF,rfl⟩ := hrel
  by_cases h : i < l.length
  ·have c0 : decide ((i : Int) < l.length) = true := d_T (by omega)
   obtain ⟨ad,rfl,hx0,hx1⟩ := at225 HR.out (Below.refl _ _) i h
   have p : (0 ≤ (i : Int)) = True := eq_true (by omega)
   have q : ((i : Int) < l.length) = True := eq_true (by omega)
   have hf := HF.out
   rw [drop225 h,List.map_cons] at hf
   clear HF
   generalize rd_T225 l (i : Int) = x at *
   by_cases e : x.f0 = t
   ·have e0 : (x.f0 == t) = true := beq_iff_eq.mpr e
    have HF : Aside0 (true = decide (t ∈ l.map S225.f0)) := ⟨by rw [← hf,e];simp⟩
    clear hf e
    go_wp2
    go_ret
    exact ⟨by rw [← HF.out];rfl,rfl⟩
   ·have e0 : (x.f0 == t) = false := beq_eq_false_iff_ne.mpr e
    have HF : Aside0 (decide (t ∈ (l.drop (i + 1)).map S225.f0) = decide (t ∈ l.map S225.f0)) := ⟨by rw [← hf];simp [Ne.symm e]⟩
    clear hf e
    go_wp2
    obtain ⟨g,rfl⟩ : ∃ g,gk = g + 1 := ⟨gk - 1,by omega⟩
    go_roundg g
    case rel => exact ⟨i + 1,rfl,by omega,HF,rfl⟩
    case measure => omega
  ·have c0 : decide ((i : Int) < l.length) = false := d_F (by omega)
   have hf := HF.out
   rw [List.drop_of_length_le (by omega)] at hf
   clear HF
   have HF := aS hf
   clear hf
   go_wp2
   go_ret
   exact ⟨by rw [← HF.out];rfl,rfl⟩
theorem groatref08_Get.at' (s : ByteArray) (i : Int) (w : World) (hs : s.size ≤ 4611686018427387904) : Calls prog 156 #[.string s,.int .i64 i] w fun e w' => e = .returned (.tuple #[.int .i64 (getTag s i).1,.int .i64 (getTag s i).2.1,.int .i64 (getTag s i).2.2]) ∧ Below w.heap.size w w' :=
 (groatref08_Get.at s i w hs).mono fun e w' ⟨h,n,hn⟩ => ⟨h,by rw [hn];exact pw_below_drewN (Below.refl _ _) n⟩
theorem groatref09_Get.at' (s : ByteArray) (i : Int) (w : World) (hs : s.size ≤ 4611686018427387904) : Calls prog 157 #[.string s,.int .i64 i] w fun e w' => e = .returned (.tuple #[.int .i64 (getLen s i).1,.int .i64 (getLen s i).2.1,.int .i64 (getLen s i).2.2]) ∧ Below w.heap.size w w' :=
 (groatref09_Get.at s i w hs).mono fun e w' ⟨h,n,hn⟩ => ⟨h,by rw [hn];exact pw_below_drewN (Below.refl _ _) n⟩
set_option maxHeartbeats 4000000 in
theorem groatref10_Get.at (s : ByteArray) (w : World) (hs : s.size ≤ 1000000) :
  Calls prog 119 #[.string s] w fun e w' => (∃ v0 : Value,e = .returned (.tuple #[v0,.int .i64 (pg s (s.size + 1) 0 []).2.1,.int .i64 (pg s (s.size + 1) 0 []).2.2])) ∧ Below w.heap.size w w' := by
 have hu225 := underlying225
 have hs0 : s.size ≤ 4611686018427387904 := by omega
 go_enter func119,ntmps119
 go_wp2_with (first | ((with_reducible refine gate_dst (N := 12) rfl ?_);refine Kd.R_lit k225 _ 225 ?hg (N := 12) ?hd (xs := ([] : List (S225))) (inner := []) (ok := fun _ => True) (okp := fun _ => True) ?hr ?hp (fun _ hk => hk) trivial (Below.refl _ _) (Nat.le_refl _) (by simp) ?_;(case hd => rfl);(case hg => rfl);(case hr => first | (go_simp;done) | (go_simp;rfl));(case hp => exact (Reps.none _ _));intro v599 w2 ho3 hb hg_ hnew_;clear hg_ hnew_;have HO := aS (show Kd.R k225 225 w2 w.heap.size (fun _ => True) v599 [] from ho3);have HB := aS (show Below w.heap.size w w2 from hb);clear hb ho3))
 go_loopg [5,6] (s.size + 1) (fun g v5 v6 w' => ∃ (xs : List S225) (i : Nat),v6 = .int .i64 i ∧ i ≤ s.size ∧ s.size - i < g ∧ xs.length + g ≤ s.size + 1 ∧ Aside0 (pg s g i xs = pg s (s.size + 1) 0 []) ∧ Aside0 (Kd.R k225 225 w' w.heap.size (fun _ => True) v5 xs) ∧ Aside0 (Below w.heap.size w w'))
 case atStart => exact ⟨[],0,rfl,Nat.zero_le _,by omega,by simp,⟨rfl⟩,HO,HB⟩
 case round =>
  clear HO HB
  obtain ⟨xs,i,rfl,hi,hg0,hg1,HF,HO,HB⟩ := hrel
  obtain ⟨A5,c5,rfl⟩ := Kd.R_slice HO.out
  obtain ⟨g,rfl⟩ : ∃ g,gk = g + 1 := ⟨gk - 1,by omega⟩
  have hf := HF.out
  rw [pg] at hf
  clear HF
  have HR := aS hf
  clear hf
  by_cases h : i < s.size
  ·have c0 : decide ((i : Int) < s.size) = true := d_T (by omega)
   have hf := HR.out
   rw [if_pos (by omega)] at hf
   clear HR
   have HT := aS (fun h => @tag_ok s i h)
   generalize hT : getTag s i = T at *
   by_cases h1 : T.2.2 = 0
   ·rw [if_pos h1] at hf
    have e1 : (T.2.2 != 0) = false := bne_eq_false_iff_eq.mpr h1
    obtain ⟨t1,t2,t3⟩ := HT.out h1
    have HL := aS (fun h => @len_ok s T.2.1 h)
    generalize hL : getLen s T.2.1 = L at *
    by_cases h2 : L.2.2 = 0
    ·rw [if_pos h2] at hf
     have e2 : (L.2.2 != 0) = false := bne_eq_false_iff_eq.mpr h2
     obtain ⟨l1,l2,l3,l4⟩ := HL.out h2
     have HY : Aside0 (xs.length < 5864062014805) := ⟨by omega⟩
     by_cases h3 : (s.size : Int) - L.2.1 < L.1
     ·have e3 : decide ((s.size : Int) - L.2.1 < L.1) = true := d_T h3
      rw [if_pos h3] at hf
      have HR := aS hf
      clear hf
      go_wp2_with (first | (go_at_call 156;refine (groatref08_Get.at' _ _ _ hs0).mono ?_;rintro e w1 ⟨rfl,hb1⟩;rw [hT];have n0_ := aS (b_s HB.out hb1);have n1_ := aS (Kd.R_below HO.out hb1);clear hb1;clear HB HO;have HB := n0_;have HO := n1_;clear n0_ n1_) | (go_at_call 157;refine (groatref09_Get.at' _ _ _ hs0).mono ?_;rintro e w1 ⟨rfl,hb1⟩;rw [hL];have n0_ := aS (b_s HB.out hb1);have n1_ := aS (Kd.R_below HO.out hb1);clear hb1;clear HB HO;have HB := n0_;have HO := n1_;clear n0_ n1_))
      go_ret3
      exact ⟨⟨_,by rw [← HR.out];rfl⟩,HB.out⟩
     ·have e3 : decide ((s.size : Int) - L.2.1 < L.1) = false := d_F h3
      rw [if_neg h3] at hf
      by_cases h4 : T.1 ∈ xs.map S225.f0
      ·rw [if_pos h4] at hf
       have HR := aS hf
       have H4 := aS (d_T h4)
       clear hf h4
       go_wp2_with (first | (go_at_call 156;refine (groatref08_Get.at' _ _ _ hs0).mono ?_;rintro e w1 ⟨rfl,hb1⟩;rw [hT];have n0_ := aS (b_s HB.out hb1);have n1_ := aS (Kd.R_below HO.out hb1);clear hb1;clear HB HO;have HB := n0_;have HO := n1_;clear n0_ n1_) | (go_at_call 157;refine (groatref09_Get.at' _ _ _ hs0).mono ?_;rintro e w1 ⟨rfl,hb1⟩;rw [hL];have n0_ := aS (b_s HB.out hb1);have n1_ := aS (Kd.R_below HO.out hb1);clear hb1;clear HB HO;have HB := n0_;have HO := n1_;clear n0_ n1_) | (go_at_call 158;obtain ⟨_,hc5,hC5⟩ := Kd.R_reads' HO.out;refine (groatref10_has.at A5 c5 xs T.1 _ (by have := HY.out;omega) hC5 hc5).mono ?_;rintro e w1 ⟨rfl,rfl⟩;rw [H4.out];clear hc5 hC5))
       go_ret3
       exact ⟨⟨_,by rw [← HR.out];rfl⟩,HB.out⟩
      ·rw [if_neg h4] at hf
       have HR := aS hf
       have H4 := aS (d_F h4)
       clear hf h4
       have p1 : (0 ≤ L.2.1) = True := eq_true (by omega)
       have p2 : (L.2.1 ≤ L.2.1 + L.1) = True := eq_true (by omega)
       have p3 : (L.2.1 + L.1 ≤ (s.size : Int)) = True := eq_true (by omega)
       go_wp2_with (first | (go_at_call 156;refine (groatref08_Get.at' _ _ _ hs0).mono ?_;rintro e w1 ⟨rfl,hb1⟩;rw [hT];have n0_ := aS (b_s HB.out hb1);have n1_ := aS (Kd.R_below HO.out hb1);clear hb1;clear HB HO;have HB := n0_;have HO := n1_;clear n0_ n1_) | (go_at_call 157;refine (groatref09_Get.at' _ _ _ hs0).mono ?_;rintro e w1 ⟨rfl,hb1⟩;rw [hL];have n0_ := aS (b_s HB.out hb1);have n1_ := aS (Kd.R_below HO.out hb1);clear hb1;clear HB HO;have HB := n0_;have HO := n1_;clear n0_ n1_) | (go_at_call 158;obtain ⟨_,hc5,hC5⟩ := Kd.R_reads' HO.out;refine (groatref10_has.at A5 c5 xs T.1 _ (by have := HY.out;omega) hC5 hc5).mono ?_;rintro e w1 ⟨rfl,rfl⟩;rw [H4.out];clear hc5 hC5) | ((with_reducible refine gate_builtin (b := .append) (xs := #[.tmp 53,.tmp 62]) rfl ?_);at_builtin;refine Kd.R_append k225 (w0 := w) w.heap.size rfl (.tmp 53) (.tmp 62) 191 225 (.agg #[(.int .i64 0),(.string ⟨#[]⟩)]) 24 rfl underlying191 info225 rfl (by decide) (by omega) _ xs (⟨T.1,s.extract L.2.1.toNat (L.2.1 + L.1).toNat⟩ : S225) [.int .i64 T.1,.string (s.extract L.2.1.toNat (L.2.1 + L.1).toNat)] (fun _ => True) (fun _ => False) rfl rfl ?aP (fun _ hk => hk.elim) ?aF ?aO ?aB ?aS ?aL ?_;(case aP => exact k225_mkM _ _ _ (⟨T.1,s.extract L.2.1.toNat (L.2.1 + L.1).toNat⟩ : S225));(case aB => exact (by repeat (first | exact HB.out | apply b_l)));(case aF => exact (fun _ _ => trivial));(case aO => exact (by (with_reducible repeat (first | apply Kd.R_alloc | apply Kd.R_drewN | apply Kd.R_drew));exact HO.out));(case aS => exact (below_size (by repeat (first | exact HB.out | apply b_l))));(case aL => have := HY.out;omega);intro v130 w13 ho hb hgr hat;have n0_ := aS (hb);have n1_ := aS (ho);clear HB HO;have HB := n0_;have HO2 := n1_;clear n0_ n1_;clear ho hb hgr hat))
       go_roundg g
       case measure => omega
       case rel =>
        refine ⟨xs ++ [⟨T.1,s.extract L.2.1.toNat (L.2.1 + L.1).toNat⟩],(L.2.1 + L.1).toNat,?_,by omega,by omega,by rw [List.length_append,List.length_singleton];omega,⟨?_⟩,HO2,HB⟩
        ·rw [Int.toNat_of_nonneg (by omega)]
        ·rw [Int.toNat_of_nonneg (by omega)]
         exact HR.out
    ·rw [if_neg h2] at hf
     have e2 : (L.2.2 != 0) = true := bne_iff_ne.mpr h2
     have HR := aS hf
     clear hf
     go_wp2_with (first | (go_at_call 156;refine (groatref08_Get.at' _ _ _ hs0).mono ?_;rintro e w1 ⟨rfl,hb1⟩;rw [hT];have n0_ := aS (b_s HB.out hb1);have n1_ := aS (Kd.R_below HO.out hb1);clear hb1;clear HB HO;have HB := n0_;have HO := n1_;clear n0_ n1_) | (go_at_call 157;refine (groatref09_Get.at' _ _ _ hs0).mono ?_;rintro e w1 ⟨rfl,hb1⟩;rw [hL];have n0_ := aS (b_s HB.out hb1);have n1_ := aS (Kd.R_below HO.out hb1);clear hb1;clear HB HO;have HB := n0_;have HO := n1_;clear n0_ n1_))
     go_ret3
     exact ⟨⟨_,by rw [← HR.out];rfl⟩,HB.out⟩
   ·have e1 : (T.2.2 != 0) = true := bne_iff_ne.mpr h1
    rw [if_neg h1] at hf
    have HR := aS hf
    clear hf
    go_wp2_with (first | (go_at_call 156;refine (groatref08_Get.at' _ _ _ hs0).mono ?_;rintro e w1 ⟨rfl,hb1⟩;rw [hT];have n0_ := aS (b_s HB.out hb1);have n1_ := aS (Kd.R_below HO.out hb1);clear hb1;clear HB HO;have HB := n0_;have HO := n1_;clear n0_ n1_))
    go_ret3
    exact ⟨⟨_,by rw [← HR.out];rfl⟩,HB.out⟩
  ·have c0 : decide ((i : Int) < s.size) = false := d_F (by omega)
   have hf := HR.out
   rw [if_neg (by omega)] at hf
   clear HR
   have HR := aS hf
   clear hf
   go_wp2
   go_ret3
   exact ⟨⟨_,by rw [← HR.out];rfl⟩,HB.out⟩
section
section
variable {P : Program} {md : Region.Mode} {ops : Array Oper} {Q : Exit → Act → World → Prop}
theorem getD_tf {listed : Array Bool} {i : Nat} (h : listed.getD i true = false) : ¬ listed.getD i false = true := by
 intro h'
 by_cases c : i < listed.size
 ·simp [c] at h h'
  rw [h] at h'
  cases h'
 ·simp [c] at h
theorem wpAny_mid (k : Nat) (L D : Nat → Bool) (kz : Nat) (hkz : k ≤ kz ∧ kz < ops.size ∧ L kz = false) (dst : Nat → Tmp) (post : Nat → Value → World → Prop) (R : Nat → Nat → Value → Value → Prop) (a0 : Act) (w0 : World)
  (hsym : ∀ i j u v,R i j u v → R j i v u) (hst : ∀ i u w w',post i u w → Below w.heap.size w w' → post i u w')
  (hlow : ∀ i o,i < k → ops[i]? = some o → o.guard = none ∧ o.dst = some (dst i) ∧ ∀ e ∈ o.after,Region.binds md e = true → e.on < i)
  (hgrow : ∀ i o,i < k → ops[i]? = some o → D i = false → ∀ (a : Act) (w : World),Below w0.heap.size w0 w → Fr k dst a0 a → (∀ e ∈ o.after,Region.binds md e = true → post e.on (a.eval (.tmp (dst e.on))) w) → ∀ K' : Act → World → Prop,(∀ u w',Below w.heap.size w w' → post i u w' → (∀ j v,j < k → j ≠ i → post j v w → R i j u v) → K' (a.put (some (dst i)) u) w') → o.wp P a w K' Q)
  (hinj : ∀ i j,i < k → j < k → dst i = dst j → i = j) (hsz : ∀ i,i < k → dst i < a0.tmps.size)
  (hmid : ∀ (listed : Array Bool) (a : Act) (w : World) (fuel i0 : Nat),listed.size = ops.size → (∀ j,k ≤ j → listed.getD j false = L j) → (∀ i o,i < k → ops[i]? = some o → listed.getD i false = true → ∀ e ∈ o.after,Region.binds md e = true → listed.getD e.on false = true) → listed.toList.count false ≤ fuel + 1 → Fr k dst a0 a → Below w0.heap.size w0 w → (∀ i,i < k → listed.getD i false = true → post i (a.eval (.tmp (dst i))) w) → (∀ i j,i < k → j < k → j ≠ i → listed.getD i false = true → listed.getD j false = true → R i j (a.eval (.tmp (dst i))) (a.eval (.tmp (dst j)))) → k ≤ i0 → i0 ∈ Region.ready md ops listed → ¬ (∀ j,j < k → listed.getD j false = true) → wpOp P ops Q i0 (wpAny P md ops Q fuel (listed.setIfInBounds i0 true)) a w)
  (htail : ∀ listed a w fuel,listed.size = ops.size → (∀ j,k ≤ j → listed.getD j false = L j) → (∀ j,j < k → listed.getD j false = true) → listed.toList.count false ≤ fuel → Fr k dst a0 a → Below w0.heap.size w0 w → (∀ i,i < k → post i (a.eval (.tmp (dst i))) w) → (∀ i j,i < k → j < k → j ≠ i → R i j (a.eval (.tmp (dst i))) (a.eval (.tmp (dst j)))) → wpAny P md ops Q fuel listed a w) :
  ∀ fuel listed a w,listed.size = ops.size → (∀ i,i < k → D i = true → listed.getD i false = true) → (∀ j,k ≤ j → listed.getD j false = L j) → (∀ i o,i < k → ops[i]? = some o → listed.getD i false = true → ∀ e ∈ o.after,Region.binds md e = true → listed.getD e.on false = true) →
   listed.toList.count false ≤ fuel → Fr k dst a0 a → Below w0.heap.size w0 w → (∀ i,i < k → listed.getD i false = true → post i (a.eval (.tmp (dst i))) w) → (∀ i j,i < k → j < k → j ≠ i → listed.getD i false = true → listed.getD j false = true → R i j (a.eval (.tmp (dst i))) (a.eval (.tmp (dst j)))) → wpAny P md ops Q fuel listed a w := by
 intro fuel
 induction fuel with
 | zero =>
  intro listed a w hs hD hl hc hn hf hb hp hrr
  have h1 := (hl kz hkz.1).trans hkz.2.2
  have hk := hkz.2.1
  have h2 : 0 < listed.toList.count false := List.count_pos_iff.2 (by
   have h3 : kz < listed.size := by omega
   have h4 : listed[kz] = false := by simpa [h3] using h1
   rw [← h4]
   exact Array.getElem_mem_toList h3)
  omega
 | succ fuel ih =>
  intro listed a w hs hD hl hc hn hf hb hp hrr
  by_cases hall : ∀ j,j < k → listed.getD j false = true
  ·exact htail listed a w (fuel + 1) hs hl hall hn hf hb (fun i hi => hp i hi (hall i hi)) (fun i j hi hj hij => hrr i j hi hj hij (hall i hi) (hall j hj))
  have hk : k ≤ ops.size := by omega
  refine ⟨fun h0 => ?_,fun i hi => ?_⟩
  ·exfalso
   have key : ∀ n j,j < n → j < k → listed.getD j false = true := by
    intro n
    induction n with
    | zero => intro j h;omega
    | succ n ihn =>
     intro j hj hjk
     by_cases hj' : j < n
     ·exact ihn j hj' hjk
     obtain rfl : j = n := by omega
     cases hv : listed.getD j false with
     | true => rfl
     | false =>
      exfalso
      have hjs : j < ops.size := by omega
      have ho : ops[j]? = some ops[j] := Array.getElem?_eq_getElem hjs
      have hm : j ∈ Region.ready md ops listed := mem_ready.2 ⟨by
       have : j < listed.size := by omega
       simpa [this] using hv,ops[j],ho,fun e he hbd => by
       have := (hlow j _ hjk ho).2.2 e he hbd
       exact ihn e.on this (by omega)⟩
      rw [h0] at hm
      cases hm
   exact hall (fun j hj => key k j hj hj)
  ·rcases (Decidable.em (i < k)).symm with hik | hik
   ·exact hmid listed a w fuel i hs hl hc hn hf hb hp hrr (by omega) hi hall
   obtain ⟨h0,o,ho,hpre⟩ := mem_ready.1 hi
   have his : i < listed.size := by rw [hs];exact (Array.getElem?_eq_some_iff.1 ho).1
   obtain ⟨hg,hd,hlo⟩ := hlow i o hik ho
   have hw : wpOp P ops Q i (wpAny P md ops Q fuel (listed.setIfInBounds i true)) a w := by
    unfold wpOp
    rw [ho]
    simp only [Region.wanted,hg,if_true]
    refine .inl (hgrow i o hik ho (by cases hv : D i with | false => rfl | true => exact absurd (hD i hik hv) (getD_tf h0)) a w hb hf (fun e he hbd => hp e.on (by have := hlo e he hbd;omega) (hpre e he hbd)) _ (fun u w' hbw hpo hR => ?_))
    have ev : ∀ j,j < k → i ≠ j → (a.put (some (dst i)) u).eval (.tmp (dst j)) = a.eval (.tmp (dst j)) := fun j hj hji => by
     have h1 : dst i ≠ dst j := fun h => hji (hinj i j hik hj h)
     simp [Act.put,Act.eval,Array.getElem?_setIfInBounds_ne h1]
    have ei : (a.put (some (dst i)) u).eval (.tmp (dst i)) = u := by
     have h1 : dst i < a.tmps.size := by rw [hf.1];exact hsz i hik
     simp [Act.put,Act.eval,h1]
    refine ih _ _ _ (by simpa using hs) (fun j hj hd => getD_set_true (hD j hj hd)) (fun j hj => ?_) (fun j oj hj hoj hjl e he hbd => ?_) (by have := count_set his h0;omega) ?_ (hb.trans ⟨hbw.os,hbw.tape,hbw.output,hbw.size,fun q hq => hbw.block q (Nat.lt_of_lt_of_le hq hb.size)⟩) (fun j hj hjl => ?_) (fun j j' hj hj' hjj hjl hjl' => ?_)
    ·rw [getD_set_ne false (by omega)];exact hl j hj
    ·by_cases hji : i = j
     ·subst hji
      rw [ho] at hoj
      cases hoj
      exact getD_set_true (hpre e he hbd)
     ·rw [getD_set_ne false hji] at hjl
      exact getD_set_true (hc j oj hj hoj hjl e he hbd)
    ·obtain ⟨f1,f2,f3⟩ := hf
     refine ⟨by simpa [Act.put] using f1,f2,fun t ht => ?_⟩
     show (a.tmps.setIfInBounds (dst i) u)[t]? = _
     rw [Array.getElem?_setIfInBounds_ne (fun h => ht i hik h.symm)]
     exact f3 t ht
    ·by_cases hji : i = j
     ·subst hji
      rw [ei]
      exact hpo
     ·rw [getD_set_ne false hji] at hjl
      rw [ev j hj hji]
      exact hst _ _ _ _ (hp j hj hjl) hbw
    ·by_cases hji : i = j
     ·subst hji
      rw [ei,ev j' hj' (fun h => hjj h.symm)]
      rw [getD_set_ne false (fun h => hjj h.symm)] at hjl'
      exact hR j' _ hj' hjj (hp j' hj' hjl')
     ·by_cases hji' : i = j'
      ·subst hji'
       rw [ei,ev j hj hji]
       rw [getD_set_ne false hji] at hjl
       exact hsym _ _ _ _ (hR j _ hj (fun h => hji h.symm) (hp j hj hjl))
      ·rw [ev j hj hji,ev j' hj' hji']
       rw [getD_set_ne false hji] at hjl
       rw [getD_set_ne false hji'] at hjl'
       exact hrr j j' hj hj' hjj hjl hjl'
   exact hw
theorem getD_ft {listed : Array Bool} {i : Nat} (hi : i < listed.size) (h : listed.getD i false = false) : listed.getD i true = false := by
 simpa [hi] using h
theorem ready_none {listed : Array Bool} (hall : ∀ j,j < ops.size → listed.getD j false = true) : Region.ready md ops listed = [] := by
 refine List.eq_nil_iff_forall_not_mem.2 fun i hi => ?_
 obtain ⟨h0,o,ho,_⟩ := mem_ready.1 hi
 exact getD_tf h0 (hall i (Array.getElem?_eq_some_iff.1 ho).1)
theorem wpAny_done {listed : Array Bool} {a : Act} {w : World} (hall : ∀ j,j < ops.size → listed.getD j false = true) (hq : Q .normal a w) : ∀ fuel,wpAny P md ops Q fuel listed a w
 | 0 => ⟨ready_none hall,hq⟩
 | n + 1 => ⟨fun _ => hq,fun i hi => by rw [ready_none hall] at hi;cases hi⟩
theorem wpAny_split (k : Nat) (dst : Nat → Tmp) (post post2 : Nat → Value → World → Prop) (R : Nat → Nat → Value → Value → Prop) (a0 : Act) (w0 : World) (hk : ops.size = k + 2) (o1 o2 : Oper) (ho1 : ops[k]? = some o1) (ho2 : ops[k + 1]? = some o2)
  (hsym : ∀ i j u v,R i j u v → R j i v u) (hst : ∀ i u w w',post i u w → Below w.heap.size w w' → post i u w') (hst2 : ∀ i u w w',post2 i u w → Below w.heap.size w w' → post2 i u w')
  (hlow : ∀ i o,i < k → ops[i]? = some o → o.guard = none ∧ o.dst = some (dst i) ∧ ∀ e ∈ o.after,Region.binds md e = true → e.on < i)
  (hgrow : ∀ i o,i < k → ops[i]? = some o → ∀ (a : Act) (w : World),Below w0.heap.size w0 w → Fr k dst a0 a → (∀ e ∈ o.after,Region.binds md e = true → post e.on (a.eval (.tmp (dst e.on))) w) → ∀ K' : Act → World → Prop,(∀ u w',Below w.heap.size w w' → post i u w' → (∀ j v,j < k → j ≠ i → post j v w → R i j u v) → K' (a.put (some (dst i)) u) w') → o.wp P a w K' Q)
  (D1 : Nat → Bool) (hD1 : ∀ i,i < k → D1 i = true → ∃ e ∈ o1.after,Region.binds md e = true ∧ e.on = i)
  (hgrow2 : ∀ i o,i < k → ops[i]? = some o → D1 i = false → ∀ (a : Act) (w : World),Below w0.heap.size w0 w → Fr k dst a0 a → (∀ e ∈ o.after,Region.binds md e = true → post2 e.on (a.eval (.tmp (dst e.on))) w) → ∀ K' : Act → World → Prop,(∀ u w',Below w.heap.size w w' → post2 i u w' → (∀ j v,j < k → j ≠ i → post2 j v w → R i j u v) → K' (a.put (some (dst i)) u) w') → o.wp P a w K' Q)
  (hinj : ∀ i j,i < k → j < k → dst i = dst j → i = j) (hsz : ∀ i,i < k → dst i < a0.tmps.size)
  (hg1 : o1.guard = none) (hg2 : o2.guard = none) (he1 : ∀ e ∈ o1.after,Region.binds md e = true → e.on < k) (he2 : ∀ e ∈ o2.after,Region.binds md e = true → e.on < k + 1)
  (hneed : ∃ e ∈ o2.after,Region.binds md e = true ∧ e.on = k) (hall2 : ∀ j,j < k → ∃ e ∈ o2.after,Region.binds md e = true ∧ e.on = j)
  (hs1 : ∀ (listed : Array Bool) (a : Act) (w : World),Below w0.heap.size w0 w → Fr k dst a0 a → (∀ e ∈ o1.after,Region.binds md e = true → listed.getD e.on false = true) → (∀ i,i < k → listed.getD i false = true → post i (a.eval (.tmp (dst i))) w) → (∀ i j,i < k → j < k → j ≠ i → listed.getD i false = true → listed.getD j false = true → R i j (a.eval (.tmp (dst i))) (a.eval (.tmp (dst j)))) → ∀ K' : Act → World → Prop,(∀ w',Below w0.heap.size w w' → (∀ i,i < k → listed.getD i false = true → post2 i (a.eval (.tmp (dst i))) w') → K' a w') → o1.wp P a w K' Q)
  (hs2 : ∀ (a : Act) (w : World),Below w0.heap.size w0 w → Fr k dst a0 a → (∀ i,i < k → post2 i (a.eval (.tmp (dst i))) w) → (∀ i j,i < k → j < k → j ≠ i → R i j (a.eval (.tmp (dst i))) (a.eval (.tmp (dst j)))) → o2.wp P a w (fun a w => Q .normal a w) Q) :
  ∀ fuel a w,ops.size ≤ fuel → Fr k dst a0 a → Below w0.heap.size w0 w → wpAny P md ops Q fuel (Array.replicate ops.size false) a w := by
 have hB : ∀ {w w' : World},Below w0.heap.size w0 w → Below w0.heap.size w w' → Below w0.heap.size w0 w' := fun h1 h2 => h1.trans h2
 have hrel : ∀ {l : Array Bool} {i : Nat},l.size = ops.size → i < ops.size → i ≠ k → (l.setIfInBounds k true).getD i false = l.getD i false := fun _ _ h => getD_set_ne false (by omega)
 -- the second stage
 have S2 : ∀ fuel listed a w,listed.size = ops.size → (∀ j,k ≤ j → listed.getD j false = decide (j = k)) → (∀ i o,i < k → ops[i]? = some o → listed.getD i false = true → ∀ e ∈ o.after,Region.binds md e = true → listed.getD e.on false = true) → (∀ e ∈ o1.after,Region.binds md e = true → listed.getD e.on false = true) →
   listed.toList.count false ≤ fuel → Fr k dst a0 a → Below w0.heap.size w0 w → (∀ i,i < k → listed.getD i false = true → post2 i (a.eval (.tmp (dst i))) w) → (∀ i j,i < k → j < k → j ≠ i → listed.getD i false = true → listed.getD j false = true → R i j (a.eval (.tmp (dst i))) (a.eval (.tmp (dst j)))) → wpAny P md ops Q fuel listed a w := by
  intro fuel listed a w hs hl hc h1 hn hf hb hp hr
  have hD : ∀ i,i < k → D1 i = true → listed.getD i false = true := fun i hi hd => by
   obtain ⟨e,he,hbd,hei⟩ := hD1 i hi hd
   rw [← hei]
   exact h1 e he hbd
  refine wpAny_mid k (fun j => decide (j = k)) D1 (k + 1) ⟨by omega,by omega,by simp⟩ dst post2 R a0 w0 hsym hst2 hlow hgrow2 hinj hsz ?_ ?_ fuel listed a w hs hD hl hc hn hf hb hp hr
  ·intro listed a w fuel i0 hs hl hc hn hf hb hp hr hi0 hi hna
   exfalso
   obtain ⟨h0,o,ho,hpre⟩ := mem_ready.1 hi
   have hio : i0 < ops.size := (Array.getElem?_eq_some_iff.1 ho).1
   rcases (show i0 = k ∨ i0 = k + 1 by omega) with h | h
   ·subst h
    exact getD_tf h0 ((hl _ (Nat.le_refl _)).trans (by simp))
   ·subst h
    rw [ho2] at ho
    cases ho
    refine hna (fun j hj => ?_)
    obtain ⟨e,he,hbd,hej⟩ := hall2 j hj
    rw [← hej]
    exact hpre e he hbd
  ·intro listed a w fuel hs hl hall hn hf hb hp hr
   have hk1 : listed.getD (k + 1) false = false := (hl _ (by omega)).trans (by simp)
   have hlk : listed.getD k false = true := (hl _ (Nat.le_refl _)).trans (by simp)
   have hmem : k + 1 ∈ Region.ready md ops listed := mem_ready.2 ⟨getD_ft (by omega) hk1,o2,ho2,fun e he hbd => by
    have := he2 e he hbd
    by_cases c : e.on < k
    ·exact hall _ c
    ·obtain h : e.on = k := by omega
     rw [h]
     exact hlk⟩
   cases fuel with
   | zero =>
    exfalso
    have h2 : 0 < listed.toList.count false := List.count_pos_iff.2 (by
     have h3 : k + 1 < listed.size := by omega
     have h4 : listed[k + 1] = false := by simpa [h3] using hk1
     rw [← h4]
     exact Array.getElem_mem_toList h3)
    omega
   | succ n =>
    refine ⟨fun h0 => ?_,fun i hi => ?_⟩
    ·rw [h0] at hmem
     cases hmem
    ·obtain ⟨h0,o,ho,hpre⟩ := mem_ready.1 hi
     have hio : i < ops.size := (Array.getElem?_eq_some_iff.1 ho).1
     have e : i = k + 1 := by
      rcases (show i < k ∨ i = k ∨ i = k + 1 by omega) with h | h | h
      ·exact absurd (hall _ h) (getD_tf h0)
      ·subst h
       exact absurd hlk (getD_tf h0)
      ·exact h
     subst e
     unfold wpOp
     rw [ho2]
     simp only [Region.wanted,hg2,if_true]
     refine .inl (Oper.wp_mono (fun a' w' hq => ?_) (hs2 a w hb hf hp hr))
     refine wpAny_done (fun j hj => ?_) hq n
     rcases (show j < k ∨ j = k ∨ j = k + 1 by omega) with h | h | h
     ·exact getD_set_true (hall _ h)
     ·subst h
      exact getD_set_true hlk
     ·subst h
      exact getD_set_self (by omega)
 have S1 : ∀ (listed : Array Bool) (a : Act) (w : World) (fuel i0 : Nat),listed.size = ops.size → (∀ j,k ≤ j → listed.getD j false = false) → (∀ i o,i < k → ops[i]? = some o → listed.getD i false = true → ∀ e ∈ o.after,Region.binds md e = true → listed.getD e.on false = true) → listed.toList.count false ≤ fuel + 1 → Fr k dst a0 a → Below w0.heap.size w0 w → (∀ i,i < k → listed.getD i false = true → post i (a.eval (.tmp (dst i))) w) → (∀ i j,i < k → j < k → j ≠ i → listed.getD i false = true → listed.getD j false = true → R i j (a.eval (.tmp (dst i))) (a.eval (.tmp (dst j)))) → k ≤ i0 → i0 ∈ Region.ready md ops listed → wpOp P ops Q i0 (wpAny P md ops Q fuel (listed.setIfInBounds i0 true)) a w := by
  intro listed a w fuel i0 hs hl hc hn hf hb hp hr hi0 hi
  obtain ⟨h0,o,ho,hpre⟩ := mem_ready.1 hi
  have hio : i0 < ops.size := (Array.getElem?_eq_some_iff.1 ho).1
  have e : i0 = k := by
   rcases (show i0 = k ∨ i0 = k + 1 by omega) with h | h
   ·exact h
   ·subst h
    rw [ho2] at ho
    cases ho
    obtain ⟨e,he,hbd,hek⟩ := hneed
    have := hpre e he hbd
    rw [hek,hl k (Nat.le_refl _)] at this
    cases this
  subst e
  rw [ho1] at ho
  cases ho
  unfold wpOp
  rw [ho1]
  simp only [Region.wanted,hg1,if_true]
  refine .inl (hs1 listed a w hb hf hpre hp hr _ (fun w' hbw hp2 => ?_))
  refine S2 _ _ _ _ (by simpa using hs) (fun j hj => ?_) (fun j oj hj hoj hjl e he hbd => ?_) (fun e he hbd => ?_) (by have := count_set (by omega) h0;omega) hf (hb.trans hbw) (fun j hj hjl => ?_) (fun j j' hj hj' hjj hjl hjl' => ?_)
  ·by_cases h : j = i0
   ·subst h
    rw [getD_set_self (by omega)]
    simp
   ·rw [getD_set_ne false (fun h' => h h'.symm),hl j hj]
    simp [h]
  ·rw [getD_set_ne false (by omega)] at hjl
   exact getD_set_true (hc j oj hj hoj hjl e he hbd)
  ·exact getD_set_true (hpre e he hbd)
  ·rw [getD_set_ne false (by omega)] at hjl
   exact hp2 j hj hjl
  ·rw [getD_set_ne false (by omega)] at hjl
   rw [getD_set_ne false (by omega)] at hjl'
   exact hr j j' hj hj' hjj hjl hjl'
 intro fuel a w hfl hf hb
 refine wpAny_mid k (fun _ => false) (fun _ => false) k ⟨Nat.le_refl _,by omega,rfl⟩ dst post R a0 w0 hsym hst hlow (fun i o hi ho _ => hgrow i o hi ho) hinj hsz (fun listed a w fuel i0 h1 h2 h3 h4 h5 h6 h7 h8 h9 h10 _ => S1 listed a w fuel i0 h1 h2 h3 h4 h5 h6 h7 h8 h9 h10) ?_ fuel _ a w (by simp) (fun _ _ h => by cases h) (fun j _ => ?_) (fun i o _ _ h => ?_) (by simpa using hfl) hf hb (fun i _ h => ?_) (fun i j _ _ _ h => ?_)
 ·intro listed a w fuel hs hl hall hn hf hb hp hr
  have hmem : k ∈ Region.ready md ops listed := mem_ready.2 ⟨getD_ft (by omega) (hl k (Nat.le_refl _)),o1,ho1,fun e he hbd => hall _ (he1 e he hbd)⟩
  cases fuel with
  | zero =>
   exfalso
   have h2 : 0 < listed.toList.count false := List.count_pos_iff.2 (by
    have h3 : k < listed.size := by omega
    have h4 : listed[k] = false := by simpa [h3] using hl k (Nat.le_refl _)
    rw [← h4]
    exact Array.getElem_mem_toList h3)
   omega
  | succ n =>
   refine ⟨fun h0 => ?_,fun i hi => ?_⟩
   ·rw [h0] at hmem
    cases hmem
   ·have hik : k ≤ i := by
     obtain ⟨h0,_⟩ := mem_ready.1 hi
     by_cases c : i < k
     ·exact absurd (hall _ c) (getD_tf h0)
     ·omega
    exact S1 listed a w n i hs hl (fun i' o' hi' ho' _ e he hbd => hall _ (by have := (hlow i' o' hi' ho').2.2 e he hbd;omega)) hn hf hb (fun i' hi' _ => hp i' hi') (fun i' j' hi' hj' hij _ _ => hr i' j' hi' hj' hij) hik hi
 ·simp only [Array.getD_eq_getD_getElem?,Array.getElem?_replicate];split <;> rfl
 all_goals
  exfalso
  have h' := h
  simp only [Array.getD_eq_getD_getElem?,Array.getElem?_replicate] at h'
  split at h' <;> exact absurd h' (by decide)
end
section
variable {P : Program} {ops : Array Oper} {Q : Exit → Act → World → Prop}
theorem region_split {id : Nat} {a0 : Act} {w0 : World} (hm : P.follows .mixedOrders = true) (h : ∀ w1,Below w0.heap.size w0 w1 → w1.heap.size = w0.heap.size → wpAny P .any ops Q ops.size (Array.replicate ops.size false) a0 w1) : (Code.region id ops true).wp P Q a0 w0 := by
 refine wp_region_any hm ?_
 exact h _ ⟨rfl,rfl,rfl,Nat.le_refl _,fun _ _ => rfl⟩ rfl
end
end
def dgv (c : Int) : Int := if 0 ≤ unhx c then unhx c else 0
theorem dgv_cases {c d : Int} {b : Bool} (h : (48 ≤ c ∧ c ≤ 57 ∧ d = c - 48 ∧ b = true) ∨ (65 ≤ c ∧ c ≤ 70 ∧ d = c - 55 ∧ b = true) ∨ (¬ (48 ≤ c ∧ c ≤ 57) ∧ ¬ (65 ≤ c ∧ c ≤ 70) ∧ d = 0 ∧ b = false)) : d = dgv c ∧ b = decide (0 ≤ unhx c) := by
 have hu : unhx c = if 48 ≤ c ∧ c ≤ 57 then c - 48 else if 65 ≤ c ∧ c ≤ 70 then c - 55 else -1 := rfl
 unfold dgv
 rcases h with ⟨h2,h3,rfl,rfl⟩ | ⟨h2,h3,rfl,rfl⟩ | ⟨h2,h3,rfl,rfl⟩
 ·rw [if_pos ⟨h2,h3⟩] at hu
  rw [hu,if_pos (by omega),d_T (by omega)]
  exact ⟨rfl,rfl⟩
 ·rw [if_neg (by omega),if_pos ⟨h2,h3⟩] at hu
  rw [hu,if_pos (by omega),d_T (by omega)]
  exact ⟨rfl,rfl⟩
 ·rw [if_neg h2,if_neg h3] at hu
  rw [hu,if_neg (by omega),d_F (by omega)]
  exact ⟨rfl,rfl⟩
theorem hexa_Digit.at (c : Int) (w : World) (h0 : 0 ≤ c) (h1 : c ≤ 255) : Calls prog 139 #[.int .u8 c] w fun e w' => e = .returned (.tuple #[.int .i64 (dgv c),.bool (decide (0 ≤ unhx c))]) ∧ w' = w := by
 have HG : Aside0 (∀ (d : Int) (b : Bool),((48 ≤ c ∧ c ≤ 57 ∧ d = c - 48 ∧ b = true) ∨ (65 ≤ c ∧ c ≤ 70 ∧ d = c - 55 ∧ b = true) ∨ (¬ (48 ≤ c ∧ c ≤ 57) ∧ ¬ (65 ≤ c ∧ c ≤ 70) ∧ d = 0 ∧ b = false)) → Ending.returned (.tuple #[.int .i64 d,.bool b]) = .returned (.tuple #[.int .i64 (dgv c),.bool (decide (0 ≤ unhx c))])) := ⟨fun d b h => by rw [(dgv_cases h).1,(dgv_cases h).2]⟩
 go_enter func139,ntmps139
 go_wp2
 all_goals go_ret2
 all_goals refine ⟨HG.out _ _ ?_,rfl⟩
 all_goals simp only [decide_eq_true_eq,decide_eq_false_iff_not] at *
 all_goals simp only [true_and,and_true,Bool.true_eq_false,Bool.false_eq_true]
 all_goals omega
def hexF (s : ByteArray) (j : Nat) : Int := 16 * unhx (bt s (2 * j : Nat)) + unhx (bt s (2 * j + 1 : Nat))
theorem or4 {h d : Int} (h0 : 0 ≤ h) (h1 : h < 16) (d0 : 0 ≤ d) (d1 : d < 16) : Go.bits .or .i64 (h * 16) d = 16 * h + d := by
 obtain ⟨m,rfl⟩ := Int.eq_ofNat_of_zero_le h0
 obtain ⟨n,rfl⟩ := Int.eq_ofNat_of_zero_le d0
 have key : ∀ a b : Fin 16,Go.bits .or .i64 (((a.val : Nat) : Int) * 16) ((b.val : Nat) : Int) = 16 * ((a.val : Nat) : Int) + ((b.val : Nat) : Int) := by decide +kernel
 exact key ⟨m,by omega⟩ ⟨n,by omega⟩
set_option maxHeartbeats 2000000 in
theorem hexa_Get.at (s : ByteArray) (w : World) (hs : s.size ≤ 1000000) :
  Calls prog 89 #[.string s] w fun e w' => (∃ p : Int,e = .returned (.tuple #[.string (hexG s).1,.int .i64 p,.bool (hexG s).2])) ∧ Below w.heap.size w w' := by
 have HS := aS hs
 have t2 : Int.tdiv (s.size : Int) 2 = (s.size : Int) / 2 := Int.tdiv_eq_ediv_of_nonneg (by omega)
 have t3 : Int.tmod (s.size : Int) 2 = (s.size : Int) % 2 := Int.tmod_eq_emod_of_nonneg (by omega)
 go_enter func89,ntmps89
 go_wp2_with (first | ((with_reducible refine gate_dst (N := 13) rfl ?_);refine make8 (Below.refl _ _) rfl (N := 13) rfl _ _ rfl (s.size / 2) rfl ?hy (by omega) ?_;(case hy => go_simp;first | done | omega | (unfold wrap64;omega));intro v1 w1 HO))
 have HO := aS HO
 go_loopg [5,6,7] s.size (fun g v5 v6 v7 w' => ∃ (h : Int) (i : Nat),v6 = .int .i64 h ∧ v7 = .int .i64 i ∧ i + g = s.size ∧ Aside0 ((i % 2 = 1 → h = unhx (bt s (i - 1 : Nat))) ∧ ∀ j,j < i → 0 ≤ unhx (bt s (j : Nat))) ∧ Aside0 (Own8 w w' v5 ((List.range (i / 2)).map (hexF s))))
 case atStart => exact ⟨0,0,rfl,rfl,by omega,⟨by omega,fun j hj => by omega⟩,HO⟩
 case round =>
  clear HO
  obtain ⟨h,i,rfl,rfl,hi,HF,HO⟩ := hrel
  by_cases hc : i < s.size
  ·obtain ⟨g,rfl⟩ : ∃ g,gk = g + 1 := ⟨gk - 1,by omega⟩
   have c1 : decide (i < s.size) = true := d_T hc
   have p : (0 ≤ (i : Int)) = True := eq_true (by omega)
   have q : ((i : Int) < s.size) = True := eq_true (by omega)
   have t4 : Int.tmod (i : Int) 2 = (i : Int) % 2 := Int.tmod_eq_emod_of_nonneg (by omega)
   have hr := UInt8.toNat_lt (s[i]'hc)
   have hbt := bt_get hc
   have HL := unhx_lt (bt s i)
   by_cases k1 : 0 ≤ unhx (bt s i)
   ·have HU : Aside0 (dgv (((s[i]'hc).toNat : Int)) = unhx (bt s i)) := ⟨by unfold dgv;rw [← hbt,if_pos k1]⟩
    have k2 : decide (0 ≤ unhx ((s[i]'hc).toNat : Int)) = true := d_T (hbt ▸ k1)
    have HF2 : Aside0 (∀ j,j < i + 1 → 0 ≤ unhx (bt s (j : Nat))) := ⟨fun j hj => by
     by_cases e : j = i
     ·subst e;exact k1
     ·exact HF.out.2 j (by omega)⟩
    by_cases k3 : i % 2 = 0
    ·have k4 : ((i : Int) % 2 == 0) = true := beq_iff_eq.mpr (by omega)
     clear k3 k1
     go_wp2_with (first | (go_at_call 139;refine (hexa_Digit.at _ _ (by omega) (by omega)).mono ?_;rintro e w2 ⟨rfl,hw⟩;obtain rfl := hw.symm;rw [HU.out]))
     go_roundg g
     case rel => exact ⟨_,i + 1,rfl,rfl,by omega,⟨fun _ => by rw [show i + 1 - 1 = i by omega,hbt],HF2.out⟩,by rw [show (i + 1) / 2 = i / 2 by have := of_decide_eq_true k4;omega];exact HO⟩
     case measure => omega
    ·have k4 : ((i : Int) % 2 == 0) = false := beq_eq_false_iff_ne.mpr (by omega)
     obtain rfl := HF.out.1 (by omega)
     have HL2 := unhx_lt (bt s (i - 1 : Nat))
     have k5 := HF.out.2 (i - 1) (by omega)
     have HV : Aside0 (Go.bits .or .i64 (unhx (bt s (i - 1 : Nat)) * 16) (unhx ((s[i]'hc).toNat : Int)) % 256 = hexF s (i / 2)) := ⟨by
      rw [← hbt,or4 k5 (by omega) k1 (by omega)]
      unfold hexF
      rw [show 2 * (i / 2) = i - 1 by omega,show i - 1 + 1 = i by omega]
      omega⟩
     go_wp2_with (first | (go_at_call 139;refine (hexa_Digit.at _ _ (by omega) (by omega)).mono ?_;rintro e w2 ⟨rfl,hw⟩;obtain rfl := hw.symm;rw [HU.out]) | ((with_reducible refine gate_builtin (b := .append) (xs := #[.tmp 27,.tmp 33]) rfl ?_);refine app8 HO.out rfl (.tmp 27) (.tmp 33) _ rfl rfl rfl (by have := HS.out;simp;omega) ?_;intro v2 w3 HO2;have HO3 := aS HO2;clear HO2))
     go_roundg g
     case rel => exact ⟨_,i + 1,rfl,rfl,by omega,⟨fun h => by omega,HF2.out⟩,by rw [show (i + 1) / 2 = i / 2 + 1 by omega,List.range_succ,List.map_append];have h9 := HO3.out;rw [HV.out] at h9;exact ⟨h9⟩⟩
     case measure => omega
   ·have k2 : decide (0 ≤ unhx ((s[i]'hc).toNat : Int)) = false := d_F (hbt ▸ k1)
    have HG : Aside0 (hexG s = (⟨#[]⟩,false)) := ⟨by unfold hexG;rw [if_neg fun h => k1 (h.1 i hc)]⟩
    go_wp2_with (first | (go_at_call 139;refine (hexa_Digit.at _ _ (by omega) (by omega)).mono ?_;rintro e w2 ⟨rfl,hw⟩;obtain rfl := hw.symm))
    go_ret3
    exact ⟨⟨_,by rw [HG.out];rfl⟩,HO.out.below⟩
  ·obtain rfl : i = s.size := by omega
   have c1 : decide (s.size < s.size) = false := d_F (by omega)
   by_cases k : s.size % 2 = 0
   ·have HG : Aside0 (hexG s = (strOfNums ((List.range (s.size / 2)).map (hexF s)),true)) := ⟨by unfold hexG;rw [if_pos ⟨HF.out.2,k⟩];rfl⟩
    have k2 : ((s.size : Int) % 2 != 0) = false := bne_eq_false_iff_eq.mpr (by omega)
    have hv := HO.out.str
    go_wp2
    go_ret3
    exact ⟨⟨_,by rw [HG.out];rfl⟩,HO.out.below⟩
   ·have HG : Aside0 (hexG s = (⟨#[]⟩,false)) := ⟨by unfold hexG;rw [if_neg fun h => k h.2]⟩
    have k2 : ((s.size : Int) % 2 != 0) = true := bne_iff_ne.mpr (by omega)
    go_wp2
    go_ret3
    exact ⟨⟨_,by rw [HG.out];rfl⟩,HO.out.below⟩
theorem app8s {ops : Array Oper} {o : Oper} {a : Act} {Q : Exit → Act → World → Prop} {K : Act → World → Prop} {w W : World} {v : Value} {xs ys : List Int} (H : Own8 w W v xs) (hgd : o.guard = none) (s x : Operand) (ho : o.op = .call { callee := .builtin .append,args := #[s,x],argTypes := #[101,101] })
  (hs : a.eval s = v) {g n : Nat} (hx : a.eval x = .slice (some ⟨g,0,none⟩) n n) (hn : ys.length = n) (hb : W.heap[g]? = some (.cells (ys.map (Value.int .u8)).toArray 5 (0,0))) (hl : xs.length + n ≤ 140737488355328)
  (h : ∀ v1 w1,Own8 w w1 v1 (xs ++ ys) → K (a.put o.dst v1) w1) : o.wp prog a W K Q := by
 have hw : Region.wanted o (yielded ops a.tmps) = true := by simp [Region.wanted,hgd]
 have := Kd.R_append_rows_step (P := prog) (Q := Q) (Kc := K) (Kd.int .u8) (Rr := (Kd.int .u8).K W) (w0 := w) w.heap.size hw s x 101 5 (.int .u8 0) 1 ho underlying101 info5 rfl (by decide) (by omega) v xs ys (some ⟨g,0,none⟩) n n (fun _ => True) (fun _ => False) hs hx H.row
  ⟨hn,by omega,fun _ => ⟨_,rfl,fun j p hj => ⟨[.int .u8 p],rfl,rfl,fun i u hu => by
   rcases i with _ | i
   ·simp at hu
    subst hu
    rw [show (Addr.add ⟨g,0,none⟩ (j * (Kd.int .u8).sz + 0)) = ⟨g,j,none⟩ by show Addr.add ⟨g,0,none⟩ (j * 1 + 0) = _;unfold Addr.add;split <;> simp_all,blk_cell hb j]
    simpa using hj
   ·simp at hu⟩⟩⟩ (fun _ _ h => h) (fun _ h => h.elim) (fun _ _ => trivial) H.below (below_size H.below) (by omega) (fun v1 w1 hr hb _ _ => h v1 w1 ⟨hr,hb⟩)
 rwa [if_pos hw] at this
theorem and15 {x : Int} (h0 : 0 ≤ x) (h1 : x ≤ 255) : Go.bits .and .u8 x 15 = x % 16 := by
 obtain ⟨n,rfl⟩ := Int.eq_ofNat_of_zero_le h0
 have : n < 256 := by omega
 revert this
 have key : ∀ m : Fin 256,Go.bits .and .u8 ((m.val : Nat) : Int) 15 = ((m.val : Nat) : Int) % 16 := by decide +kernel
 exact fun h => key ⟨n,h⟩
def dstH : List Tmp := [15,16,17,18,19,20,21,22,23,24,25,26]
def valH (s : ByteArray) (i : Nat) (v : Value) (c : Int) (j : Nat) : Value := [v,.string s,.int .i64 i,.int .u8 c,.int .u8 (c / 16),.int .u8 (hx (c / 16)),.string s,.int .i64 i,.int .u8 c,.int .u8 (c % 16),.int .u8 (hx (c % 16))].getD j undef
def postR (k : Nat) (vals : Nat → Value) (cells : List Value) (b : Nat) (i : Nat) (u : Value) (W : World) : Prop := (i < k → u = vals i) ∧ (i = k → ∃ g : Nat,u = .slice (some ⟨g,0,none⟩) cells.length cells.length ∧ W.heap[g]? = some (.cells cells.toArray 5 (0,0)) ∧ b ≤ g)
theorem postR_st {k : Nat} {vals : Nat → Value} {cells : List Value} {b i : Nat} {u : Value} {W W' : World} (h : postR k vals cells b i u W) (hb : Below W.heap.size W W') : postR k vals cells b i u W' :=
 ⟨h.1,fun e => by obtain ⟨g,h1,h2,h3⟩ := h.2 e;exact ⟨g,h1,k_B h2 hb,h3⟩⟩
theorem hx_at {d : Int} (h0 : 0 ≤ d) (h1 : d < 16) (h : d.toNat < (⟨#[48,49,50,51,52,53,54,55,56,57,65,66,67,68,69,70]⟩ : ByteArray).size) : (((⟨#[48,49,50,51,52,53,54,55,56,57,65,66,67,68,69,70]⟩ : ByteArray)[d.toNat]'h).toNat : Int) = hx d := by
 obtain ⟨n,rfl⟩ := Int.eq_ofNat_of_zero_le h0
 have key : ∀ m : Fin 16,(((⟨#[48,49,50,51,52,53,54,55,56,57,65,66,67,68,69,70]⟩ : ByteArray)[m.val]'(by have := m.isLt;exact this)).toNat : Int) = hx ((m.val : Nat) : Int) := by decide +kernel
 exact key ⟨n,by omega⟩
set_option maxHeartbeats 2000000 in
theorem hexa_Put.at (s : ByteArray) (w : World) (hs : s.size ≤ 1000000) :
  Calls prog 106 #[.string s] w fun e w' => e = .returned (.string (hexP s)) ∧ Below w.heap.size w w' := by
 have HS := aS hs
 have HP : Aside0 (hexP s = strOfNums ((List.range (2 * s.size)).map fun k => hx (nib s k))) := ⟨rfl⟩
 go_enter func106,ntmps106
 go_wp2_with (first | ((with_reducible refine gate_dst (N := 8) rfl ?_);refine make8 (Below.refl _ _) rfl (N := 8) rfl _ _ rfl (2 * s.size) rfl ?hy (by omega) ?_;(case hy => go_simp;first | done | omega | (unfold wrap64;omega));intro v1 w1 HO))
 have HO := aS HO
 go_loopg [3,4] s.size (fun g v3 v4 w' => ∃ (i : Nat),v4 = .int .i64 i ∧ i + g = s.size ∧ Aside0 (Own8 w w' v3 ((List.range (2 * i)).map fun k => hx (nib s k))))
 case atStart => exact ⟨0,rfl,by omega,HO⟩
 case round =>
  clear HO
  obtain ⟨i,rfl,hi,HO⟩ := hrel
  by_cases hc : i < s.size
  ·obtain ⟨g,rfl⟩ : ∃ g,gk = g + 1 := ⟨gk - 1,by omega⟩
   have c1 : decide (i < s.size) = true := d_T hc
   have p : (0 ≤ (i : Int)) = True := eq_true (by omega)
   have q : ((i : Int) < s.size) = True := eq_true (by omega)
   have hr := UInt8.toNat_lt (s[i]'hc)
   have hbt := bt_get hc
   have hc9 : Aside0 (∀ h,((s[i]'h).toNat : Int) = ((s[i]'hc).toNat : Int)) := ⟨fun _ => rfl⟩
   generalize ((s[i]'hc).toNat : Int) = c at hbt hc9
   have hr2 : 0 ≤ c ∧ c ≤ 255 := by have := bt_range s i;omega
   have p2 : (0 ≤ c / 16) = True := eq_true (by omega)
   have q2 : (c / 16 < 16) = True := eq_true (by omega)
   have p3 : (0 ≤ c % 16) = True := eq_true (by omega)
   have q3 : (c % 16 < 16) = True := eq_true (by omega)
   go_wp2
   refine region_auto (by kernel_rfl) 12 dstH (by kernel_rfl) (postR 11 (valH s i u3 c) [.int .u8 (hx (c / 16)),.int .u8 (hx (c % 16))] wr.heap.size) (fun _ _ _ _ => True) (fun _ _ _ _ _ => trivial) (fun _ _ _ _ h hb => postR_st h hb) ?rgrow ?rtail
   case rgrow =>
    intro j o hj ho a W hb hf hp K' hK
    have HK := aS hK
    have HSB := below_size hb
    clear hK hb
    have e0 : a.tmps[0]? = some (.string s) := (hf.2.2 0 (by decide)).trans rfl
    have e3 : a.tmps[3]? = some u3 := (hf.2.2 3 (by decide)).trans rfl
    have e4 : a.tmps[4]? = some (.int .i64 i) := (hf.2.2 4 (by decide)).trans rfl
    clear hf
    have HK2 : Aside0 (∀ u,u = valH s i u3 c j → j < 11 → K' (a.put (some (dstH.getD j 0)) u) W) := ⟨fun u h1 h2 => HK.out _ _ (Below.refl _ _) ⟨fun _ => h1,fun e => by omega⟩ (fun _ _ _ _ _ => trivial)⟩
    have D : ∀ m,m < 11 → (⟨m,.data⟩ : Edge) ∈ o.after → a.tmps[dstH.getD m 0]?.getD undef = valH s i u3 c m := fun m hm hin => by simpa only [Act.eval,Array.getD_eq_getD_getElem?] using (hp _ hin rfl).1 hm
    clear hp
    rcases (show j = 0 ∨ j = 1 ∨ j = 2 ∨ j = 3 ∨ j = 4 ∨ j = 5 ∨ j = 6 ∨ j = 7 ∨ j = 8 ∨ j = 9 ∨ j = 10 ∨ j = 11 by omega) with rfl | rfl | rfl | rfl | rfl | rfl | rfl | rfl | rfl | rfl | rfl | rfl <;> cases ho
    ·clear D HK;unfold Oper.wp;go_simp;exact HK2.out _ rfl (by decide)
    ·clear D HK;unfold Oper.wp;go_simp;exact HK2.out _ rfl (by decide)
    ·clear D HK;unfold Oper.wp;go_simp;exact HK2.out _ rfl (by decide)
    ·have d1 : a.tmps[16]?.getD undef = .string s := D 1 (by decide) (by simp)
     have d2 : a.tmps[17]?.getD undef = .int .i64 i := D 2 (by decide) (by simp)
     clear D HK;unfold Oper.wp;go_simp;rw [hc9.out];exact HK2.out _ rfl (by decide)
    ·have d3 : a.tmps[18]?.getD undef = .int .u8 c := D 3 (by decide) (by simp)
     clear D HK;unfold Oper.wp;go_simp;exact HK2.out _ rfl (by decide)
    ·have d4 : a.tmps[19]?.getD undef = .int .u8 (c / 16) := D 4 (by decide) (by simp)
     clear D HK;unfold Oper.wp;go_simp;rw [hx_at (of_eq_true p2) (of_eq_true q2)];exact HK2.out _ rfl (by decide)
    ·clear D HK;unfold Oper.wp;go_simp;exact HK2.out _ rfl (by decide)
    ·clear D HK;unfold Oper.wp;go_simp;exact HK2.out _ rfl (by decide)
    ·have d6 : a.tmps[21]?.getD undef = .string s := D 6 (by decide) (by simp)
     have d7 : a.tmps[22]?.getD undef = .int .i64 i := D 7 (by decide) (by simp)
     clear D HK;unfold Oper.wp;go_simp;rw [hc9.out];exact HK2.out _ rfl (by decide)
    ·have d8 : a.tmps[23]?.getD undef = .int .u8 c := D 8 (by decide) (by simp)
     clear D HK;unfold Oper.wp;go_simp;rw [and15 hr2.1 hr2.2];exact HK2.out _ rfl (by decide)
    ·have d9 : a.tmps[24]?.getD undef = .int .u8 (c % 16) := D 9 (by decide) (by simp)
     clear D HK;unfold Oper.wp;go_simp;rw [hx_at (of_eq_true p3) (of_eq_true q3)];exact HK2.out _ rfl (by decide)
    ·have d5 : a.tmps[20]?.getD undef = .int .u8 (hx (c / 16)) := D 5 (by decide) (by simp)
     have d10 : a.tmps[25]?.getD undef = .int .u8 (hx (c % 16)) := D 10 (by decide) (by simp)
     clear D;unfold Oper.wp;go_simp;exact HK.out _ _ (bO _) ⟨fun h => absurd h (by decide),fun _ => ⟨_,rfl,blk_new _ _,HSB⟩⟩ (fun _ _ _ _ _ => trivial)
   case rtail =>
    intro a W fuel hfl hb he hp _
    obtain ⟨g2,hg,hblk,_⟩ := (hp 11 (by decide)).2 rfl
    have e : ((List.range 12).map fun j => (dstH.getD j 0,a.eval (.tmp (dstH.getD j 0)))) = (List.range 12).map fun j => (dstH.getD j 0,if j = 11 then .slice (some ⟨g2,0,none⟩) 2 2 else valH s i u3 c j) := List.map_congr_left fun j hj => by
     have hj := List.mem_range.1 hj
     by_cases k : j = 11
     ·subst k;rw [hg];rfl
     ·rw [(hp j hj).1 (by omega),if_neg k]
    rw [e] at he
    clear e hp hg
    subst he
    show wpAny _ _ _ _ fuel _ (putL _ [(15,u3),(16,.string s),(17,.int .i64 i),(18,.int .u8 c),(19,.int .u8 (c / 16)),(20,.int .u8 (hx (c / 16))),(21,.string s),(22,.int .i64 i),(23,.int .u8 c),(24,.int .u8 (c % 16)),(25,.int .u8 (hx (c % 16))),(26,.slice (some ⟨g2,0,none⟩) 2 2)]) W
    simp only [putL,Act.put,sA,sB,sC]
    obtain ⟨f,rfl⟩ : ∃ f,fuel = f + 2 := ⟨fuel - 2,by have : (14 - 12 : Nat) ≤ fuel := hfl;omega⟩
    refine wpAny_one (i := 12) (by kernel_rfl) rfl rfl ?_
    refine app8s (ops := #[]) (HO.out.step hb) rfl (.tmp 15) (.tmp 26) rfl rfl rfl (ys := [hx (c / 16),hx (c % 16)]) rfl hblk (by have := HS.out;simp;omega) ?_
    intro v2 w2 HO2
    have HO3 := aS HO2
    clear HO2
    refine wpAny_one (i := 13) (by kernel_rfl) rfl rfl ?_
    unfold Oper.wp
    go_simp
    refine wpAny_none (by kernel_rfl) ?_ _
    go_wp2
    go_roundg g
    case rel => exact ⟨i + 1,rfl,by omega,by rw [show 2 * (i + 1) = 2 * i + 1 + 1 by omega,List.range_succ,List.range_succ,List.map_append,List.map_append,List.append_assoc];have h9 := HO3.out;rw [← hbt,← (nib_two s i).1,← (nib_two s i).2] at h9;exact ⟨h9⟩⟩
    case measure => omega
  ·obtain rfl : i = s.size := by omega
   have c1 : decide (s.size < s.size) = false := d_F (by omega)
   have hv := HO.out.str
   go_wp2
   go_ret
   exact ⟨by rw [HP.out];rfl,HO.out.below⟩
def dstB : List Tmp := [30,31,32,33,34,35,36,37,38,39,40,41,42]
def valB (T : ByteArray) (i : Nat) (v : Value) (x y : Int) (j : Nat) : Value := [v,.string T,.int .i64 i,.int .u8 (48 + x),.int .u8 x,.int .u8 (16 * x),.string T,.int .i64 i,.int .i64 (i + 1 : Int),.int .u8 (48 + y),.int .u8 y,.int .u8 (16 * x + y)].getD j undef
theorem or4u {h d : Int} (h0 : 0 ≤ h) (h1 : h < 10) (d0 : 0 ≤ d) (d1 : d < 10) : Go.bits .or .u8 (16 * h) d = 16 * h + d := by
 obtain ⟨m,rfl⟩ := Int.eq_ofNat_of_zero_le h0
 obtain ⟨n,rfl⟩ := Int.eq_ofNat_of_zero_le d0
 have key : ∀ a b : Fin 10,Go.bits .or .u8 (16 * ((a.val : Nat) : Int)) ((b.val : Nat) : Int) = 16 * ((a.val : Nat) : Int) + ((b.val : Nat) : Int) := by decide +kernel
 exact key ⟨m,by omega⟩ ⟨n,by omega⟩
set_option maxHeartbeats 4000000 in
theorem bcd_Put.at (s : ByteArray) (w : World) :
  Calls prog 102 #[.string s] w fun e w' => e = .returned (.tuple #[.string (bcdP s).1,.bool (bcdP s).2]) ∧ Below w.heap.size w w' := by
 by_cases h1 : s.size > 999
 ·have HG : Aside0 (bcdP s = (⟨#[]⟩,false)) := ⟨by unfold bcdP;rw [if_pos (.inl h1)]⟩
  have c0 : decide ((999 : Int) < s.size) = true := d_T (by omega)
  go_enter func102,ntmps102
  go_wp2
  go_ret2
  exact ⟨by rw [HG.out];rfl,Below.refl _ _⟩
 have c0 : decide ((999 : Int) < s.size) = false := d_F (by omega)
 cases h2 : allD s with
 | false =>
  have HG : Aside0 (bcdP s = (⟨#[]⟩,false)) := ⟨by unfold bcdP;rw [if_pos (.inr h2)]⟩
  go_enter func102,ntmps102
  go_wp2_with (first | (go_at_call 109;refine (digits_All.at _ _).mono ?_;rintro e w1 ⟨rfl,hb1⟩;rw [h2]))
  go_ret2
  exact ⟨by rw [HG.out];rfl,hb1⟩
 | true =>
  have HG : Aside0 (bcdP s = (strOfNums ((List.range ((s.size + 1) / 2)).map fun j => 16 * dg s (2 * j) + dg s (2 * j + 1)),true)) := ⟨bcdP_true (by omega) h2⟩
  have HD : Aside0 (∀ k,k < s.size + s.size % 2 → 0 ≤ dg s k ∧ dg s k ≤ 9) := ⟨dg_lt h2⟩
  have H1 := aS h1
  clear h1
  have t2 : Int.tmod (s.size : Int) 2 = (s.size : Int) % 2 := Int.tmod_eq_emod_of_nonneg (by omega)
  have key : ∃ T : ByteArray,(((s.size : Int) % 2 != 0) = false ∧ Aside0 (s.size % 2 = 0) ∧ T = s ∨ ((s.size : Int) % 2 != 0) = true ∧ Aside0 (s.size % 2 = 1) ∧ T = (⟨#[48]⟩ : ByteArray) ++ s) ∧ T.size = 2 * ((s.size + 1) / 2) ∧ ∀ k : Nat,k < T.size → bt T k = 48 + dg s k := by
   by_cases k : s.size % 2 = 0
   ·refine ⟨s,.inl ⟨bne_eq_false_iff_eq.mpr (by omega),⟨k⟩,rfl⟩,by omega,fun j hj => ?_⟩
    unfold dg
    rw [if_neg (by omega),show j - s.size % 2 = j by omega]
    omega
   ·have hz : (⟨#[48]⟩ : ByteArray).size = 1 := rfl
    refine ⟨(⟨#[48]⟩ : ByteArray) ++ s,.inr ⟨bne_iff_ne.mpr (by omega),⟨by omega⟩,rfl⟩,by rw [app_size];omega,fun j hj => ?_⟩
    rw [app_size] at hj
    unfold dg
    by_cases c : j = 0
    ·subst c
     rw [if_pos (by omega),bt_app_l (by omega)]
     rfl
    ·rw [if_neg (by omega),bt_app_r (i := j - s.size % 2) (by omega)]
     omega
  obtain ⟨T,hT,hz,hb⟩ := key
  have HZ := aS hz
  have HB := aS hb
  clear hz hb
  go_enter func102,ntmps102
  have hT2 : Aside0 (T.size ≤ 1000) := ⟨by have := H1.out;have := HZ.out;omega⟩
  have t3 : Int.tdiv (s.size : Int) 2 = (s.size : Int) / 2 := Int.tdiv_eq_ediv_of_nonneg (by omega)
  have t4 : Int.tdiv (1 + (s.size : Int)) 2 = (1 + (s.size : Int)) / 2 := Int.tdiv_eq_ediv_of_nonneg (by omega)
  have cL : (9223372036854775807 < 1 + s.size) = False := eq_false (by have := H1.out;omega)
  rcases hT with ⟨c1,c2,e⟩ | ⟨c1,c2,e⟩
  all_goals go_wp2_with (first | (go_at_call 109;refine (digits_All.at _ _).mono ?_;rintro e w1 ⟨rfl,hb1⟩;rw [h2]) | ((with_reducible refine gate_dst (N := 23) rfl ?_);refine make8 hb1 rfl (N := 23) rfl _ _ rfl ((s.size + 1) / 2) rfl ?hy (by have := H1.out;omega) ?_;(case hy => have := c2.out;have := H1.out;clear c1;go_simp;first | done | omega | (unfold wrap64;omega));intro v1 w2 HO))
  all_goals have HO := aS HO
  all_goals rw [← e]
  all_goals clear e t2 t3 t4 c0 c1 h2 cL hb1
  all_goals go_loopg [4,5] ((s.size + 1) / 2) (fun g v4 v5 w' => ∃ (i : Nat) (m : Nat),v5 = .int .i64 i ∧ i = 2 * m ∧ m + g = (s.size + 1) / 2 ∧ Aside0 (Own8 w w' v4 ((List.range m).map fun j => 16 * dg s (2 * j) + dg s (2 * j + 1))))
  iterate 2
   case atStart => exact ⟨0,0,rfl,rfl,by omega,HO⟩
  all_goals
   clear HO
   obtain ⟨i,m,rfl,him,hi,HO⟩ := hrel
   by_cases hc : m < (s.size + 1) / 2
   ·obtain ⟨g,rfl⟩ : ∃ g,gk = g + 1 := ⟨gk - 1,by omega⟩
    have hz := HZ.out
    have hxb := HB.out i (by omega)
    have hyb := HB.out (i + 1) (by omega)
    have hX := HD.out i (by omega)
    have hY := HD.out (i + 1) (by omega)
    rw [bt_get (show i < T.size by omega)] at hxb
    rw [bt_get (show i + 1 < T.size by omega)] at hyb
    have c1 : decide (i < T.size) = true := d_T (by omega)
    have p : (0 ≤ (i : Int)) = True := eq_true (by omega)
    have q : ((i : Int) < T.size) = True := eq_true (by omega)
    have p2 : (0 ≤ (i : Int) + 1) = True := eq_true (by omega)
    have q2 : ((i : Int) + 1 < T.size) = True := eq_true (by omega)
    have HI : Aside0 (dg s i = dg s (2 * m) ∧ dg s (i + 1) = dg s (2 * m + 1)) := ⟨by rw [him];exact ⟨rfl,rfl⟩⟩
    generalize dg s i = x at hxb hX HI
    generalize dg s (i + 1) = y at hyb hY HI
    have hx0 : 0 ≤ x := hX.1
    have hx1 : x < 10 := by omega
    have hy0 : 0 ≤ y := hY.1
    have hy1 : y < 10 := by omega
    have HX : Aside0 (∀ h,((T[i]'h).toNat : Int) = 48 + x) := ⟨fun _ => hxb⟩
    have HY : Aside0 (∀ h,((T[i + 1]'h).toNat : Int) = 48 + y) := ⟨fun _ => hyb⟩
    clear hxb hyb hX hY
    have HIM := aS him
    have HGI := aS hi
    have w1 : IntKind.u8.wrap (48 + x - 48) = x := by rw [IntKind.wrap_u8];omega
    have w2 : IntKind.u8.wrap (x * 16) = 16 * x := by rw [IntKind.wrap_u8];omega
    have w3 : IntKind.u8.wrap (48 + y - 48) = y := by rw [IntKind.wrap_u8];omega
    have w4 : IntKind.i64.wrap ((i : Int) + 1) = (i : Int) + 1 := by have := hT2.out;have := of_eq_true q;rw [IntKind.wrap_i64];omega
    clear him hi hc hz
    go_wp2
    refine region_auto (by kernel_rfl) 13 dstB (by kernel_rfl) (postR 12 (valB T i u4 x y) [.int .u8 (16 * x + y)] wr.heap.size) (fun _ _ _ _ => True) (fun _ _ _ _ _ => trivial) (fun _ _ _ _ h hb => postR_st h hb) ?rgrow ?rtail
    case rgrow =>
     intro j o hj ho a W hb hf hp K' hK
     have HK := aS hK
     have HSB := below_size hb
     clear hK hb
     have e0 : a.tmps[0]? = some (.string T) := (hf.2.2 0 (by decide)).trans rfl
     have e3 : a.tmps[4]? = some u4 := (hf.2.2 4 (by decide)).trans rfl
     have e4 : a.tmps[5]? = some (.int .i64 i) := (hf.2.2 5 (by decide)).trans rfl
     clear hf
     have HK2 : Aside0 (∀ u,u = valB T i u4 x y j → j < 12 → K' (a.put (some (dstB.getD j 0)) u) W) := ⟨fun u h1 h2 => HK.out _ _ (Below.refl _ _) ⟨fun _ => h1,fun e => by omega⟩ (fun _ _ _ _ _ => trivial)⟩
     have D : ∀ m,m < 12 → (⟨m,.data⟩ : Edge) ∈ o.after → a.tmps[dstB.getD m 0]?.getD undef = valB T i u4 x y m := fun m hm hin => by simpa only [Act.eval,Array.getD_eq_getD_getElem?] using (hp _ hin rfl).1 hm
     clear hp
     rcases (show j = 0 ∨ j = 1 ∨ j = 2 ∨ j = 3 ∨ j = 4 ∨ j = 5 ∨ j = 6 ∨ j = 7 ∨ j = 8 ∨ j = 9 ∨ j = 10 ∨ j = 11 ∨ j = 12 by omega) with rfl | rfl | rfl | rfl | rfl | rfl | rfl | rfl | rfl | rfl | rfl | rfl | rfl <;> cases ho
     ·clear D HK;unfold Oper.wp;go_simp;exact HK2.out _ rfl (by decide)
     ·clear D HK;unfold Oper.wp;go_simp;exact HK2.out _ rfl (by decide)
     ·clear D HK;unfold Oper.wp;go_simp;exact HK2.out _ rfl (by decide)
     ·have d1 : a.tmps[31]?.getD undef = .string T := D 1 (by decide) (by simp)
      have d2 : a.tmps[32]?.getD undef = .int .i64 i := D 2 (by decide) (by simp)
      clear D HK;unfold Oper.wp;go_simp;rw [HX.out];exact HK2.out _ rfl (by decide)
     ·have d3 : a.tmps[33]?.getD undef = .int .u8 (48 + x) := D 3 (by decide) (by simp)
      clear D HK;unfold Oper.wp;go_simp;exact HK2.out _ rfl (by decide)
     ·have d4 : a.tmps[34]?.getD undef = .int .u8 x := D 4 (by decide) (by simp)
      clear D HK;unfold Oper.wp;go_simp;exact HK2.out _ rfl (by decide)
     ·clear D HK;unfold Oper.wp;go_simp;exact HK2.out _ rfl (by decide)
     ·clear D HK;unfold Oper.wp;go_simp;exact HK2.out _ rfl (by decide)
     ·have d7 : a.tmps[37]?.getD undef = .int .i64 i := D 7 (by decide) (by simp)
      clear D HK;unfold Oper.wp;go_simp;exact HK2.out _ rfl (by decide)
     ·have d6 : a.tmps[36]?.getD undef = .string T := D 6 (by decide) (by simp)
      have d8 : a.tmps[38]?.getD undef = .int .i64 (i + 1 : Int) := D 8 (by decide) (by simp)
      clear D HK;unfold Oper.wp;go_simp;rw [HY.out];exact HK2.out _ rfl (by decide)
     ·have d9 : a.tmps[39]?.getD undef = .int .u8 (48 + y) := D 9 (by decide) (by simp)
      clear D HK;unfold Oper.wp;go_simp;exact HK2.out _ rfl (by decide)
     ·have d5 : a.tmps[35]?.getD undef = .int .u8 (16 * x) := D 5 (by decide) (by simp)
      have d10 : a.tmps[40]?.getD undef = .int .u8 y := D 10 (by decide) (by simp)
      clear D HK;unfold Oper.wp;go_simp;rw [or4u hx0 hx1 hy0 hy1];exact HK2.out _ rfl (by decide)
     ·have d11 : a.tmps[41]?.getD undef = .int .u8 (16 * x + y) := D 11 (by decide) (by simp)
      clear D;unfold Oper.wp;go_simp;exact HK.out _ _ (bO _) ⟨fun h => absurd h (by decide),fun _ => ⟨_,rfl,blk_new _ _,HSB⟩⟩ (fun _ _ _ _ _ => trivial)
    case rtail =>
     intro a W fuel hfl hb he hp _
     obtain ⟨g2,hg,hblk,_⟩ := (hp 12 (by decide)).2 rfl
     have e : ((List.range 13).map fun j => (dstB.getD j 0,a.eval (.tmp (dstB.getD j 0)))) = (List.range 13).map fun j => (dstB.getD j 0,if j = 12 then .slice (some ⟨g2,0,none⟩) 1 1 else valB T i u4 x y j) := List.map_congr_left fun j hj => by
      have hj := List.mem_range.1 hj
      by_cases k : j = 12
      ·subst k;rw [hg];rfl
      ·rw [(hp j hj).1 (by omega),if_neg k]
     rw [e] at he
     clear e hp hg
     subst he
     show wpAny _ _ _ _ fuel _ (putL _ [(30,u4),(31,.string T),(32,.int .i64 i),(33,.int .u8 (48 + x)),(34,.int .u8 x),(35,.int .u8 (16 * x)),(36,.string T),(37,.int .i64 i),(38,.int .i64 (i + 1 : Int)),(39,.int .u8 (48 + y)),(40,.int .u8 y),(41,.int .u8 (16 * x + y)),(42,.slice (some ⟨g2,0,none⟩) 1 1)]) W
     simp only [putL,Act.put,sA,sB,sC]
     obtain ⟨f,rfl⟩ : ∃ f,fuel = f + 2 := ⟨fuel - 2,by have : (15 - 13 : Nat) ≤ fuel := hfl;omega⟩
     refine wpAny_one (i := 13) (by kernel_rfl) rfl rfl ?_
     refine app8s (ops := #[]) (HO.out.step hb) rfl (.tmp 30) (.tmp 42) rfl rfl rfl (ys := [16 * x + y]) rfl hblk (by have := hT2.out;have := HIM.out;have := of_eq_true q;simp;omega) ?_
     intro v2 w3 HO2
     have HO3 := aS HO2
     clear HO2
     refine wpAny_one (i := 14) (by kernel_rfl) rfl rfl ?_
     unfold Oper.wp
     go_simp
     refine wpAny_none (by kernel_rfl) ?_ _
     go_wp2
     go_roundg g
     case rel => exact ⟨i + 2,m + 1,by have := hT2.out;have := of_eq_true q;congr 1;unfold wrap64;omega,by have := HIM.out;omega,by have := HGI.out;omega,by rw [List.range_succ,List.map_append];have h9 := HO3.out;rw [HI.out.1,HI.out.2] at h9;exact ⟨h9⟩⟩
     case measure => first | omega | (have := HGI.out;omega)
   ·obtain rfl : gk = 0 := by omega
    have hz := HZ.out
    have c1 : decide (i < T.size) = false := d_F (by omega)
    have hv := HO.out.str
    obtain rfl : m = (s.size + 1) / 2 := by omega
    go_wp2
    go_ret2
    exact ⟨by rw [HG.out];rfl,HO.out.below⟩
theorem Own8.set {w W : World} {g n c : Nat} {xs : List Int} (h : Own8 w W (.slice (some ⟨g,0,none⟩) n c) xs) (hg : w.heap.size ≤ g) (i : Int) (x : Int) : Own8 w (W.setCell ⟨g,i.toNat,none⟩ (.int .u8 x)) (.slice (some ⟨g,0,none⟩) n c) (xs.set i.toNat x) :=
 ⟨(Kd.R_putg h.row i x).1,below_set h.below hg⟩
def rowf (W : Nat) (n : Int) (k : Nat) : List Int := (List.range W).map fun j => if j + k < W then 0 else 48 + n / 10 ^ (W - 1 - j) % 10
theorem rowf_len (W : Nat) (n : Int) (k : Nat) : (rowf W n k).length = W := by simp [rowf]
theorem rowf_zero {W : Nat} (n : Int) {wd : Int} (h : wd = W) : List.replicate wd.toNat (0 : Int) = rowf W n 0 := by
 subst h
 apply List.ext_getElem?
 intro i
 unfold rowf
 by_cases c : i < W
 ·rw [List.getElem?_map,List.getElem?_range c,Int.toNat_natCast,List.getElem?_replicate,if_pos c]
  simp [c]
 ·rw [List.getElem?_eq_none (by simp;omega),List.getElem?_eq_none (by simp;omega)]
theorem rowf_get (W : Nat) (n : Int) (k i : Nat) (h : i < W) : (rowf W n k)[i]? = some (if i + k < W then 0 else 48 + n / 10 ^ (W - 1 - i) % 10) := by
 unfold rowf
 rw [List.getElem?_map,List.getElem?_range h]
 rfl
theorem rowf_set {W : Nat} {n : Int} {k : Nat} (hk : k < W) : (rowf W n k).set (W - 1 - k) (48 + n / 10 ^ k % 10) = rowf W n (k + 1) := by
 apply List.ext_getElem?
 intro i
 by_cases h : i < W
 ·rw [List.getElem?_set,rowf_get _ _ _ _ h,rowf_get _ _ _ _ h,rowf_len]
  by_cases c : W - 1 - k = i
  ·rw [if_pos c,if_pos (by omega),if_neg (by omega),show W - 1 - i = k by omega]
  ·rw [if_neg c]
   by_cases d : i + k < W
   ·rw [if_pos d,if_pos (by omega)]
   ·rw [if_neg d,if_neg (by omega)]
 ·rw [List.getElem?_eq_none (by simp [rowf_len];omega),List.getElem?_eq_none (by rw [rowf_len];omega)]
set_option maxHeartbeats 2000000 in
theorem digits_Put.at (n wd : Int) (w : World) (hn : n ≤ 4611686018427387904) :
  Calls prog 150 #[.int .i64 n,.int .i64 wd] w fun e w' => e = .returned (.tuple #[.string (digP n wd).1,.bool (digP n wd).2]) ∧ Below w.heap.size w w' := by
 by_cases hb : n < 0 ∨ wd < 1 ∨ wd > 18
 ·have HG : Aside0 (digP n wd = (⟨#[]⟩,false)) := ⟨by unfold digP;rw [if_pos (by omega)]⟩
  rcases (show decide (n < 0) = true ∨ decide (n < 0) = false ∧ decide (wd < 1) = true ∨ decide (n < 0) = false ∧ decide (wd < 1) = false ∧ decide (18 < wd) = true by simp only [decide_eq_true_eq,decide_eq_false_iff_not];omega) with c0 | ⟨c0,c1⟩ | ⟨c0,c1,c2⟩
  all_goals
   go_enter func150,ntmps150
   go_wp2
   go_ret2
   exact ⟨by rw [HG.out];rfl,Below.refl _ _⟩
 have c0 : decide (n < 0) = false := d_F (by omega)
 have c1 : decide (wd < 1) = false := d_F (by omega)
 have c2 : decide (18 < wd) = false := d_F (by omega)
 obtain ⟨W,hW⟩ := Int.eq_ofNat_of_zero_le (show 0 ≤ wd by omega)
 have HW : Aside0 (0 < W ∧ W ≤ 18 ∧ 0 ≤ n) := ⟨by omega⟩
 have HWD : Aside0 (wd = W) := ⟨hW⟩
 have HN := aS hn
 have HG : Aside0 (digP n wd = if n ≥ 10 ^ W then (⟨#[]⟩,false) else (strOfNums (rowf W n W),true)) := ⟨by
  unfold digP
  rw [show wd.toNat = W by omega]
  by_cases c : n ≥ 10 ^ W
  ·rw [if_pos (by omega),if_pos c]
  ·rw [if_neg (by omega),if_neg c]
   unfold rng rowf
   rw [List.map_congr_left (l := List.range W) (f := fun j => 48 + n / 10 ^ (W - 1 - j) % 10) (g := fun j => if j + W < W then (0 : Int) else 48 + n / 10 ^ (W - 1 - j) % 10) (fun j hj => (if_neg (by omega)).symm)]⟩
 clear hb hn hW
 go_enter func150,ntmps150
 go_wp2_with (first | ((with_reducible refine gate_dst (N := 19) rfl ?_);refine Kd.R_make (Kd.int .u8) _ 5 rfl (N := 19) rfl 101 _ _ rfl wd rfl rfl underlying101 (.int .u8 0) 1 info5 rfl (by decide) (by omega) 0 (ok := fun _ => True) (okp := fun _ => True) rfl (fun _ hk => hk) trivial (by have := HWD.out;omega) (by have := HW.out;have := HWD.out;omega) (Below.refl _ _) (Nat.le_refl _) ?_;intro v1 w1 ho hb _ _;have HO : Aside0 (Own8 w w1 v1 (rowf W n 0)) := ⟨by rw [← rowf_zero n HWD.out];exact ⟨ho,hb⟩⟩;clear ho hb))
 go_loopg [0,7] W (fun g v0 v7 w' => ∃ (k : Nat),v0 = .int .i64 (n / 10 ^ k) ∧ v7 = .int .i64 (wd - 1 - (k : Int)) ∧ k + g = W ∧ Aside0 (Own8 w w' v1 (rowf W n k)))
 case atStart => exact ⟨0,by simp,by have := HW.out;have := HWD.out;congr 1;unfold wrap64;omega,by omega,HO⟩
 case round =>
  clear HO c0 c1 c2
  obtain ⟨k,rfl,rfl,hi,HO⟩ := hrel
  have hq : Aside0 (0 ≤ n / 10 ^ k ∧ n / 10 ^ k ≤ n) := ⟨⟨Int.ediv_nonneg HW.out.2.2 (Int.le_of_lt (Int.pow_pos (by decide))),Int.ediv_le_self _ HW.out.2.2⟩⟩
  have hWD := HWD.out
  by_cases hc : k < W
  ·obtain ⟨g,rfl⟩ : ∃ g,gk = g + 1 := ⟨gk - 1,by omega⟩
   have c1 : decide ((k : Int) ≤ wd - 1) = true := d_T (by omega)
   have p : (0 ≤ wd - 1 - k) = True := eq_true (by omega)
   have q : (wd - 1 - k < wd) = True := eq_true (by omega)
   have q3 : (wd - 1 - k < (W : Int)) := by omega
   have q4 := eq_true q3
   have p4 : ((k : Int) ≤ wd - 1) = True := eq_true (by omega)
   have q2 : (wd - 1 - k < ((rowf W n k).length : Int)) = True := eq_true (by rw [rowf_len];exact q3)
   obtain ⟨go,co,eo,hgb,_,_⟩ := Kd.R_form HO.out.row (by rw [rowf_len];omega)
   rw [rowf_len] at eo
   subst eo
   have hx := Kd.R_celln 0 HO.out.row (wd - 1 - k) (of_eq_true p) q3
   have hz : (wd - 1 - (k : Int)).toNat = wd.toNat - 1 - k := by omega
   rw [hz] at hx
   obtain ⟨hx1,hx2⟩ := hx
   have t1 : Int.tmod (n / 10 ^ k) 10 = n / 10 ^ k % 10 := Int.tmod_eq_emod_of_nonneg hq.out.1
   have t2 : Int.tdiv (n / 10 ^ k) 10 = n / 10 ^ (k + 1) := by rw [Int.tdiv_eq_ediv_of_nonneg hq.out.1,Int.pow_succ,Int.ediv_ediv_of_nonneg (Int.le_of_lt (Int.pow_pos (by decide)))]
   have HS : Aside0 (Own8 w (wr.setCell ⟨go,wd.toNat - 1 - k,none⟩ (.int .u8 (48 + n / 10 ^ k % 10))) (.slice (some ⟨go,0,none⟩) W co) (rowf W n (k + 1))) := ⟨by
    have h9 := HO.out.set hgb (wd - 1 - k) (48 + n / 10 ^ k % 10)
    rw [hz,show wd.toNat - 1 - k = W - 1 - k by omega,rowf_set hc] at h9
    rw [show wd.toNat - 1 - k = W - 1 - k by omega]
    exact h9⟩
   have hq3 : 0 ≤ n / 10 ^ (k + 1) ∧ n / 10 ^ (k + 1) ≤ n := ⟨Int.ediv_nonneg HW.out.2.2 (Int.le_of_lt (Int.pow_pos (by decide))),Int.ediv_le_self _ HW.out.2.2⟩
   have hw1 : wrap64 (n / 10 ^ (k + 1)) = n / 10 ^ (k + 1) := by have := HN.out;unfold wrap64;omega
   have hw2 : wrap64 (wd - 1 - (k : Int) - 1) = wd - 1 - ((k + 1 : Nat) : Int) := by have := HW.out;unfold wrap64;omega
   clear hWD
   have hq2 := hq.out
   have hn2 := HN.out
   generalize hQ : n / 10 ^ k = qv at *
   go_wp2
   rw [hw2]
   go_roundg g
   case rel => exact ⟨k + 1,rfl,rfl,by omega,HS⟩
   case measure => omega
  ·obtain rfl : k = W := by omega
   have c1 : decide ((k : Int) ≤ wd - 1) = false := d_F (by omega)
   have hv := HO.out.str
   by_cases hp : n ≥ 10 ^ k
   ·have c2 : decide (0 < n / 10 ^ k) = true := d_T (by
     have : 1 ≤ n / 10 ^ k := (Int.le_ediv_iff_mul_le (Int.pow_pos (by decide))).2 (by omega)
     omega)
    have HG2 : Aside0 (digP n wd = (⟨#[]⟩,false)) := ⟨by rw [HG.out,if_pos hp]⟩
    clear hp
    go_wp2
    go_ret2
    exact ⟨by rw [HG2.out];rfl,HO.out.below⟩
   ·have c2 : decide (0 < n / 10 ^ k) = false := d_F (by
     rw [Int.ediv_eq_zero_of_lt HW.out.2.2 (by omega)]
     omega)
    have HG2 : Aside0 (digP n wd = (strOfNums (rowf k n k),true)) := ⟨by rw [HG.out,if_neg hp]⟩
    clear hp
    go_wp2
    go_ret2
    exact ⟨by rw [HG2.out];rfl,HO.out.below⟩
set_option maxHeartbeats 2000000 in
theorem groatref11_Value.at (x : S87) (t : ByteArray) (w : World) (ht : t.size ≤ 1000000) :
  Calls prog 64 #[v87 x,.string t] w fun e w' => e = .returned (.int .i64 (specValue x t)) ∧ Below w.heap.size w w' := by
 have hu87 := underlying87
 have ht0 : t.size ≤ 4611686018427387904 := by omega
 unfold v87
 go_enter func64,ntmps64
 go_wp2_with (first | (go_at_call 113;refine (groatref11_Check.at x _).mono ?_;rintro e w1 ⟨rfl,hb⟩;have hc := below_cells hb) | (go_at_call 118;refine (groatref04_First.at _ _ _ ht0).mono ?_;rintro e w2 ⟨rfl,rfl⟩) | (go_at_call 119;refine (groatref10_Get.at _ _ ht).mono ?_;rintro e w2 ⟨⟨v0,rfl⟩,hb2⟩))
 all_goals go_ret
 all_goals refine ⟨ret_int ?_,by first | exact b_s (bO _) hb | exact b_s (b_s (bO _) hb) hb2⟩
 all_goals (clear hu87;try clear hb2;clear hb)
 all_goals try simp only [beq_eq_false_iff_ne,beq_iff_eq,bne_iff_ne,bne_eq_false_iff_eq,ne_eq] at *
 all_goals (unfold specValue tlvErr;(repeat' split) <;> first | rfl | omega)
end Go.Proofs.YtgbmnpgaddhfpaaGreatDoor.T
