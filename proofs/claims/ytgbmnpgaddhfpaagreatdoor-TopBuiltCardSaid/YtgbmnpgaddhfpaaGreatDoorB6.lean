/- Walks and plain laws beneath the law TopBuilt. No conditions but what each statement names. -/
import Derived.Laws.CopyOwn
import Derived.Laws.CopyRow
import Derived.Test.YtgbmnpgaddhfpaaGreatDoorB4
set_option linter.unusedVariables false
set_option linter.unusedSimpArgs false
namespace Go.Proofs.YtgbmnpgaddhfpaaGreatDoor.T
open Go.RowKit Go.Proofs.YtgbmnpgaddhfpaaGreatDoorW.PrintWords Go.Proofs.YtgbmnpgaddhfpaaGreatDoorW.PrintLast Go.Proofs.YtgbmnpgaddhfpaaGreatDoorW.PrintMore
attribute [local go_sem] max2_int min2_int max_two min_two
open Go.Proofs.YtgbmnpgaddhfpaaGreatDoor.G
open Tryz
set_option maxRecDepth 100000
def flat63 (xs : List S63) : List Value := xs.flatMap (fun x => [.int .i64 x.f0,.string x.f1])
theorem flat63_len (xs : List S63) : (flat63 xs).length = 2 * xs.length := by
 induction xs with
 | nil => rfl
 | cons x xs ih =>
  have : flat63 (x :: xs) = [.int .i64 x.f0,.string x.f1] ++ flat63 xs := rfl
  rw [this,List.length_append,ih]
  simp
  omega
theorem flat63_app (xs ys : List S63) : flat63 (xs ++ ys) = flat63 xs ++ flat63 ys := by simp [flat63]
theorem flat63_one (xs : List S63) : ∀ v ∈ flat63 xs,v.oneCell' = true := by
 intro v hv
 simp only [flat63,List.mem_flatMap] at hv
 obtain ⟨x,_,hx⟩ := hv
 simp only [List.mem_cons,List.not_mem_nil,or_false] at hx
 rcases hx with rfl | rfl <;> rfl
theorem flat63_get : ∀ (xs : List S63) (j : Nat) (x : S63),xs[j]? = some x → (flat63 xs)[j * 2]? = some (.int .i64 x.f0) ∧ (flat63 xs)[j * 2 + 1]? = some (.string x.f1)
 | [],_,_,h => by simp at h
 | y :: ys,0,x,h => by
  simp at h
  subst h
  exact ⟨rfl,rfl⟩
 | y :: ys,j + 1,x,h => by
  have h2 := flat63_get ys j x (by simpa using h)
  have e : flat63 (y :: ys) = .int .i64 y.f0 :: .string y.f1 :: flat63 ys := rfl
  rw [e,show (j + 1) * 2 = j * 2 + 1 + 1 by omega,List.getElem?_cons_succ,List.getElem?_cons_succ,show j * 2 + 1 + 1 + 1 = (j * 2 + 1) + 1 + 1 by omega,List.getElem?_cons_succ,List.getElem?_cons_succ]
  exact h2
theorem flat63_reads {w : World} {ad : Addr} {n : Nat} {xs : List S63} (h : Kd.C k63 w (some ad) n xs) : ∀ j v,(flat63 xs)[j]? = some v → w.cell? (ad.add j) = some v := by
 intro j v hv
 have hn : xs.length = n := Kd.C_len h
 have hj : j < 2 * xs.length := by
  have := (List.getElem?_eq_some_iff.1 hv).1
  rwa [flat63_len] at this
 obtain ⟨ad',e,hc⟩ := h.2.2 (by omega)
 cases e
 have hlt : j / 2 < xs.length := by omega
 obtain ⟨cs,_,hK,hx⟩ := hc (j / 2) xs[j / 2] (List.getElem?_eq_getElem hlt)
 obtain rfl := k63_open hK
 have hg := flat63_get xs (j / 2) _ (List.getElem?_eq_getElem hlt)
 rcases Nat.mod_two_eq_zero_or_one j with h2 | h2
 ·have hj2 : j / 2 * 2 = j := by omega
  rw [hj2] at hg
  rw [hg.1] at hv
  cases hv
  have := hx 0 _ rfl
  rw [show j / 2 * k63.sz + 0 = j by show j / 2 * 2 + 0 = j;omega] at this
  exact this
 ·have hj2 : j / 2 * 2 + 1 = j := by omega
  rw [hj2] at hg
  rw [hg.2] at hv
  cases hv
  have := hx 1 _ rfl
  rw [show j / 2 * k63.sz + 1 = j by show j / 2 * 2 + 1 = j;omega] at this
  exact this
theorem flat63_C {w : World} {g : Nat} {t : TypeId} {xs : List S63} (hx : xs.length ≤ 9223372036854775807) (h : w.heap[g]? = some (.cells (flat63 xs).toArray t (0,0))) : Kd.C k63 w (some ⟨g,0,none⟩) xs.length xs := by
 refine ⟨rfl,hx,fun _ => ⟨_,rfl,fun j p hj => ⟨_,rfl,k63_mk w p,fun i u hu => ?_⟩⟩⟩
 have hg := flat63_get xs j p hj
 have hcell : ∀ k v,(flat63 xs)[k]? = some v → w.cell? ((⟨g,0,none⟩ : Addr).add k) = some v := by
  intro k v hv
  have ha : (⟨g,0,none⟩ : Addr).add k = ⟨g,0 + k,none⟩ := by unfold Addr.add;split <;> simp_all
  rw [ha,Nat.zero_add,blk_cell h k]
  simpa using hv
 rcases i with _ | _ | i
 ·simp at hu
  subst hu
  exact hcell (j * 2 + 0) _ hg.1
 ·simp at hu
  subst hu
  exact hcell (j * 2 + 1) _ hg.2
 ·simp at hu
theorem run_copy2 (P : Program) (w : World) (dT sT ty elem : TypeId) (dp sp : Option Addr) (dLen dCap sLen sCap g o : Nat) (cur : Array Value) (t : TypeId) (cs : List Value)
  (hu : P.underlying dT = some (.slice elem)) (hs : (P.info? elem).map (·.size) = some 2)
  (hg : w.heap[g]? = some (.cells cur t (0,0))) (hn : cs.length = Nat.min sLen dLen * 2)
  (hpos : 0 < cs.length → dp = some ⟨g,o,none⟩ ∧ ∃ ad,sp = some ad ∧ ∀ j v,cs[j]? = some v → w.cell? (ad.add j) = some v) (hfit : o + cs.length ≤ cur.size) (h1 : ∀ v ∈ cs,v.oneCell' = true) :
  (Builtin.copy_ #[dT,sT] ty #[.slice dp dLen dCap,.slice sp sLen sCap]).run P w = .ok (goInt (Nat.min sLen dLen)) (w.setRow g (cur.toList.take o ++ cs ++ cur.toList.drop (o + cs.length)).toArray) := by
 cases hq : P.info? elem with
 | none => simp [hq] at hs
 | some i =>
  have hi : i.size = 2 := by simpa [hq] using hs
  by_cases hz : cs.length = 0
  ·obtain rfl : cs = [] := List.eq_nil_of_length_eq_zero hz
   have hm : Nat.min sLen dLen = 0 := by simp at hn;omega
   have hself : (cur.toList.take o ++ [] ++ cur.toList.drop (o + ([] : List Value).length)).toArray = cur := by simp
   rw [hself,setRow_self w g cur t (0,0) hg]
   have hl : ∀ (x : Addr),(loadCells x 0).run P w = .ok #[] w := fun x => by simpa using run_loadCells_list (P := P) w x [] (by simp)
   cases sp with
   | none => cases dp <;> simp [Builtin.copy_,run_underlying hu,Builtin.lenOf,Builtin.firstCells,sizeOf,typeInfo,hq,hi,hm,storeCells]
   | some ad => cases dp <;> simp [Builtin.copy_,run_underlying hu,Builtin.lenOf,Builtin.firstCells,sizeOf,typeInfo,hq,hi,hm,hl,storeCells]
  ·obtain ⟨rfl,ad,rfl,hsrc⟩ := hpos (by omega)
   have hl := run_loadCells_list (P := P) w ad cs hsrc
   have hst := run_storeCells_at P g o t cs 0 cur w hg (by simpa using hfit) h1
   simp [Builtin.copy_,run_underlying hu,Builtin.lenOf,Builtin.firstCells,sizeOf,typeInfo,hq,hi,← hn,hl,hst]
theorem wp_copy2 {ops : Array Oper} {rest : List Oper} {o : Oper} {a : Act} {Q : Exit → Act → World → Prop} {w : World} (hgd : o.guard = none) (d s : Operand) (ho : o.op = .call { callee := .builtin .copy,args := #[d,s],argTypes := #[40,40] })
  (dp sp : Option Addr) (dLen dCap sLen sCap : Nat) (hd : a.eval d = .slice dp dLen dCap) (hs : a.eval s = .slice sp sLen sCap) (g k : Nat) (cur cs : List Value) (hg : w.heap[g]? = some (.cells cur.toArray 63 (0,0))) (hn : cs.length = Nat.min sLen dLen * 2)
  (hpos : 0 < cs.length → dp = some ⟨g,k,none⟩ ∧ ∃ ad,sp = some ad ∧ ∀ j v,cs[j]? = some v → w.cell? (ad.add j) = some v) (hfit : k + cs.length ≤ cur.length) (h1 : ∀ v ∈ cs,v.oneCell' = true)
  (h : ∀ w' v,w'.heap[g]? = some (.cells (cur.take k ++ cs ++ cur.drop (k + cs.length)).toArray 63 (0,0)) → (∀ j,j ≠ g → w'.heap[j]? = w.heap[j]?) → (∀ (B : Nat) (w0 : World),B ≤ g → Below B w0 w → Below B w0 w') → wpList prog ops Q rest (a.put o.dst v) w') : wpList prog ops Q (o :: rest) a w := by
 refine wpList_plain hgd fun K hK => ?_
 have hrun := run_copy2 prog w 40 40 o.type 63 dp sp dLen dCap sLen sCap g k cur.toArray 63 cs underlying40 (by kernel_rfl) hg hn hpos (by simpa using hfit) h1
 have hh := setRow_heap w g _ ((cur.toArray.toList.take k ++ cs ++ cur.toArray.toList.drop (k + cs.length)).toArray) 63 _ hg
 have h9 := h (w.setRow g ((cur.toArray.toList.take k ++ cs ++ cur.toArray.toList.drop (k + cs.length)).toArray)) (goInt (Nat.min sLen dLen)) (by simpa using hh) (fun j hj => setRow_other w g j _ hj) (fun B w0 hB hb => below_setRow hb hB _)
 generalize w.setRow g ((cur.toArray.toList.take k ++ cs ++ cur.toArray.toList.drop (k + cs.length)).toArray) = W9 at hrun h9
 unfold Oper.wp
 simp only [execOp,ho,resolve,invoke,builtin]
 simp [hd,hs,hrun,Result.andThen]
 exact hK _ _ h9
def withoutS (no : Int) : List S63 → List S63
 | [] => []
 | x :: xs => if x.f0 = no then withoutS no xs else x :: withoutS no xs
theorem withoutS_snoc (no : Int) : ∀ (ys xs : List S63) (x : S63) (zs : List S63),ys ++ withoutS no (x :: zs) = (if x.f0 = no then ys else ys ++ [x]) ++ withoutS no zs := by
 intro ys xs x zs
 rw [withoutS]
 split <;> simp
set_option maxHeartbeats 2000000 in
theorem msg_Without.at (m : ByteArray) (A : Option Addr) (c : Nat) (xs : List S63) (no : Int) (w : World) (hl : xs.length ≤ 1000000) (hr : Kd.C k63 w A xs.length xs) (hc : xs.length ≤ c) :
  Calls prog 96 #[.agg #[.string m,.slice A xs.length c],.int .i64 no] w fun e w' => (∃ A' c',e = .returned (.agg #[.string m,.slice A' (withoutS no xs).length c']) ∧ (withoutS no xs).length ≤ c' ∧ Kd.C k63 w' A' (withoutS no xs).length (withoutS no xs)) ∧ Below w.heap.size w w' := by
 have hu42 := underlying42
 have hu63 := underlying63
 have HR := aS hr
 have HC := aS hc
 clear hr hc
 go_enter func96,ntmps96
 go_wp2
 have D := aS (Box3.start w (.cells #[.string m,.slice A xs.length c] 42) (.cells #[.string ⟨#[]⟩,.slice none 0 0] 42) (.cells #[.string m,.slice none 0 0] 42))
 have HO : Aside0 (Kd.R k63 63 (((w.alloc (.cells #[.string m,.slice A xs.length c] 42)).alloc (.cells #[.string ⟨#[]⟩,.slice none 0 0] 42)).alloc (.cells #[.string m,.slice none 0 0] 42)) w.heap.size (fun k => k ≠ w.heap.size + 1 ∧ k ≠ w.heap.size + 1 + 1) (.slice none 0 0) []) := ⟨Kd.R_nil _ _ _ _ _⟩
 go_loopg [14] xs.length (fun g v14 w' => ∃ (i : Nat) (ys : List S63) (v : Value),v14 = .int .i64 i ∧ i + g = xs.length ∧ ys.length ≤ i ∧ Aside0 (ys ++ withoutS no (xs.drop i) = withoutS no xs) ∧ Aside0 (Box3 w w' (.cells #[.string m,.slice A xs.length c] 42) (.cells #[.string ⟨#[]⟩,.slice none 0 0] 42) (.cells #[.string m,v] 42)) ∧ Aside0 (Kd.R k63 63 w' w.heap.size (fun k => k ≠ w.heap.size + 1 ∧ k ≠ w.heap.size + 1 + 1) v ys))
 case atStart => exact ⟨0,[],_,rfl,Nat.zero_add _,Nat.le_refl _,⟨rfl⟩,D,HO⟩
 case round =>
  clear D HO
  obtain ⟨i,ys,v,rfl,hi,hyl,HF,D,HO⟩ := hrel
  obtain ⟨Av,cv,hv0⟩ := Kd.R_slice HO.out
  subst hv0
  by_cases h : i < xs.length
  ·have e0 : decide ((i : Int) < xs.length) = true := d_T (by omega)
   obtain ⟨ad,rfl,hx0,hx1⟩ := at63 HR.out D.out.below i h
   have q0 : (0 ≤ (i : Int)) = True := eq_true (by omega)
   have q1 : ((i : Int) < xs.length) = True := eq_true (by omega)
   have hf := HF.out
   rw [drop63 h,withoutS_snoc _ _ xs] at hf
   clear HF
   generalize rd_T63 xs (i : Int) = x at *
   by_cases e : x.f0 = no
   ·have e1 : (x.f0 != no) = false := bne_eq_false_iff_eq.mpr e
    rw [if_pos e] at hf
    have HF := aS hf
    clear hf e
    go_wp2
    obtain ⟨g,rfl⟩ : ∃ g,gk = g + 1 := ⟨gk - 1,by omega⟩
    go_roundg g
    case rel => exact ⟨i + 1,ys,_,rfl,by omega,by omega,HF,⟨D.out.step (bO _)⟩,⟨Kd.R_alloc HO.out _⟩⟩
    case measure => omega
   ·have e1 : (x.f0 != no) = true := bne_iff_ne.mpr e
    rw [if_neg e] at hf
    obtain ⟨zs,hzs⟩ : ∃ zs,zs = ys ++ [x] := ⟨_,rfl⟩
    rw [← hzs] at hf
    have HF := aS hf
    have HZS := aS hzs
    have HYL := aS hyl
    clear hf e hzs
    obtain ⟨c0,c1⟩ := cells_2 D.out.h3
    obtain ⟨f0,f1⟩ := froz_2 D.out.h3
    have CA := cells_2a D.out.h3
    have FA := froz_2a D.out.h3
    have HOA := aS (Kd.R_alloc HO.out (.cells #[.int .i64 x.f0,.string x.f1] 63))
    have DD := aS (D.out.step (b_l (Below.refl _ _) (.cells #[.int .i64 x.f0,.string x.f1] 63)))
    have HSZ : Aside0 ((wr.alloc (.cells #[.int .i64 x.f0,.string x.f1] 63)).heap.size = wr.heap.size + 1) := ⟨size_alloc _ _⟩
    go_wp2_with (first | ((with_reducible refine gate_builtin (b := .append) (xs := #[.tmp 23,.tmp 25]) rfl ?_);at_builtin;(refine Kd.R_append k63 (w0 := w) w.heap.size rfl (.tmp 23) (.tmp 25) 40 63 (.agg #[(.int .i64 0),(.string ⟨#[]⟩)]) 24 rfl underlying40 info63 rfl (by decide) (by omega) (.slice Av ys.length cv) ys x [.int .i64 x.f0,.string x.f1] (fun k => k ≠ w.heap.size + 1 ∧ k ≠ w.heap.size + 1 + 1) (fun _ => False) rfl ?aX (k63_mkM _ _ _ x) (fun _ hk => hk.elim) ?aF HOA.out DD.out.below DD.out.below.size (by have := HYL.out;omega) ?_;(case aX => rw [HSZ.out];rfl);(case aF => intro k hk;have h3 := blk_lt DD.out.h3;exact ⟨by omega,by omega⟩);intro v1 w7 ho hb hg hat;rw [← HZS.out] at ho;obtain ⟨A1,cc1,hv1⟩ := Kd.R_slice ho;subst hv1;have D_ := aS (Box3.mk (blk_grown DD.out.h1 hg (Kd.R_ne HOA.out DD.out.h1 (by decide))) (blk_grown DD.out.h2 hg (Kd.R_ne HOA.out DD.out.h2 (by decide))) (blk_grown DD.out.h3 hg (Kd.R_ne HOA.out DD.out.h3 (by decide))) hb);have HO_ := aS ho;clear D HO HOA DD c0 c1 f0 f1 CA FA ho hb hg hat;have D := D_;have HO := HO_;clear D_ HO_;obtain ⟨c0,c1⟩ := cells_2 D.out.h3;obtain ⟨f0,f1⟩ := froz_2 D.out.h3)))
    obtain ⟨g,rfl⟩ : ∃ g,gk = g + 1 := ⟨gk - 1,by omega⟩
    go_roundg g
    case rel => exact ⟨i + 1,zs,_,rfl,by omega,by rw [HZS.out,List.length_append,List.length_singleton];omega,HF,⟨⟨far _ _ D.out.h1 (by show w.heap.size ≠ w.heap.size + 1 + 1;omega),far _ _ D.out.h2 (by show w.heap.size + 1 ≠ w.heap.size + 1 + 1;omega),blk_put D.out.h3 1 _ rfl,D.out.below.setCell (p := ⟨w.heap.size + 1 + 1,1,none⟩) (by show w.heap.size ≤ w.heap.size + 1 + 1;omega) _⟩⟩,⟨Kd.R_far HO.out (p := ⟨w.heap.size + 1 + 1,1,none⟩) (fun k hk => hk.2) _⟩⟩
    case measure => omega
  ·have e0 : decide ((i : Int) < xs.length) = false := d_F (by omega)
   have hf := HF.out
   rw [List.drop_of_length_le (by omega),withoutS,List.append_nil] at hf
   have HF := aS hf
   clear hf
   obtain ⟨c0,c1⟩ := cells_2 D.out.h3
   obtain ⟨b0,b1⟩ := cells_2 D.out.h2
   obtain ⟨f0,f1⟩ := froz_2 D.out.h2
   go_wp2
   refine bodyPost_ret (results_cell_row rfl _ _ (w.heap.size + 1) 42 _ (0,0) _ rfl (blk_put (blk_put D.out.h2 0 _ rfl) 1 _ rfl) hu42 rfl (by kernel_rfl)) rfl ?_
   have h2 := Kd.R_far (Kd.R_far HO.out (p := ⟨w.heap.size + 1,0,none⟩) (fun k hk => hk.1) (.string m)) (p := ⟨w.heap.size + 1,1,none⟩) (fun k hk => hk.1) (.slice Av ys.length cv)
   obtain ⟨_,h5,h6⟩ := Kd.R_reads' h2
   rw [← HF.out]
   exact ⟨⟨Av,cv,rfl,h5,h6⟩,(D.out.below.setCell (p := ⟨w.heap.size + 1,0,none⟩) (Nat.le_succ _) _).setCell (p := ⟨w.heap.size + 1,1,none⟩) (Nat.le_succ _) _⟩
def bcdLoop (b : ByteArray) (n : Int) : Nat → Nat → List Int → List Int × Int
 | 0,_,xs => (xs,0)
 | d + 1,i,xs => if i = 0 ∧ n % 2 ≠ 0 ∧ bt b i / 16 ≠ 0 then ([],4) else
   if bt b i / 16 > 9 ∨ bt b i % 16 > 9 then ([],3) else
   bcdLoop b n d (i + 1) (xs ++ [48 + bt b i / 16,48 + bt b i % 16])
def bcdG (b : ByteArray) (n : Int) : ByteArray × Int :=
 if (b.size : Int) < bcdSize n then (⟨#[]⟩,2) else
 if (bcdLoop b n (bcdSize n).toNat 0 []).2 = 0 then (strOfNums ((bcdLoop b n (bcdSize n).toNat 0 []).1.drop (n % 2).toNat),0) else (⟨#[]⟩,(bcdLoop b n (bcdSize n).toNat 0 []).2)
set_option maxHeartbeats 4000000 in
theorem bcd_Get.at (b : ByteArray) (n : Int) (w : World) (hn : 0 ≤ n ∧ n ≤ 999) (hb : b.size ≤ 1000000) :
  Calls prog 79 #[.string b,.int .i64 n] w fun e w' => (∃ p : Int,e = .returned (.tuple #[.string (bcdG b n).1,.int .i64 (bcdG b n).2,.int .i64 p])) ∧ Below w.heap.size w w' := by
 have d0 : decide (n < 0) = false := d_F (by omega)
 have d1 : decide (n > 999) = false := d_F (by omega)
 have d2 : decide (999 < n) = false := d_F (by omega)
 have t2 : Int.tmod n 2 = n % 2 := Int.tmod_eq_emod_of_nonneg (by omega)
 have hm : ∃ m : Nat,bcdSize n = (m : Int) ∧ m ≤ 500 ∧ n ≤ 2 * m := by
  unfold bcdSize
  split
  ·exact ⟨0,rfl,by omega,by omega⟩
  ·exact ⟨(n / 2 + n % 2).toNat,by omega,by omega,by omega⟩
 obtain ⟨m,hm,hm5,hmn⟩ := hm
 by_cases hc : (b.size : Int) < m
 ·have HG : Aside0 (bcdG b n = (⟨#[]⟩,2)) := ⟨by unfold bcdG;rw [hm,if_pos hc]⟩
  have c0 : decide (b.size < m) = true := d_T (by omega)
  clear hc
  go_enter func79,ntmps79
  go_wp2_with (first | (go_at_call 78;refine (bcd_Size.at _ _ (by omega)).mono ?_;rintro e w1 ⟨rfl,rfl⟩;rw [hm]))
  go_ret3
  exact ⟨⟨_,by rw [HG.out];rfl⟩,Below.refl _ _⟩
 have c0 : decide (b.size < m) = false := d_F (by omega)
 have HG : Aside0 (bcdG b n = if (bcdLoop b n m 0 []).2 = 0 then (strOfNums ((bcdLoop b n m 0 []).1.drop (n % 2).toNat),0) else (⟨#[]⟩,(bcdLoop b n m 0 []).2)) := ⟨by unfold bcdG;rw [hm,if_neg hc];rfl⟩
 have HMB : Aside0 (m ≤ b.size) := ⟨by omega⟩
 have HMN := aS hmn
 clear hc hmn
 go_enter func79,ntmps79
 go_wp2_with (first | (go_at_call 78;refine (bcd_Size.at _ _ (by omega)).mono ?_;rintro e w1 ⟨rfl,hw⟩;obtain rfl := hw.symm;rw [hm]) | ((with_reducible refine gate_dst (N := 28) rfl ?_);refine make8 (Below.refl _ _) rfl (N := 28) rfl _ _ rfl (n + 1).toNat rfl ?hy (by omega) ?_;(case hy => go_simp;first | done | omega | (unfold wrap64;omega));intro v1 w1 HO))
 have HO := aS HO
 go_loopg [7,31] m (fun g v7 v31 w' => ∃ (xs : List Int) (i : Nat),v31 = .int .i64 i ∧ i + g = m ∧ Aside0 (bcdLoop b n g i xs = bcdLoop b n m 0 []) ∧ Aside0 (xs.length = 2 * i) ∧ Aside0 (Own8 w w' v7 xs))
 case atStart => exact ⟨[],0,rfl,Nat.zero_add _,⟨rfl⟩,⟨rfl⟩,HO⟩
 case round =>
  clear HO
  obtain ⟨xs,i,rfl,hi,HF,HL,HO⟩ := hrel
  by_cases h : i < m
  ·obtain ⟨g,rfl⟩ : ∃ g,gk = g + 1 := ⟨gk - 1,by omega⟩
   have c1 : decide ((i : Int) < m) = true := d_T (by omega)
   have p : (0 ≤ (i : Int)) = True := eq_true (by omega)
   have hib : i < b.size := by have := HMB.out;omega
   have q : ((i : Int) < b.size) = True := eq_true (by omega)
   have hf := HF.out
   clear HF
   rw [bcdLoop,bt_get hib] at hf
   have hr := UInt8.toNat_lt (b[i]'hib)
   by_cases e1 : i = 0 ∧ n % 2 ≠ 0 ∧ ((b[i]'hib).toNat : Int) / 16 ≠ 0
   ·rw [if_pos e1] at hf
    have HG2 : Aside0 (bcdG b n = (⟨#[]⟩,4)) := ⟨by rw [HG.out,← hf];rfl⟩
    obtain ⟨e0,e2,e3⟩ := e1
    have f1 : ((i : Int) == 0) = true := beq_iff_eq.mpr (by omega)
    have f1' : (i == 0) = true := beq_iff_eq.mpr e0
    have f2 : (n % 2 != 0) = true := bne_iff_ne.mpr e2
    have f3 : (((b[i]'hib).toNat : Int) / 16 != 0) = true := bne_iff_ne.mpr e3
    clear hf HG e0 e2 e3 hm
    go_wp2
    go_quiet (fail)
    go_wp2
    go_ret3
    exact ⟨⟨_,by rw [HG2.out];rfl⟩,(HO.out.drewN _).below⟩
   ·rw [if_neg e1] at hf
    have hv : i ≠ 0 ∨ n % 2 = 0 ∨ ((b[i]'hib).toNat : Int) / 16 = 0 := by omega
    clear e1
    have hu : ((i : Int) == 0) = false ∧ (i == 0) = false ∨ (n % 2 != 0) = false ∧ (i == 0) = true ∧ ((i : Int) == 0) = true ∨ (((b[i]'hib).toNat : Int) / 16 != 0) = false ∧ (i == 0) = true ∧ ((i : Int) == 0) = true ∧ (n % 2 != 0) = true := by
     by_cases k1 : i = 0
     ·by_cases k2 : n % 2 = 0
      ·exact .inr (.inl ⟨bne_eq_false_iff_eq.mpr k2,beq_iff_eq.mpr k1,beq_iff_eq.mpr (by omega)⟩)
      ·exact .inr (.inr ⟨bne_eq_false_iff_eq.mpr (by omega),beq_iff_eq.mpr k1,beq_iff_eq.mpr (by omega),bne_iff_ne.mpr k2⟩)
     ·exact .inl ⟨beq_eq_false_iff_ne.mpr (by omega),beq_eq_false_iff_ne.mpr k1⟩
    clear hv
    by_cases g0 : ((b[i]'hib).toNat : Int) / 16 > 9 ∨ ((b[i]'hib).toNat : Int) % 16 > 9
    ·rw [if_pos g0] at hf
     have HG2 : Aside0 (bcdG b n = (⟨#[]⟩,3)) := ⟨by rw [HG.out,← hf];rfl⟩
     have hu2 : decide (9 < ((b[i]'hib).toNat : Int) / 16) = true ∨ decide (9 < ((b[i]'hib).toNat : Int) / 16) = false ∧ decide (9 < ((b[i]'hib).toNat : Int) % 16) = true := by
      by_cases k : 9 < ((b[i]'hib).toNat : Int) / 16
      ·exact .inl (d_T k)
      ·exact .inr ⟨d_F k,d_T (by omega)⟩
     clear hf HG hm g0
     rcases hu with ⟨f1,f2⟩ | ⟨f1,f2,f3⟩ | ⟨f1,f2,f3,f4⟩ <;> rcases hu2 with f5 | ⟨f5,f6⟩
     all_goals
      go_wp2
      go_quiet (fail)
      go_wp2
      go_ret3
      exact ⟨⟨_,by rw [HG2.out];rfl⟩,(HO.out.drewN _).below⟩
    ·rw [if_neg g0] at hf
     have HF := aS hf
     have f5 : decide (9 < ((b[i]'hib).toNat : Int) / 16) = false := d_F (by omega)
     have f6 : decide (9 < ((b[i]'hib).toNat : Int) % 16) = false := d_F (by omega)
     clear hf hm g0
     rcases hu with ⟨f1,f2⟩ | ⟨f1,f2,f3⟩ | ⟨f1,f2,f3,f4⟩
     all_goals
      go_wp2
      go_quiet (fail)
      go_wp2_with (first | ((with_reducible refine gate_builtin (b := .append) (xs := #[.tmp 62,.tmp 67]) rfl ?_);refine app8two (HO.out.drewN _) rfl (.tmp 62) (.tmp 67) _ _ rfl rfl rfl (by have := HL.out;omega) ?_;intro v2 w2 HO2;have HO3 := aS HO2;clear HO2))
      go_roundg g
      case rel => exact ⟨_,i + 1,rfl,by omega,HF,⟨by rw [List.length_append,HL.out];rfl⟩,HO3⟩
      case measure => omega
  ·have c1 : decide ((i : Int) < m) = false := d_F (by omega)
   obtain rfl : gk = 0 := by omega
   have hf := HF.out
   rw [bcdLoop] at hf
   have HG2 : Aside0 (bcdG b n = (strOfNums (xs.drop (n % 2).toNat),0)) := ⟨by rw [HG.out,← hf];rfl⟩
   have p2 : (0 ≤ n % 2) = True := eq_true (by omega)
   have q2 : (n % 2 ≤ (xs.length : Int)) = True := eq_true (by have := HL.out;have := HMN.out;omega)
   obtain ⟨A1,A2,c2,n3,c3,hv,hcut,hcv⟩ := HO.out.cut (n % 2) (of_eq_true p2) (of_eq_true q2)
   subst hv
   clear hf HF HG hm hi
   go_wp2
   go_ret3
   exact ⟨⟨_,by rw [HG2.out];rfl⟩,HO.out.below⟩
section
def Fr (k : Nat) (dst : Nat → Tmp) (a0 a : Act) : Prop := a.tmps.size = a0.tmps.size ∧ a.defers = a0.defers ∧ ∀ t,(∀ j,j < k → t ≠ dst j) → a.tmps[t]? = a0.tmps[t]?
theorem getD_set_self {listed : Array Bool} {i : Nat} (h : i < listed.size) : (listed.setIfInBounds i true).getD i false = true := by
 simp [h]
theorem count_set {listed : Array Bool} {i : Nat} (h : i < listed.size) (h0 : listed.getD i true = false) : (listed.setIfInBounds i true).toList.count false + 1 = listed.toList.count false := by
 have h1 : listed.toList[i] = false := by simpa [h] using h0
 rw [Array.toList_setIfInBounds,List.count_set (by simpa using h)]
 have h2 : 0 < listed.toList.count false := List.count_pos_iff.2 (by rw [← h1];exact List.getElem_mem _)
 have e1 : (listed.toList[i] == false) = true := by rw [h1];rfl
 have e2 : (true == false) = false := rfl
 rw [e1,e2]
 simp only [if_true,Bool.false_eq_true,if_false,Nat.add_zero]
 omega
section
variable {P : Program} {md : Region.Mode} {ops : Array Oper} {Q : Exit → Act → World → Prop}
theorem wpAny_grow (k : Nat) (dst : Nat → Tmp) (post : Nat → Value → World → Prop) (R : Nat → Nat → Value → Value → Prop) (a0 : Act) (w0 : World) (hk : k < ops.size)
  (hsym : ∀ i j u v,R i j u v → R j i v u) (hst : ∀ i u w w',post i u w → Below w.heap.size w w' → post i u w')
  (hlow : ∀ i o,i < k → ops[i]? = some o → o.guard = none ∧ o.dst = some (dst i) ∧ ∀ e ∈ o.after,Region.binds md e = true → e.on < i)
  (hgrow : ∀ i o,i < k → ops[i]? = some o → ∀ (a : Act) (w : World),Below w0.heap.size w0 w → Fr k dst a0 a → (∀ e ∈ o.after,Region.binds md e = true → post e.on (a.eval (.tmp (dst e.on))) w) → ∀ K' : Act → World → Prop,(∀ u w',Below w.heap.size w w' → post i u w' → (∀ j v,j < k → j ≠ i → post j v w → R i j u v) → K' (a.put (some (dst i)) u) w') → o.wp P a w K' Q)
  (hinj : ∀ i j,i < k → j < k → dst i = dst j → i = j) (hsz : ∀ i,i < k → dst i < a0.tmps.size)
  (hlate : ∀ listed : Array Bool,(∀ i o,i < k → ops[i]? = some o → listed.getD i false = true → ∀ e ∈ o.after,Region.binds md e = true → listed.getD e.on false = true) → ∀ i,k ≤ i → i ∈ Region.ready md ops listed → (∀ j,k ≤ j → listed.getD j false = false) → ∀ j,j < k → listed.getD j false = true)
  (htail : ∀ listed a w fuel,listed.size = ops.size → (∀ j,k ≤ j → listed.getD j false = false) → (∀ j,j < k → listed.getD j false = true) → listed.toList.count false ≤ fuel → Fr k dst a0 a → Below w0.heap.size w0 w → (∀ i,i < k → post i (a.eval (.tmp (dst i))) w) → (∀ i j,i < k → j < k → j ≠ i → R i j (a.eval (.tmp (dst i))) (a.eval (.tmp (dst j)))) → wpAny P md ops Q fuel listed a w) :
  ∀ fuel listed a w,listed.size = ops.size → (∀ j,k ≤ j → listed.getD j false = false) → (∀ i o,i < k → ops[i]? = some o → listed.getD i false = true → ∀ e ∈ o.after,Region.binds md e = true → listed.getD e.on false = true) →
   listed.toList.count false ≤ fuel → Fr k dst a0 a → Below w0.heap.size w0 w → (∀ i,i < k → listed.getD i false = true → post i (a.eval (.tmp (dst i))) w) → (∀ i j,i < k → j < k → j ≠ i → listed.getD i false = true → listed.getD j false = true → R i j (a.eval (.tmp (dst i))) (a.eval (.tmp (dst j)))) → wpAny P md ops Q fuel listed a w := by
 intro fuel
 induction fuel with
 | zero =>
  intro listed a w hs hl hc hn hf hb hp hrr
  have h1 := hl k (Nat.le_refl _)
  have h2 : 0 < listed.toList.count false := List.count_pos_iff.2 (by
   have h3 : k < listed.size := by omega
   have h4 : listed[k] = false := by simpa [h3] using h1
   rw [← h4]
   exact Array.getElem_mem_toList h3)
  omega
 | succ fuel ih =>
  intro listed a w hs hl hc hn hf hb hp hrr
  by_cases hall : ∀ j,j < k → listed.getD j false = true
  ·exact htail listed a w (fuel + 1) hs hl hall hn hf hb (fun i hi => hp i hi (hall i hi)) (fun i j hi hj hij => hrr i j hi hj hij (hall i hi) (hall j hj))
  refine ⟨fun h0 => ?_,fun i hi => ?_⟩
  ·exfalso
   have key : ∀ n j,j < n → j < k → listed.getD j false = true := by
    intro n
    induction n with
    | zero => intro j h;omega
    | succ n ihn =>
     intro j hj hjk
     by_cases hj' : j < n
     ·exact ihn j hj' hjk
     obtain rfl : j = n := by omega
     cases hv : listed.getD j false with
     | true => rfl
     | false =>
      exfalso
      have hjs : j < ops.size := by omega
      have ho : ops[j]? = some ops[j] := Array.getElem?_eq_getElem hjs
      have hm : j ∈ Region.ready md ops listed := mem_ready.2 ⟨by
       have : j < listed.size := by omega
       simpa [this] using hv,ops[j],ho,fun e he hbd => by
       have := (hlow j _ hjk ho).2.2 e he hbd
       exact ihn e.on this (by omega)⟩
      rw [h0] at hm
      cases hm
   exact hall (fun j hj => key k j hj hj)
  ·have hik : i < k := by
    by_cases h : i < k
    ·exact h
    ·exact absurd (hlate listed hc i (by omega) hi hl) hall
   obtain ⟨h0,o,ho,hpre⟩ := mem_ready.1 hi
   have his : i < listed.size := by rw [hs];exact (Array.getElem?_eq_some_iff.1 ho).1
   obtain ⟨hg,hd,hlo⟩ := hlow i o hik ho
   have hw : wpOp P ops Q i (wpAny P md ops Q fuel (listed.setIfInBounds i true)) a w := by
    unfold wpOp
    rw [ho]
    simp only [Region.wanted,hg,if_true]
    refine .inl (hgrow i o hik ho a w hb hf (fun e he hbd => hp e.on (by have := hlo e he hbd;omega) (hpre e he hbd)) _ (fun u w' hbw hpo hR => ?_))
    have ev : ∀ j,j < k → i ≠ j → (a.put (some (dst i)) u).eval (.tmp (dst j)) = a.eval (.tmp (dst j)) := fun j hj hji => by
     have h1 : dst i ≠ dst j := fun h => hji (hinj i j hik hj h)
     simp [Act.put,Act.eval,Array.getElem?_setIfInBounds_ne h1]
    have ei : (a.put (some (dst i)) u).eval (.tmp (dst i)) = u := by
     have h1 : dst i < a.tmps.size := by rw [hf.1];exact hsz i hik
     simp [Act.put,Act.eval,h1]
    refine ih _ _ _ (by simpa using hs) (fun j hj => ?_) (fun j oj hj hoj hjl e he hbd => ?_) (by have := count_set his h0;omega) ?_ (hb.trans ⟨hbw.os,hbw.tape,hbw.output,hbw.size,fun q hq => hbw.block q (Nat.lt_of_lt_of_le hq hb.size)⟩) (fun j hj hjl => ?_) (fun j j' hj hj' hjj hjl hjl' => ?_)
    ·rw [getD_set_ne false (by omega)];exact hl j hj
    ·by_cases hji : i = j
     ·subst hji
      rw [ho] at hoj
      cases hoj
      exact getD_set_true (hpre e he hbd)
     ·rw [getD_set_ne false hji] at hjl
      exact getD_set_true (hc j oj hj hoj hjl e he hbd)
    ·obtain ⟨f1,f2,f3⟩ := hf
     refine ⟨by simpa [Act.put] using f1,f2,fun t ht => ?_⟩
     show (a.tmps.setIfInBounds (dst i) u)[t]? = _
     rw [Array.getElem?_setIfInBounds_ne (fun h => ht i hik h.symm)]
     exact f3 t ht
    ·by_cases hji : i = j
     ·subst hji
      rw [ei]
      exact hpo
     ·rw [getD_set_ne false hji] at hjl
      rw [ev j hj hji]
      exact hst _ _ _ _ (hp j hj hjl) hbw
    ·by_cases hji : i = j
     ·subst hji
      rw [ei,ev j' hj' (fun h => hjj h.symm)]
      rw [getD_set_ne false (fun h => hjj h.symm)] at hjl'
      exact hR j' _ hj' hjj (hp j' hj' hjl')
     ·by_cases hji' : i = j'
      ·subst hji'
       rw [ei,ev j hj hji]
       rw [getD_set_ne false hji] at hjl
       exact hsym _ _ _ _ (hR j _ hj (fun h => hji h.symm) (hp j hj hjl))
      ·rw [ev j hj hji,ev j' hj' hji']
       rw [getD_set_ne false hji] at hjl
       rw [getD_set_ne false hji'] at hjl'
       exact hrr j j' hj hj' hjj hjl hjl'
   exact hw
end
def putL : Act → List (Tmp × Value) → Act
 | a,[] => a
 | a,(d,v) :: l => putL (a.put (some d) v) l
theorem putL_eq (ds : List Tmp) : ∀ (a0 a : Act),a.tmps.size = a0.tmps.size → a.defers = a0.defers → (∀ t,t ∉ ds → a.tmps[t]? = a0.tmps[t]?) → putL a0 (ds.map fun d => (d,a.eval (.tmp d))) = a := by
 induction ds with
 | nil =>
  intro a0 a h1 h2 h3
  cases a0;cases a
  simp only [List.map_nil,putL]
  cases h2
  congr 1
  exact (Array.ext_getElem? (fun i => h3 i (by simp))).symm
 | cons d ds ih =>
  intro a0 a h1 h2 h3
  simp only [List.map_cons,putL]
  refine ih _ a (by simpa [Act.put] using h1) h2 (fun t ht => ?_)
  by_cases e : t = d
  ·subst e
   show _ = (a0.tmps.setIfInBounds t _)[t]?
   rw [Array.getElem?_setIfInBounds_self]
   by_cases hl : t < a0.tmps.size
   ·rw [if_pos hl]
    have hl' : t < a.tmps.size := by rw [h1];exact hl
    simp [Act.eval,hl']
   ·rw [if_neg hl]
    exact Array.getElem?_eq_none (by rw [h1];exact Nat.le_of_not_lt hl)
  ·show _ = (a0.tmps.setIfInBounds d _)[t]?
   rw [Array.getElem?_setIfInBounds_ne (fun h => e h.symm)]
   exact h3 t (by simp [e,ht])
theorem Fr.eq {k : Nat} {dst : Nat → Tmp} {a0 a : Act} (h : Fr k dst a0 a) : putL a0 ((List.range k).map fun i => (dst i,a.eval (.tmp (dst i)))) = a := by
 have := putL_eq ((List.range k).map dst) a0 a h.1 h.2.1 (fun t ht => h.2.2 t (fun j hj e => ht (List.mem_map.2 ⟨j,List.mem_range.2 hj,e.symm⟩)))
 rw [List.map_map] at this
 exact this
section
variable {P : Program} {md : Region.Mode} {ops : Array Oper} {Q : Exit → Act → World → Prop}
theorem wpAny_one {listed : Array Bool} {a : Act} {w : World} {fuel i : Nat} {o : Oper} (hr : Region.ready md ops listed = [i]) (ho : ops[i]? = some o) (hg : o.guard = none) (h : o.wp P a w (wpAny P md ops Q fuel (listed.setIfInBounds i true)) Q) : wpAny P md ops Q (fuel + 1) listed a w := by
 refine ⟨fun h0 => ?_,fun j hj => ?_⟩
 ·rw [hr] at h0;cases h0
 ·rw [hr] at hj
  obtain rfl := List.mem_singleton.1 hj
  unfold wpOp
  rw [ho]
  simp only [Region.wanted,hg,if_true]
  exact .inl h
theorem wpAny_none {listed : Array Bool} {a : Act} {w : World} (hr : Region.ready md ops listed = []) (h : Q .normal a w) : ∀ fuel,wpAny P md ops Q fuel listed a w
 | 0 => ⟨hr,h⟩
 | _ + 1 => ⟨fun _ => h,fun j hj => by rw [hr] at hj;cases hj⟩
end
end
end Go.Proofs.YtgbmnpgaddhfpaaGreatDoor.T
namespace Go.Proofs.YtgbmnpgaddhfpaaGreatDoor.T
open Go.RowKit Go.Proofs.YtgbmnpgaddhfpaaGreatDoorW.PrintWords Go.Proofs.YtgbmnpgaddhfpaaGreatDoorW.PrintLast Go.Proofs.YtgbmnpgaddhfpaaGreatDoorW.PrintMore
attribute [local go_sem] max2_int min2_int max_two min_two
open Tryz
set_option maxRecDepth 100000
def tlvErr (s : ByteArray) : Int := (pg s (s.size + 1) 0 []).2.1
def specValue (x : S87) (t : ByteArray) : Int :=
 if specCheck x ≠ 0 then 1 else if (t.size : Int) < x.f3 ∨ (t.size : Int) > x.f4 then 5 else if firstNot x.f1 t.data.toList 0 ≥ 0 then 6 else if x.f1 = 6 ∧ tlvErr t ≠ 0 then 13 else 0
set_option maxHeartbeats 2000000 in
theorem spec_Value.at (x : S87) (t : ByteArray) (w : World) (ht : t.size ≤ 1000000) :
  Calls prog 90 #[v87 x,.string t] w fun e w' => e = .returned (.int .i64 (specValue x t)) ∧ Below w.heap.size w w' := by
 have hu87 := underlying87
 have ht0 : t.size ≤ 4611686018427387904 := by omega
 unfold v87
 go_enter func90,ntmps90
 go_wp2_with (first | (go_at_call 77;refine (spec_Check.at x _).mono ?_;rintro e w1 ⟨rfl,hb⟩;have hc := below_cells hb) | (go_at_call 140;refine (class_First.at _ _ _ ht0).mono ?_;rintro e w2 ⟨rfl,rfl⟩) | (go_at_call 141;refine (tlv_Get.at _ _ ht).mono ?_;rintro e w2 ⟨⟨v0,rfl⟩,hb2⟩))
 all_goals go_ret
 all_goals refine ⟨ret_int ?_,by first | exact b_s (bO _) hb | exact b_s (b_s (bO _) hb) hb2⟩
 all_goals (clear hu87;try clear hb2;clear hb)
 all_goals try simp only [beq_eq_false_iff_ne,beq_iff_eq,bne_iff_ne,bne_eq_false_iff_eq,ne_eq] at *
 all_goals (unfold specValue tlvErr;(repeat' split) <;> first | rfl | omega)
def widerC (a b : Int) : Bool := decide (1 ≤ a ∧ a ≤ 6) && (decide (1 ≤ b ∧ b ≤ 6) && (Go.bits .andNot .i64 (setsV b) (setsV a) == 0))
theorem class_Wider.at (a b : Int) (w : World) : Calls prog 190 #[.int .i64 a,.int .i64 b] w fun e w' => e = .returned (.bool (widerC a b)) ∧ w' = w := by
 have HW : Aside0 (widerC a b = (decide (1 ≤ a ∧ a ≤ 6) && (decide (1 ≤ b ∧ b ≤ 6) && (Go.bits .andNot .i64 (setsV b) (setsV a) == 0)))) := ⟨rfl⟩
 by_cases h1 : 1 ≤ a ∧ a ≤ 6
 ·by_cases h2 : 1 ≤ b ∧ b ≤ 6
  ·have HW2 : Aside0 (widerC a b = (Go.bits .andNot .i64 (setsV b) (setsV a) == 0)) := ⟨by rw [HW.out,d_T h1,d_T h2];rfl⟩
   clear HW
   go_enter func190,ntmps190
   go_wp2_with (first | (go_at_call 133;refine (class_Known.at _ _).mono ?_;rintro e w1 ⟨rfl,rfl⟩) | (go_at_call 166;refine (class_sets.at _ _).mono ?_;rintro e w1 ⟨rfl,rfl⟩))
   go_ret
   exact ⟨by rw [HW2.out];rfl,rfl⟩
  ·have HW2 : Aside0 (widerC a b = false) := ⟨by rw [HW.out,d_F h2,Bool.false_and,Bool.and_false]⟩
   clear HW
   go_enter func190,ntmps190
   go_wp2_with (first | (go_at_call 133;refine (class_Known.at _ _).mono ?_;rintro e w1 ⟨rfl,rfl⟩) | (go_at_call 166;refine (class_sets.at _ _).mono ?_;rintro e w1 ⟨rfl,rfl⟩))
   all_goals go_ret
   all_goals exact ⟨by rw [HW2.out];rfl,rfl⟩
 ·have HW2 : Aside0 (widerC a b = false) := ⟨by rw [HW.out,d_F h1,Bool.false_and]⟩
  clear HW
  go_enter func190,ntmps190
  go_wp2_with (first | (go_at_call 133;refine (class_Known.at _ _).mono ?_;rintro e w1 ⟨rfl,rfl⟩) | (go_at_call 166;refine (class_sets.at _ _).mono ?_;rintro e w1 ⟨rfl,rfl⟩))
  all_goals go_ret
  all_goals exact ⟨by rw [HW2.out];rfl,rfl⟩
def classesOk (a b : Int) : Bool := if a = 5 then true else if a = 6 ∨ b = 6 then decide (a = b) else widerC a b
theorem spec_classes.at (a b : Int) (w : World) : Calls prog 170 #[.int .i64 a,.int .i64 b] w fun e w' => e = .returned (.bool (classesOk a b)) ∧ w' = w := by
 go_enter func170,ntmps170
 go_wp2_with (first | (go_at_call 190;refine (class_Wider.at _ _ _).mono ?_;rintro e w1 ⟨rfl,rfl⟩))
 all_goals go_ret
 all_goals refine ⟨ret_bool ?_,rfl⟩
 all_goals try simp only [beq_eq_false_iff_ne,beq_iff_eq,ne_eq] at *
 all_goals (unfold classesOk;(repeat' split) <;> first | rfl | (exfalso;omega) | (rename_i h _ _ _;rw [h];rfl) | (simp_all;done))
def widerS (x y : S87) : Bool := decide (specCheck x = 0) && (decide (specCheck y = 0) && (decide (x.f3 ≤ y.f3) && (decide (x.f4 ≥ y.f4) && classesOk x.f1 y.f1)))
end Go.Proofs.YtgbmnpgaddhfpaaGreatDoor.T
namespace Go.Proofs.YtgbmnpgaddhfpaaGreatDoor.T
open Go.RowKit Go.Proofs.YtgbmnpgaddhfpaaGreatDoorW.PrintWords Go.Proofs.YtgbmnpgaddhfpaaGreatDoorW.PrintLast Go.Proofs.YtgbmnpgaddhfpaaGreatDoorW.PrintMore
attribute [local go_sem] max2_int min2_int max_two min_two
open Go.Proofs.YtgbmnpgaddhfpaaGreatDoor.G
open Tryz
set_option maxRecDepth 100000
def codeS (e : Int) : List S129 → ByteArray × Bool
 | [] => (⟨#[]⟩,false)
 | p :: ps => if p.f0 = e then (p.f1,true) else codeS e ps
def rejCode (cs : List S129) (e : Int) : ByteArray := if (codeS e cs).2 = true then (codeS e cs).1 else (codeS 0 cs).1
theorem drop129 {l : List S129} {i : Nat} (h : i < l.length) : l.drop i = rd_T129 l i :: l.drop (i + 1) := by
 rw [List.drop_eq_getElem_cons h]
 simp [rd_T129,List.getD_eq_getElem?_getD,List.getElem?_eq_getElem h]
theorem at129 {A : Option Addr} {l : List S129} {w wr : World} (HR : Kd.C k129 w A l.length l) (HB : Below w.heap.size w wr) (i : Nat) (h : i < l.length) : ∃ ad,A = some ad ∧ wr.cell? (ad.add (i * 2)) = some (.int .i64 (rd_T129 l (i : Int)).f0)
  ∧ wr.cell? ⟨(ad.add (i * 2)).block,(ad.add (i * 2)).off + 1,none⟩ = some (.string (rd_T129 l (i : Int)).f1) := by
 obtain ⟨ad,rfl,h0,h1⟩ := at_T129 HR i (by omega) (by omega)
 simp only [Int.toNat_natCast] at h0 h1
 have up : ∀ {a : Addr} {v : Value},w.cell? a = some v → wr.cell? a = some v := fun hx => (HB.cell (World.block_lt_of_cell? w _ hx)).trans hx
 exact ⟨ad,rfl,up h0,up h1⟩
set_option maxHeartbeats 2000000 in
theorem reject_Code.at (s0 s1 s2 s3 s4 : Value) (st ver : Int) (A : Option Addr) (c : Nat) (cs : List S129) (e : Int) (w : World) (hl : cs.length ≤ 4611686018427387904) (hr : Kd.C k129 w A cs.length cs) (hc : cs.length ≤ c) (hs : (∃ a b c,s2 = .slice a b c) ∧ (∃ a b c,s3 = .slice a b c) ∧ (∃ a b c,s4 = .slice a b c) ∧ (∃ a b c,s1 = .slice a b c)) :
  Calls prog 19 #[.agg #[.int .i64 st,.int .i64 ver,s1,s2,s3,s4,.slice A cs.length c],.int .i64 e] w fun en w' => en = .returned (.string (rejCode cs e)) ∧ Below w.heap.size w w' := by
 have hu32 := underlying32
 have hu129 := underlying129
 have HR := aS hr
 have HC := aS hc
 obtain ⟨⟨a2,b2,c2,rfl⟩,⟨a3,b3,c3,rfl⟩,⟨a4,b4,c4,rfl⟩,⟨a1,b1,c1,rfl⟩⟩ := hs
 clear hr hc
 go_enter func19,ntmps19
 go_wp2
 have D := aS (Box2.start w (.cells #[.int .i64 st,.int .i64 ver,.slice a1 b1 c1,.slice a2 b2 c2,.slice a3 b3 c3,.slice a4 b4 c4,.slice A cs.length c] 32) (.cells #[.int .i64 e,.int .i64 0] 43))
 go_loopg [12] 2 (fun g v12 w' => ∃ j : Nat,v12 = .int .i64 j ∧ j + g = 2 ∧ Aside0 ((j = 1 → (codeS e cs).2 = false) ∧ (j = 2 → (codeS e cs).2 = false ∧ (codeS 0 cs).2 = false ∧ (codeS 0 cs).1 = ⟨#[]⟩)) ∧ Aside0 (Box2 w w' (.cells #[.int .i64 st,.int .i64 ver,.slice a1 b1 c1,.slice a2 b2 c2,.slice a3 b3 c3,.slice a4 b4 c4,.slice A cs.length c] 32) (.cells #[.int .i64 e,.int .i64 0] 43)))
 case atStart => exact ⟨0,rfl,rfl,⟨⟨fun h => absurd h (by decide),fun h => absurd h (by decide)⟩⟩,D⟩
 case round =>
  clear D
  obtain ⟨j,rfl,hj,HJ,D⟩ := hrel
  have k6 := blk_cell D.out.h1 6
  obtain ⟨d0,d1⟩ := cells_2 D.out.h2
  rcases (show j = 0 ∨ j = 1 ∨ j = 2 by omega) with rfl | rfl | rfl
  ·obtain rfl : gk = 2 := by omega
   go_wp2
   go_loopg [19] cs.length (fun g v19 w' => ∃ i : Nat,v19 = .int .i64 i ∧ i + g = cs.length ∧ Aside0 (codeS e (cs.drop i) = codeS e cs) ∧ Aside0 (Box2 w w' (.cells #[.int .i64 st,.int .i64 ver,.slice a1 b1 c1,.slice a2 b2 c2,.slice a3 b3 c3,.slice a4 b4 c4,.slice A cs.length c] 32) (.cells #[.int .i64 e,.int .i64 0] 43)))
   case atStart => exact ⟨0,rfl,Nat.zero_add _,⟨rfl⟩,D⟩
   case round =>
    clear D k6 d0 d1
    obtain ⟨i,rfl,hi2,HF,D⟩ := hrel
    by_cases h2 : i < cs.length
    ·have e0 : decide ((i : Int) < cs.length) = true := d_T (by omega)
     obtain ⟨ad,rfl,hx0,hx1⟩ := at129 HR.out D.out.below i h2
     have q0 : (0 ≤ (i : Int)) = True := eq_true (by omega)
     have q1 : ((i : Int) < cs.length) = True := eq_true (by omega)
     have hf := HF.out
     rw [drop129 h2,codeS] at hf
     clear HF
     generalize rd_T129 cs (i : Int) = x at *
     by_cases ee : x.f0 = e
     ·have e1 : (x.f0 == e) = true := beq_iff_eq.mpr ee
      rw [if_pos ee] at hf
      have HF := aS hf
      clear hf ee
      go_wp2
      go_ret
      exact ⟨by rw [rejCode,← HF.out];rfl,b_l D.out.below _⟩
     ·have e1 : (x.f0 == e) = false := beq_eq_false_iff_ne.mpr ee
      rw [if_neg ee] at hf
      have HF := aS hf
      clear hf ee
      go_wp2
      obtain ⟨g2,rfl⟩ : ∃ g2,gk = g2 + 1 := ⟨gk - 1,by omega⟩
      go_roundg g2
      case rel => exact ⟨i + 1,rfl,by omega,HF,⟨D.out.step (bO _)⟩⟩
      case measure => omega
    ·have e0 : decide ((i : Int) < cs.length) = false := d_F (by omega)
     have hf := HF.out
     rw [List.drop_of_length_le (by omega),codeS] at hf
     have HF2 := aS hf
     clear hf HF
     go_wp2
     go_roundg 1
     case rel => exact ⟨1,rfl,by omega,⟨⟨fun _ => by rw [← HF2.out],fun h => absurd h (by decide)⟩⟩,D⟩
     case measure => omega
  ·obtain rfl : gk = 1 := by omega
   have hje := HJ.out.1 rfl
   have HJE := aS hje
   clear hje
   go_wp2
   go_loopg [19] cs.length (fun g v19 w' => ∃ i : Nat,v19 = .int .i64 i ∧ i + g = cs.length ∧ Aside0 (codeS 0 (cs.drop i) = codeS 0 cs) ∧ Aside0 (Box2 w w' (.cells #[.int .i64 st,.int .i64 ver,.slice a1 b1 c1,.slice a2 b2 c2,.slice a3 b3 c3,.slice a4 b4 c4,.slice A cs.length c] 32) (.cells #[.int .i64 e,.int .i64 0] 43)))
   case atStart => exact ⟨0,rfl,Nat.zero_add _,⟨rfl⟩,D⟩
   case round =>
    clear D k6 d0 d1
    obtain ⟨i,rfl,hi2,HF,D⟩ := hrel
    by_cases h2 : i < cs.length
    ·have e0 : decide ((i : Int) < cs.length) = true := d_T (by omega)
     obtain ⟨ad,rfl,hx0,hx1⟩ := at129 HR.out D.out.below i h2
     have q0 : (0 ≤ (i : Int)) = True := eq_true (by omega)
     have q1 : ((i : Int) < cs.length) = True := eq_true (by omega)
     have hf := HF.out
     rw [drop129 h2,codeS] at hf
     clear HF
     generalize rd_T129 cs (i : Int) = x at *
     by_cases ee : x.f0 = 0
     ·have e1 : (x.f0 == 0) = true := beq_iff_eq.mpr ee
      rw [if_pos ee] at hf
      have HF := aS hf
      clear hf ee
      go_wp2
      go_ret
      exact ⟨by rw [rejCode,HJE.out,← HF.out];rfl,b_l D.out.below _⟩
     ·have e1 : (x.f0 == 0) = false := beq_eq_false_iff_ne.mpr ee
      rw [if_neg ee] at hf
      have HF := aS hf
      clear hf ee
      go_wp2
      obtain ⟨g2,rfl⟩ : ∃ g2,gk = g2 + 1 := ⟨gk - 1,by omega⟩
      go_roundg g2
      case rel => exact ⟨i + 1,rfl,by omega,HF,⟨D.out.step (bO _)⟩⟩
      case measure => omega
    ·have e0 : decide ((i : Int) < cs.length) = false := d_F (by omega)
     have hf := HF.out
     rw [List.drop_of_length_le (by omega),codeS] at hf
     have HF2 := aS hf
     clear hf HF
     go_wp2
     go_roundg 0
     case rel => exact ⟨2,rfl,by omega,⟨⟨fun h => absurd h (by decide),fun _ => ⟨HJE.out,by rw [← HF2.out],by rw [← HF2.out]⟩⟩⟩,D⟩
     case measure => omega
  ·obtain ⟨q1,q2,q3⟩ := HJ.out.2 rfl
   have Q1 := aS q1
   have Q3 := aS q3
   clear q1 q2 q3
   go_wp2
   go_ret
   exact ⟨by rw [rejCode,Q1.out,Q3.out];rfl,D.out.below⟩
set_option maxHeartbeats 2000000 in
theorem codes_Apply.at (A : Option Addr) (c : Nat) (l : List S66) (t : ByteArray) (w : World) (hl : l.length ≤ 4611686018427387904) (hr : Kd.C k66 w A l.length l) (hc : l.length ≤ c) :
  Calls prog 100 #[.slice A l.length c,.string t] w fun e w' => e = .returned (.tuple #[.string (headS t l).1,.bool (headS t l).2]) ∧ Below w.heap.size w w' := by
 have hu66 := underlying66
 have HR := aS hr
 have HC := aS hc
 clear hr hc
 go_enter func100,ntmps100
 go_wp2
 go_loopg [10] l.length (fun g v10 w' => ∃ i : Nat,v10 = .int .i64 i ∧ i + g = l.length ∧ Aside0 (headS t (l.drop i) = headS t l) ∧ Aside0 (Below w.heap.size w w'))
 case atStart => exact ⟨0,rfl,Nat.zero_add _,⟨rfl⟩,⟨Below.refl _ _⟩⟩
 case round =>
  obtain ⟨i,rfl,hi,HF,HB⟩ := hrel
  have HBW := HB
  by_cases h : i < l.length
  ·have c0 : decide ((i : Int) < l.length) = true := d_T (by omega)
   obtain ⟨ad,rfl,hx0,hx1⟩ := at66 HR.out HBW.out i h
   have p : (0 ≤ (i : Int)) = True := eq_true (by omega)
   have q : ((i : Int) < l.length) = True := eq_true (by omega)
   have hf := HF.out
   rw [drop66 h,headS] at hf
   clear HF
   generalize rd_T66 l (i : Int) = x at *
   have e0 := str_beq x.f0 t
   by_cases e : x.f0 = t
   ·rw [d_T e] at e0
    rw [if_pos e] at hf
    have HF := aS hf
    clear hf e
    go_wp2
    go_ret2
    exact ⟨by rw [← HF.out];rfl,b_l HBW.out _⟩
   ·rw [d_F e] at e0
    rw [if_neg e] at hf
    have HF := aS hf
    clear hf e
    go_wp2
    obtain ⟨g,rfl⟩ : ∃ g,gk = g + 1 := ⟨gk - 1,by omega⟩
    go_roundg g
    case rel => exact ⟨i + 1,rfl,by omega,HF,⟨b_l HB.out _⟩⟩
    case measure => omega
  ·have c0 : decide ((i : Int) < l.length) = false := d_F (by omega)
   have hf := HF.out
   rw [List.drop_of_length_le (by omega),headS] at hf
   clear HF
   have HF := aS hf
   clear hf
   go_wp2
   go_ret2
   exact ⟨by rw [← HF.out];rfl,HBW.out⟩
def v94 (r : S94) (B : Option Addr) (d : Nat) : Value := .agg #[.int .i64 r.f0,.int .i64 r.f1,.int .i64 r.f2,.string r.f3,.slice B r.f4.length d]
theorem drop94 {l : List S94} {i : Nat} (h : i < l.length) : l.drop i = rd_T94 l i :: l.drop (i + 1) := by
 rw [List.drop_eq_getElem_cons h]
 simp [rd_T94,List.getD_eq_getElem?_getD,List.getElem?_eq_getElem h]
theorem at94 {A : Option Addr} {l : List S94} {w wr : World} (HR : Kd.C k94 w A l.length l) (HB : Below w.heap.size w wr) (i : Nat) (h : i < l.length) : ∃ ad A4 c4,A = some ad ∧ wr.cell? (ad.add (i * 5)) = some (.int .i64 (rd_T94 l (i : Int)).f0)
  ∧ wr.cell? ⟨(ad.add (i * 5)).block,(ad.add (i * 5)).off + 1,none⟩ = some (.int .i64 (rd_T94 l (i : Int)).f1) ∧ wr.cell? ⟨(ad.add (i * 5)).block,(ad.add (i * 5)).off + 2,none⟩ = some (.int .i64 (rd_T94 l (i : Int)).f2)
  ∧ wr.cell? ⟨(ad.add (i * 5)).block,(ad.add (i * 5)).off + 3,none⟩ = some (.string (rd_T94 l (i : Int)).f3) ∧ wr.cell? ⟨(ad.add (i * 5)).block,(ad.add (i * 5)).off + 4,none⟩ = some (.slice A4 (rd_T94 l (i : Int)).f4.length c4)
  ∧ (rd_T94 l (i : Int)).f4.length ≤ c4 ∧ Kd.C k66 w A4 (rd_T94 l (i : Int)).f4.length (rd_T94 l (i : Int)).f4 := by
 obtain ⟨ad,A4,c4,rfl,h0,h1,h2,h3,h4,h5,h6⟩ := at_T94 HR i (by omega) (by omega)
 simp only [Int.toNat_natCast] at h0 h1 h2 h3 h4
 have up : ∀ {a : Addr} {v : Value},w.cell? a = some v → wr.cell? a = some v := fun hx => (HB.cell (World.block_lt_of_cell? w _ hx)).trans hx
 exact ⟨ad,A4,c4,rfl,up h0,up h1,up h2,up h3,up h4,h5,h6⟩
def ruleS (no : Int) : List S94 → S94 × Bool
 | [] => (⟨0,0,0,⟨#[]⟩,[]⟩,false)
 | x :: xs => if x.f1 = no then (x,true) else ruleS no xs
set_option maxHeartbeats 2000000 in
theorem xlate_find.at (ms : Value) (A : Option Addr) (c : Nat) (l : List S94) (no : Int) (w : World) (hl : l.length ≤ 4611686018427387904) (hr : Kd.C k94 w A l.length l) (hc : l.length ≤ c) (hms : ∃ B n d,ms = .slice B n d) :
  Calls prog 42 #[.agg #[ms,.slice A l.length c],.int .i64 no] w fun e w' => (∃ B d,e = .returned (.tuple #[v94 (ruleS no l).1 B d,.bool (ruleS no l).2]) ∧ (ruleS no l).1.f4.length ≤ d ∧ Kd.C k66 w B (ruleS no l).1.f4.length (ruleS no l).1.f4) ∧ Below w.heap.size w w' := by
 have hu28 := underlying28
 have hu94 := underlying94
 have HR := aS hr
 have HC := aS hc
 obtain ⟨B0,n0,d0,rfl⟩ := hms
 clear hr hc
 go_enter func42,ntmps42
 go_wp2
 have D := aS (Box2.start w (.cells #[.slice B0 n0 d0,.slice A l.length c] 28) (.cells #[.int .i64 0,.int .i64 0,.int .i64 0,.string ⟨#[]⟩,.slice none 0 0] 94))
 go_loopg [11] l.length (fun g v11 w' => ∃ i : Nat,v11 = .int .i64 i ∧ i + g = l.length ∧ Aside0 (ruleS no (l.drop i) = ruleS no l) ∧ Aside0 (Box2 w w' (.cells #[.slice B0 n0 d0,.slice A l.length c] 28) (.cells #[.int .i64 0,.int .i64 0,.int .i64 0,.string ⟨#[]⟩,.slice none 0 0] 94)))
 case atStart => exact ⟨0,rfl,Nat.zero_add _,⟨rfl⟩,D⟩
 case round =>
  clear D
  obtain ⟨i,rfl,hi,HF,D⟩ := hrel
  by_cases h : i < l.length
  ·have e0 : decide ((i : Int) < l.length) = true := d_T (by omega)
   obtain ⟨ad,A4,c4,rfl,hx0,hx1,hx2,hx3,hx4,hx5,hx6⟩ := at94 HR.out D.out.below i h
   have q0 : (0 ≤ (i : Int)) = True := eq_true (by omega)
   have q1 : ((i : Int) < l.length) = True := eq_true (by omega)
   have hf := HF.out
   rw [drop94 h,ruleS] at hf
   clear HF
   generalize rd_T94 l (i : Int) = x at *
   have X5 := aS hx5
   have X6 := aS hx6
   clear hx5 hx6
   by_cases e : x.f1 = no
   ·have e1 : (x.f1 == no) = true := beq_iff_eq.mpr e
    rw [if_pos e] at hf
    have HF := aS hf
    have HE := aS e
    clear hf e
    have DA := cells_5a D.out.h2
    have FA0 := fun o => blk_frozen (blk_alloc D.out.h2 o) 0
    have FA1 := fun o => blk_frozen (blk_alloc D.out.h2 o) 1
    have FA2 := fun o => blk_frozen (blk_alloc D.out.h2 o) 2
    have FA3 := fun o => blk_frozen (blk_alloc D.out.h2 o) 3
    have FA4 := fun o => blk_frozen (blk_alloc D.out.h2 o) 4
    go_wp2
    refine bodyPost_ret (results_ct rfl _ _ (w.heap.size + 1) 94 _ (0,0) _ rfl (put5 (blk_alloc D.out.h2 _)) hu94 rfl (by kernel_rfl)) rfl ?_
    rw [← HF.out]
    exact ⟨⟨A4,c4,by rw [← HE.out];rfl,X5.out,X6.out⟩,below5 (b_l D.out.below _) (Nat.le_succ _)⟩
   ·have e1 : (x.f1 == no) = false := beq_eq_false_iff_ne.mpr e
    rw [if_neg e] at hf
    have HF := aS hf
    clear hf e
    go_wp2
    obtain ⟨g,rfl⟩ : ∃ g,gk = g + 1 := ⟨gk - 1,by omega⟩
    go_roundg g
    case rel => exact ⟨i + 1,rfl,by omega,HF,⟨D.out.step (bO _)⟩⟩
    case measure => omega
  ·have e0 : decide ((i : Int) < l.length) = false := d_F (by omega)
   have hf := HF.out
   rw [List.drop_of_length_le (by omega),ruleS] at hf
   have HF := aS hf
   clear hf
   obtain ⟨b0,b1,b2,b3,b4⟩ := cells_5 D.out.h2
   have FA0 := blk_frozen D.out.h2 0
   have FA1 := blk_frozen D.out.h2 1
   have FA2 := blk_frozen D.out.h2 2
   have FA3 := blk_frozen D.out.h2 3
   have FA4 := blk_frozen D.out.h2 4
   go_wp2
   refine bodyPost_ret (results_ct rfl _ _ (w.heap.size + 1) 94 _ (0,0) _ rfl (put5 D.out.h2) hu94 rfl (by kernel_rfl)) rfl ?_
   rw [← HF.out]
   exact ⟨⟨none,0,rfl,Nat.le_refl _,Kd.C_nil _ _⟩,below5 D.out.below (Nat.le_succ _)⟩
theorem law9 : Go.Maps.Keyed prog 9 := Go.Maps.string_keyed underlying9
def AskedS (P : Program) (K E : TypeId) (w : World) (b n : Nat) (seen : List (List UInt8)) : Prop := ∃ f : Lit → Bool,Go.Proofs.YtgbmnpgaddhfpaaGreatDoor.G.Seen P K E w b n f ∧ ∀ s : List UInt8,f (.string s) = decide (s ∈ seen)
theorem AskedS.made (P : Program) (K E : TypeId) (w : World) : AskedS P K E (w.alloc (.map #[] 0)) w.heap.size 0 [] := ⟨_,Go.Proofs.YtgbmnpgaddhfpaaGreatDoor.G.Seen.made P K E w,fun s => by simp⟩
theorem AskedS.put {P : Program} {K E : TypeId} {w1 : World} {b n : Nat} {seen : List (List UInt8)} {f : Lit → Bool} {t : List UInt8} (h1 : Go.Proofs.YtgbmnpgaddhfpaaGreatDoor.G.Seen P K E w1 b (n + 1) (Go.Proofs.YtgbmnpgaddhfpaaGreatDoor.G.more (Lit.string t) f)) (h2 : ∀ s : List UInt8,f (.string s) = decide (s ∈ seen)) : AskedS P K E w1 b (n + 1) (t :: seen) := by
 refine ⟨_,h1,fun s => ?_⟩
 by_cases hs : s = t
 ·subst hs
  rw [Go.Proofs.YtgbmnpgaddhfpaaGreatDoor.G.more_same]
  simp
 ·rw [Go.Proofs.YtgbmnpgaddhfpaaGreatDoor.G.more_other _ (by intro e;cases e;exact hs rfl),h2]
  simp [hs]
def freshS : List (List UInt8) → List S66 → Bool
 | _,[] => true
 | seen,p :: ps => decide (p.f0.data.toList ∉ seen) && freshS (p.f0.data.toList :: seen) ps
theorem freshS_cons {seen : List (List UInt8)} {p : S66} {ps : List S66} (h : freshS seen (p :: ps) = true) : p.f0.data.toList ∉ seen ∧ freshS (p.f0.data.toList :: seen) ps = true := by
 rw [freshS] at h
 simpa only [Bool.and_eq_true,decide_eq_true_eq] using h
theorem rd_mem66 {l : List S66} {i : Nat} (h : i < l.length) : rd_T66 l (i : Int) ∈ l := by
 simp [rd_T66,List.getD_eq_getElem?_getD,List.getElem?_eq_getElem h]
set_option maxHeartbeats 4000000 in
theorem codes_Check.at (A : Option Addr) (c : Nat) (l : List S66) (w : World) (h256 : l.length ≤ 256) (hsz : ∀ p ∈ l,p.f0.size ≤ 1000000) (hfr : freshS [] l = true) (hr : Kd.C k66 w A l.length l) (hc : l.length ≤ c) :
  Calls prog 171 #[.slice A l.length c] w fun e w' => e = .returned (.tuple #[.int .i64 0,.int .i64 0]) ∧ Below w.heap.size w w' := by
 have hu66 := underlying66
 have HR := aS hr
 have HC := aS hc
 have HSZ := aS hsz
 clear hr hc hsz
 have hmm := @run_makeMap prog
 have c1 : decide (256 < (l.length : Int)) = false := d_F (by omega)
 go_enter func171,ntmps171
 go_wp2
 have HM : Aside0 (AskedS prog 9 4 (w.alloc (.map #[] 0)) w.heap.size 0 []) := ⟨AskedS.made prog 9 4 w⟩
 have HB : Aside0 (Below w.heap.size w (w.alloc (.map #[] 0))) := ⟨b_l (Below.refl _ _) (.map #[] 0)⟩
 go_loopg [13] l.length (fun g v13 w' => ∃ (i : Nat) (seen : List (List UInt8)),v13 = .int .i64 i ∧ i + g = l.length ∧ Aside0 (freshS seen (l.drop i) = true) ∧ Aside0 (AskedS prog 9 4 w' w.heap.size i seen) ∧ Aside0 (Below w.heap.size w w'))
 case atStart => exact ⟨0,[],rfl,Nat.zero_add _,⟨hfr⟩,HM,HB⟩
 case round =>
  clear HM HB hmm hfr
  obtain ⟨i,seen,rfl,hi,HF,HM,HB⟩ := hrel
  by_cases h : i < l.length
  ·have e0 : decide ((i : Int) < l.length) = true := d_T (by omega)
   obtain ⟨ad,rfl,hx0,hx1⟩ := at66 HR.out HB.out i h
   have q0 : (0 ≤ (i : Int)) = True := eq_true (by omega)
   have q1 : ((i : Int) < l.length) = True := eq_true (by omega)
   have hf := HF.out
   rw [drop66 h] at hf
   obtain ⟨k1,k2⟩ := freshS_cons hf
   have hkz := HSZ.out _ (rd_mem66 h)
   clear hf HF
   generalize rd_T66 l (i : Int) = x at *
   have HK2 := aS k2
   have HKY : Aside0 (keyOf prog 9 (.string x.f0) = some (Lit.string x.f0.data.toList)) := ⟨Go.WideMaps.keyOf_string_mk underlying9 (by unfold maxLen;omega)⟩
   obtain ⟨f,hf,hmem⟩ := HM.out
   have HFo := aS (fun o : Obj => hf.below (b_l (Below.refl _ _) o))
   have hl := fun o : Obj => (HFo.out o).lookup law9 underlying167 underlying4 (zero4 _) HKY.out
   have HA := aS hmem
   rw [hmem,d_F k1] at hl
   have HX : Aside0 (i < maxLen) := ⟨by unfold maxLen;omega⟩
   clear hf hmem HM k1 k2 hkz
   go_wp2_with (at_mapUpdate;refine Go.Proofs.YtgbmnpgaddhfpaaGreatDoor.G.wp_seen_put (P := prog) (K := 9) (E := 4) _ rfl _ _ _ 167 rfl law9 underlying167 underlying4 _ i f rfl (HFo.out _) HX.out _ _ rfl rfl HKY.out trivial ?_;intro w1 hs1 hg1;have HS1 := aS hs1;have HG1 := aS hg1;clear hs1 hg1)
   obtain ⟨g,rfl⟩ : ∃ g,gk = g + 1 := ⟨gk - 1,by omega⟩
   go_roundg g
   case rel => exact ⟨i + 1,_,rfl,by omega,HK2,⟨AskedS.put HS1.out HA.out⟩,⟨(b_l HB.out _).grown HG1.out (below_size (b_l HB.out _)) (fun k hk => by cases hk;exact Nat.le_refl _)⟩⟩
   case measure => omega
  ·have e0 : decide ((i : Int) < l.length) = false := d_F (by omega)
   go_wp2
   go_ret2
   exact ⟨rfl,HB.out⟩
set_option maxHeartbeats 2000000 in
theorem groatref11_Check.at (x : S87) (w : World) :
  Calls prog 113 #[v87 x] w fun e w' => e = .returned (.int .i64 (specCheck x)) ∧ Below w.heap.size w w' := by
 have hu87 := underlying87
 unfold v87
 go_enter func113,ntmps113
 go_wp2
 all_goals go_ret
 all_goals refine ⟨ret_int ?_,by repeat (first | exact Below.refl _ _ | apply b_l | apply pw_below_drewN)⟩
 all_goals try simp only [beq_eq_false_iff_ne,beq_iff_eq,bne_iff_ne,bne_eq_false_iff_eq,decide_eq_true_eq,decide_eq_false_iff_not,ne_eq,Bool.not_eq_true',Bool.not_eq_false',Bool.not_eq_true,Bool.not_eq_false] at *
 all_goals (unfold specCheck most;(repeat' split) <;> first | rfl | omega)
theorem groatref01_All.at (s : ByteArray) (w : World) (hs : s.size ≤ 4611686018427387904) : Calls prog 111 #[.string s] w fun e w' => e = .returned (.bool (allD s)) ∧ w' = w := by
 go_enter func111,ntmps111
 go_wp2
 go_loopg [3] s.size (fun g v3 w' => ∃ i : Nat,v3 = .int .i64 i ∧ i + g = s.size ∧ Aside0 ((s.data.toList.drop i).all (fun c => decide (48 ≤ c.toNat ∧ c.toNat ≤ 57)) = allD s) ∧ w' = w)
 case atStart => exact ⟨0,rfl,Nat.zero_add _,⟨rfl⟩,rfl⟩
 case round =>
  obtain ⟨i,rfl,hi,HF,rfl⟩ := hrel
  by_cases h : i < s.size
  ·have c0 : decide ((i : Int) < s.size) = true := d_T (by omega)
   have p : (0 ≤ (i : Int)) = True := eq_true (by omega)
   have q : ((i : Int) < s.size) = True := eq_true (by omega)
   have hf := HF.out
   rw [allD_step h] at hf
   clear HF
   by_cases d1 : 48 ≤ (s[i]'h).toNat
   ·by_cases d2 : (s[i]'h).toNat ≤ 57
    ·rw [d_T ⟨d1,d2⟩,Bool.true_and] at hf
     have HF := aS hf
     have b1 : decide (48 ≤ ((s[i]'h).toNat : Int)) = true := d_T (by omega)
     have b2 : decide (((s[i]'h).toNat : Int) ≤ 57) = true := d_T (by omega)
     clear hf
     go_wp2
     obtain ⟨g,rfl⟩ : ∃ g,gk = g + 1 := ⟨gk - 1,by omega⟩
     go_roundg g
     case rel => exact ⟨i + 1,rfl,by omega,HF,rfl⟩
     case measure => omega
    ·rw [d_F (fun c => d2 c.2),Bool.false_and] at hf
     have HF := aS hf
     have b1 : decide (48 ≤ ((s[i]'h).toNat : Int)) = true := d_T (by omega)
     have b2 : decide (((s[i]'h).toNat : Int) ≤ 57) = false := d_F (by omega)
     clear hf
     go_wp2
     go_ret
     exact ⟨by rw [← HF.out];rfl,rfl⟩
   ·rw [d_F (fun c => d1 c.1),Bool.false_and] at hf
    have HF := aS hf
    have b1 : decide (48 ≤ ((s[i]'h).toNat : Int)) = false := d_F (by omega)
    clear hf
    go_wp2
    go_ret
    exact ⟨by rw [← HF.out];rfl,rfl⟩
  ·have c0 : decide ((i : Int) < s.size) = false := d_F (by omega)
   have hf := HF.out
   rw [List.drop_of_length_le (by rw [Array.length_toList];exact Nat.le_of_not_lt h)] at hf
   clear HF
   have HF := aS hf
   clear hf
   go_wp2
   go_ret
   exact ⟨by rw [← HF.out];rfl,rfl⟩
theorem groatref15_Right.at (m : ByteArray) (w : World) (hs : m.size ≤ 4611686018427387904) : Calls prog 54 #[.string m] w fun e w' => e = .returned (.bool (isMti m)) ∧ w' = w := by
 unfold isMti
 by_cases h : m.size = 4
 ·have c0 : ((m.size : Int) == 4) = true := beq_iff_eq.mpr (by omega)
  rw [d_T h,Bool.true_and]
  go_enter func54,ntmps54
  go_wp2_with (first | (go_at_call 111;refine (groatref01_All.at _ _ hs).mono ?_;rintro e w1 ⟨rfl,rfl⟩))
  go_ret
  exact ⟨rfl,rfl⟩
 ·have c0 : ((m.size : Int) == 4) = false := beq_eq_false_iff_ne.mpr (by omega)
  rw [d_F h,Bool.false_and]
  go_enter func54,ntmps54
  go_wp2
  go_ret
  exact ⟨rfl,rfl⟩
set_option maxHeartbeats 1000000 in
theorem groatref04_Is.at (c b : Int) (w : World) : Calls prog 155 #[.int .i64 c,.int .u8 b] w fun e w' => e = .returned (.bool (inCls c b)) ∧ w' = w := by
 go_enter func155,ntmps155
 go_wp2
 all_goals go_ret
 all_goals refine ⟨ret_bool ?_,rfl⟩
 all_goals try simp only [beq_eq_false_iff_ne,beq_iff_eq,decide_eq_true_eq,decide_eq_false_iff_not,ne_eq] at *
 all_goals (unfold inCls;rw [Bool.eq_iff_iff];(repeat' split) <;> simp_all <;> omega)
theorem groatref04_First.at (c : Int) (s : ByteArray) (w : World) (hs : s.size ≤ 4611686018427387904) : Calls prog 118 #[.int .i64 c,.string s] w fun e w' => e = .returned (.int .i64 (firstNot c s.data.toList 0)) ∧ w' = w := by
 go_enter func118,ntmps118
 go_wp2
 go_loopg [5] s.size (fun g v5 w' => ∃ i : Nat,v5 = .int .i64 i ∧ i + g = s.size ∧ Aside0 (firstNot c (s.data.toList.drop i) i = firstNot c s.data.toList 0) ∧ w' = w)
 case atStart => exact ⟨0,rfl,Nat.zero_add _,⟨rfl⟩,rfl⟩
 case round =>
  obtain ⟨i,rfl,hi,HF,rfl⟩ := hrel
  by_cases h : i < s.size
  ·have c0 : decide ((i : Int) < s.size) = true := d_T (by omega)
   have p : (0 ≤ (i : Int)) = True := eq_true (by omega)
   have q : ((i : Int) < s.size) = True := eq_true (by omega)
   have hf := HF.out
   rw [drop_byte h,firstNot] at hf
   clear HF
   cases hc : inCls c ((s[i]'h).toNat : Int) with
   | true =>
    rw [hc,if_pos rfl] at hf
    have HF := aS hf
    have HC := aS hc
    clear hf hc
    go_wp2_with (first | (go_at_call 155;refine (groatref04_Is.at _ _ _).mono ?_;rintro e w1 ⟨rfl,rfl⟩;rw [HC.out]))
    obtain ⟨g,rfl⟩ : ∃ g,gk = g + 1 := ⟨gk - 1,by omega⟩
    go_roundg g
    case rel => exact ⟨i + 1,rfl,by omega,HF,rfl⟩
    case measure => omega
   | false =>
    rw [hc,if_neg (by decide)] at hf
    have HF := aS hf
    have HC := aS hc
    clear hf hc
    go_wp2_with (first | (go_at_call 155;refine (groatref04_Is.at _ _ _).mono ?_;rintro e w1 ⟨rfl,rfl⟩;rw [HC.out]))
    go_ret
    exact ⟨by rw [← HF.out];rfl,rfl⟩
  ·have c0 : decide ((i : Int) < s.size) = false := d_F (by omega)
   have hf := HF.out
   rw [List.drop_of_length_le (by rw [Array.length_toList];exact Nat.le_of_not_lt h),firstNot] at hf
   clear HF
   have HF := aS hf
   clear hf
   go_wp2
   go_ret
   exact ⟨by rw [← HF.out];rfl,rfl⟩
def typedOk (ver1 ver2 : Int) (p : S66) : Prop := verV p.f0 = (ver1,true) ∧ verV p.f1 = (ver2,true) ∧ reqM p.f0 = reqM p.f1
theorem Box3.drew {w W : World} {a b c : Obj} (D : Box3 w W a b c) : Box3 w W.drew a b c := ⟨D.h1,D.h2,D.h3,below_drew1 D.below⟩
set_option maxHeartbeats 4000000 in
theorem xlate_typed.at (p : S66) (st1 ver1 : Int) (s1 : Value) (st2 ver2 : Int) (s2 : Value) (w : World) (hs1 : ∃ A n c,s1 = .slice A n c) (hs2 : ∃ A n c,s2 = .slice A n c) (h : typedOk ver1 ver2 p) :
  Calls prog 91 #[v66 p,.agg #[.int .i64 st1,.int .i64 ver1,s1],.agg #[.int .i64 st2,.int .i64 ver2,s2]] w fun e w' => e = .returned (.bool true) ∧ Below w.heap.size w w' := by
 have hu24 := underlying24
 have hu66 := underlying66
 obtain ⟨A1,n1,c1,rfl⟩ := hs1
 obtain ⟨A2,n2,c2,rfl⟩ := hs2
 obtain ⟨h1,h2,h3⟩ := h
 have H1 := aS h1
 have H2 := aS h2
 have e5 : (reqM p.f0 == reqM p.f1) = true := by rw [h3];exact beq_self_eq_true _
 have H3 := aS h3
 clear h1 h2 h3
 unfold v66
 go_enter func91,ntmps91
 go_wp2_with (first | (go_at_call 80;have D0 := D;clear D0;refine (mti_Version.at _ _).mono ?_;rintro e w2 ⟨rfl,hb1⟩;rw [H2.out];have D_ := aS (D.out.step hb1);clear D hb1 a0 a1 b0 b1 b2 p0 p1 p2;have D := D_;clear D_;obtain ⟨a0,a1⟩ := cells_2 D.out.h1;obtain ⟨b0,b1,b2⟩ := cells_3 D.out.h2;obtain ⟨p0,p1,p2⟩ := cells_3 D.out.h3) | (go_at_call 80;refine (mti_Version.at _ _).mono ?_;rintro e w1 ⟨rfl,hb1⟩;rw [H1.out];have D := aS (Box3.init hb1);clear hb1;obtain ⟨a0,a1⟩ := cells_2 D.out.h1;obtain ⟨b0,b1,b2⟩ := cells_3 D.out.h2;obtain ⟨p0,p1,p2⟩ := cells_3 D.out.h3))
 go_region_with (go_at_call 13;refine (mti_Request.at _ _).mono ?_;rintro e w5 ⟨rfl,hb1⟩;have D_ : Aside0 (Box3 w w5 (.cells #[.string p.f0,.string p.f1] 66) (.cells #[.int .i64 st1,.int .i64 ver1,.slice A1 n1 c1] 24) (.cells #[.int .i64 st2,.int .i64 ver2,.slice A2 n2 c2] 24)) := ⟨by first | exact D.out.step hb1 | exact D.out.drew.step hb1⟩;clear D hb1 a0 a1 b0 b1 b2 p0 p1 p2;have D := D_;clear D_;obtain ⟨a0,a1⟩ := cells_2 D.out.h1;obtain ⟨b0,b1,b2⟩ := cells_3 D.out.h2;obtain ⟨p0,p1,p2⟩ := cells_3 D.out.h3)
 all_goals go_wp2
 all_goals go_ret
 all_goals exact ⟨rfl,D.out.below⟩
set_option maxHeartbeats 4000000 in
theorem fields_Of.at (B : Nat) (n : Int) (w : World) (h : w.cell? ⟨B,0,none⟩ = some (.int .i64 n)) :
  Calls prog 93 #[.slice (some ⟨B,0,none⟩) 1 1] w fun e w' => e = .returned (vSet (withS (0,0) n)) ∧ Below w.heap.size w w' := by
 have hu82 := underlying82
 have HX : Aside0 (∀ W,Below w.heap.size w W → W.cell? ⟨B,0,none⟩ = some (.int .i64 n)) := ⟨fun W hb => (hb.cell (World.block_lt_of_cell? w _ h)).trans h⟩
 clear h
 go_enter func93,ntmps93
 go_wp2
 have D := aS (Box2.start w (.cells #[.int .u64 0,.int .u64 0] 82) (.cells #[.int .u64 0,.int .u64 0] 82))
 go_loopg [8] 1 (fun g v8 w' => ∃ (p : Int × Int),((v8 = .int .i64 0 ∧ g = 1 ∧ p = (0,0)) ∨ (v8 = .int .i64 1 ∧ g = 0 ∧ p = withS (0,0) n)) ∧ Aside0 (Box2 w w' (.cells #[.int .u64 0,.int .u64 0] 82) (.cells #[.int .u64 p.1,.int .u64 p.2] 82)))
 case atStart => exact ⟨(0,0),.inl ⟨rfl,rfl,rfl⟩,D⟩
 case round =>
  clear D
  obtain ⟨p,hp,D⟩ := hrel
  obtain ⟨c0,c1⟩ := cells_2 D.out.h2
  obtain ⟨f0,f1⟩ := froz_2 D.out.h2
  obtain ⟨d0,d1⟩ := cells_2 D.out.h1
  obtain ⟨g0,g1⟩ := froz_2 D.out.h1
  rcases hp with ⟨rfl,rfl,rfl⟩ | ⟨rfl,rfl,hp⟩
  ·have hx := HX.out _ D.out.below
   simp only at c0 c1
   go_wp2_with (first | (go_at_call 107;refine (fields_With.at (0,0) n _).mono ?_;rintro e w1 ⟨rfl,hb1⟩;have D_ := aS (D.out.step hb1);clear D c0 c1 f0 f1 hb1 d0 d1 g0 g1 hx;have D := D_;clear D_;obtain ⟨c0,c1⟩ := cells_2 D.out.h2;obtain ⟨f0,f1⟩ := froz_2 D.out.h2;simp only [vSet]))
   go_roundg 0
   case rel => exact ⟨withS (0,0) n,.inr ⟨rfl,rfl,rfl⟩,⟨⟨far _ _ (far _ _ D.out.h1 (by show w.heap.size ≠ w.heap.size + 1;omega)) (by show w.heap.size ≠ w.heap.size + 1;omega),blk_put (blk_put D.out.h2 0 _ rfl) 1 _ rfl,(D.out.below.setCell (p := ⟨w.heap.size + 1,0,none⟩) (Nat.le_succ _) _).setCell (p := ⟨w.heap.size + 1,1,none⟩) (Nat.le_succ _) _⟩⟩⟩
   case measure => decide
  ·go_wp2
   refine bodyPost_ret (results_cell_row rfl _ _ w.heap.size 82 _ (0,0) _ rfl (blk_put (blk_put D.out.h1 0 _ rfl) 1 _ rfl) hu82 rfl (by kernel_rfl)) rfl ?_
   exact ⟨rfl,(D.out.below.setCell (p := ⟨w.heap.size,0,none⟩) (Nat.le_refl _) _).setCell (p := ⟨w.heap.size,1,none⟩) (Nat.le_refl _) _⟩
end Go.Proofs.YtgbmnpgaddhfpaaGreatDoor.T
