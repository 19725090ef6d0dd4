/- Walks and plain laws beneath the law TopBuilt. No conditions but what each statement names. -/
import Derived.Test.YtgbmnpgaddhfpaaGreatDoorB15
set_option linter.unusedVariables false
set_option linter.unusedSimpArgs false
namespace Go.Proofs.YtgbmnpgaddhfpaaGreatDoor.T
open Go.RowKit Go.Proofs.YtgbmnpgaddhfpaaGreatDoorW.PrintWords Go.Proofs.YtgbmnpgaddhfpaaGreatDoorW.PrintLast Go.Proofs.YtgbmnpgaddhfpaaGreatDoorW.PrintMore
attribute [local go_sem] max2_int min2_int max_two min_two
open Go.Proofs.YtgbmnpgaddhfpaaGreatDoor.G
open Tryz
set_option maxRecDepth 100000
theorem Foot.elder {P : World → Prop} {W W1 : World} {ok : Nat → Prop} {v : Value} (h : Foot P W ok) (hbase : ∀ k,v.ownBlock = some k → W.heap.size ≤ k) (hb : Below W.heap.size W W1) : Foot P W1 (fun k => ok k ∧ some k ≠ v.ownBlock) :=
 Foot.mono (Foot.old h hb) (fun k hk => ⟨hk.1,fun e => by have := hbase k e.symm;omega⟩)
def putAll (W : World) (B : Nat) : Nat → List Value → World
 | _,[] => W
 | i,u :: us => putAll (W.setCell ⟨B,i,none⟩ u) B (i + 1) us
def setA (cs : Array Value) : Nat → List Value → Array Value
 | _,[] => cs
 | i,u :: us => setA (cs.setIfInBounds i u) (i + 1) us
theorem putAll_self {B : Nat} {t : TypeId} : ∀ {us : List Value} {W : World} {cs : Array Value} (_ : W.heap[B]? = some (.cells cs t (0,0))) (i : Nat),(putAll W B i us).heap[B]? = some (.cells (setA cs i us) t (0,0))
 | [],_,_,h,_ => h
 | u :: us,_,_,h,i => putAll_self (us := us) (blk_put h i u rfl) (i + 1)
theorem putAll_heap {B k : Nat} (hk : k ≠ B) : ∀ (us : List Value) (W : World) (i : Nat),(putAll W B i us).heap[k]? = W.heap[k]?
 | [],_,_ => rfl
 | u :: us,W,i => (putAll_heap hk us _ (i + 1)).trans (Below.heap_setCell W ⟨B,i,none⟩ u k hk)
theorem putAll_below {B b : Nat} {w : World} (hB : b ≤ B) : ∀ (us : List Value) {W : World} (i : Nat),Below b w W → Below b w (putAll W B i us)
 | [],_,_,h => h
 | u :: us,_,i,h => putAll_below hB us (i + 1) (Below.setCell h (p := ⟨B,i,none⟩) hB u)
theorem empty_N (W : World) (base : Nat) (ok : Nat → Prop) (hb : base ≤ W.heap.size) (hok : ok W.heap.size) : Kd.N (Kd.int .i64) 3 (W.alloc (.cells #[] 3)) base ok (.slice (some ⟨W.heap.size,0,none⟩) 0 0) ([] : List Int) :=
 Kd.R_N ⟨fun k hk => by have h9 : W.heap.size = k := (by simpa [Value.ownBlock] using hk);exact h9 ▸ hok,[],World.ownsRow_lit (base := base) (e := 3) (size := 1) W #[] 0 hb (by decide) rfl,Reps.none _ _⟩
theorem froz_n {w : World} {g : Nat} {t : TypeId} {cs : Array Value} (h : w.heap[g]? = some (.cells cs t (0,0))) (i : Nat) : w.frozen? ⟨g,i,none⟩ = false := blk_frozen h i
theorem k94_row (W : World) (ok : Nat → Prop) (x : S94) {A : Option Addr} {c n : Nat} (hn : x.f4.length = n) (hc : n ≤ c) (h : Kd.F k66 W ok A n x.f4) : Kd.FK k94 W ok x [.int .i64 x.f0,.int .i64 x.f1,.int .i64 x.f2,.string x.f3,.slice A n c] := by subst hn;exact k94_mkF W ok x hc h
theorem there8_F {W : World} {ok : Nat → Prop} {g : Nat} {Ae Aa : Option Addr} {ce ca : Nat} (hb : W.heap[g]? = some (.cells #[.int .i64 2,.int .i64 13,.int .i64 0,.string ⟨#[]⟩,.slice none 0 0,.int .i64 2,.int .i64 18,.int .i64 0,.string ⟨#[]⟩,.slice none 0 0,.int .i64 2,.int .i64 90,.int .i64 0,.string ⟨#[]⟩,.slice none 0 0,.int .i64 5,.int .i64 22,.int .i64 22,.string ⟨#[]⟩,.slice Ae 3 ce,.int .i64 5,.int .i64 39,.int .i64 39,.string ⟨#[]⟩,.slice Aa 7 ca,.int .i64 1,.int .i64 43,.int .i64 43,.string ⟨#[]⟩,.slice none 0 0,.int .i64 1,.int .i64 48,.int .i64 48,.string ⟨#[]⟩,.slice none 0 0,.int .i64 3,.int .i64 0,.int .i64 26,.string ⟨#[53,57,57,57]⟩,.slice none 0 0] 94 (0,0))) (hg : ok g) (hce : 3 ≤ ce) (h1 : Kd.F k66 W ok Ae 3 entryP) (hca : 7 ≤ ca) (h2 : Kd.F k66 W ok Aa 7 actP) : Kd.F k94 W ok (some ⟨g,0,none⟩) 8 there8 := by
 refine lit_F (d := k94) (xs := there8) (inner := [.int .i64 2,.int .i64 13,.int .i64 0,.string ⟨#[]⟩,.slice none 0 0,.int .i64 2,.int .i64 18,.int .i64 0,.string ⟨#[]⟩,.slice none 0 0,.int .i64 2,.int .i64 90,.int .i64 0,.string ⟨#[]⟩,.slice none 0 0,.int .i64 5,.int .i64 22,.int .i64 22,.string ⟨#[]⟩,.slice Ae 3 ce,.int .i64 5,.int .i64 39,.int .i64 39,.string ⟨#[]⟩,.slice Aa 7 ca,.int .i64 1,.int .i64 43,.int .i64 43,.string ⟨#[]⟩,.slice none 0 0,.int .i64 1,.int .i64 48,.int .i64 48,.string ⟨#[]⟩,.slice none 0 0,.int .i64 3,.int .i64 0,.int .i64 26,.string ⟨#[53,57,57,57]⟩,.slice none 0 0]) hb hg (by decide) ⟨rfl,fun j p hj => ?_⟩
 match j,hj with
 | 0,hj => obtain rfl := Option.some.inj hj;exact k94_mkF W ok _ (A4 := none) (c4 := 0) (Nat.le_refl _) (Kd.F_nil _ _ _)
 | 1,hj => obtain rfl := Option.some.inj hj;exact k94_mkF W ok _ (A4 := none) (c4 := 0) (Nat.le_refl _) (Kd.F_nil _ _ _)
 | 2,hj => obtain rfl := Option.some.inj hj;exact k94_mkF W ok _ (A4 := none) (c4 := 0) (Nat.le_refl _) (Kd.F_nil _ _ _)
 | 3,hj => obtain rfl := Option.some.inj hj;exact k94_row W ok ⟨5,22,22,⟨#[]⟩,entryP⟩ lens.1.2.1 hce h1
 | 4,hj => obtain rfl := Option.some.inj hj;exact k94_row W ok ⟨5,39,39,⟨#[]⟩,actP⟩ lens.1.2.2 hca h2
 | 5,hj => obtain rfl := Option.some.inj hj;exact k94_mkF W ok _ (A4 := none) (c4 := 0) (Nat.le_refl _) (Kd.F_nil _ _ _)
 | 6,hj => obtain rfl := Option.some.inj hj;exact k94_mkF W ok _ (A4 := none) (c4 := 0) (Nat.le_refl _) (Kd.F_nil _ _ _)
 | 7,hj => obtain rfl := Option.some.inj hj;exact k94_mkF W ok _ (A4 := none) (c4 := 0) (Nat.le_refl _) (Kd.F_nil _ _ _)
 | n + 8,hj => exact absurd hj (by simp [there8])
theorem back5_F {W : World} {ok : Nat → Prop} {g : Nat} {Ae Aa : Option Addr} {ce ca : Nat} (hb : W.heap[g]? = some (.cells #[.int .i64 2,.int .i64 26,.int .i64 0,.string ⟨#[]⟩,.slice none 0 0,.int .i64 2,.int .i64 43,.int .i64 0,.string ⟨#[]⟩,.slice none 0 0,.int .i64 5,.int .i64 22,.int .i64 22,.string ⟨#[]⟩,.slice Ae 3 ce,.int .i64 5,.int .i64 39,.int .i64 39,.string ⟨#[]⟩,.slice Aa 7 ca,.int .i64 1,.int .i64 48,.int .i64 48,.string ⟨#[]⟩,.slice none 0 0] 94 (0,0))) (hg : ok g) (hce : 3 ≤ ce) (h1 : Kd.F k66 W ok Ae 3 entryQ) (hca : 7 ≤ ca) (h2 : Kd.F k66 W ok Aa 7 actQ) : Kd.F k94 W ok (some ⟨g,0,none⟩) 5 back5 := by
 refine lit_F (d := k94) (xs := back5) (inner := [.int .i64 2,.int .i64 26,.int .i64 0,.string ⟨#[]⟩,.slice none 0 0,.int .i64 2,.int .i64 43,.int .i64 0,.string ⟨#[]⟩,.slice none 0 0,.int .i64 5,.int .i64 22,.int .i64 22,.string ⟨#[]⟩,.slice Ae 3 ce,.int .i64 5,.int .i64 39,.int .i64 39,.string ⟨#[]⟩,.slice Aa 7 ca,.int .i64 1,.int .i64 48,.int .i64 48,.string ⟨#[]⟩,.slice none 0 0]) hb hg (by decide) ⟨rfl,fun j p hj => ?_⟩
 match j,hj with
 | 0,hj => obtain rfl := Option.some.inj hj;exact k94_mkF W ok _ (A4 := none) (c4 := 0) (Nat.le_refl _) (Kd.F_nil _ _ _)
 | 1,hj => obtain rfl := Option.some.inj hj;exact k94_mkF W ok _ (A4 := none) (c4 := 0) (Nat.le_refl _) (Kd.F_nil _ _ _)
 | 2,hj => obtain rfl := Option.some.inj hj;exact k94_row W ok ⟨5,22,22,⟨#[]⟩,entryQ⟩ lens.2.1.2.1 hce h1
 | 3,hj => obtain rfl := Option.some.inj hj;exact k94_row W ok ⟨5,39,39,⟨#[]⟩,actQ⟩ lens.2.1.2.2 hca h2
 | 4,hj => obtain rfl := Option.some.inj hj;exact k94_mkF W ok _ (A4 := none) (c4 := 0) (Nat.le_refl _) (Kd.F_nil _ _ _)
 | n + 5,hj => exact absurd hj (by simp [back5])
theorem len_there8 : (keptP ++ there8).length = 29 := by decide +kernel
theorem len_back5 : (keptP ++ back5).length = 26 := by decide +kernel
theorem lensB : (bs0.l.length = 28 ∧ bs0.ms.length = 12 ∧ bs0.rs.length = 29 ∧ bs0.echo.length = 11 ∧ bs0.cs.length = 6) ∧ (bs1.l.length = 26 ∧ bs1.ms.length = 12 ∧ bs1.rs.length = 26 ∧ bs1.echo.length = 11 ∧ bs1.cs.length = 6) := by decide +kernel
theorem types_C {W : World} {g : Nat} (h : W.heap[g]? = some (.cells #[.string ⟨#[48,49,48,48]⟩,.string ⟨#[49,49,48,48]⟩,.string ⟨#[48,49,49,48]⟩,.string ⟨#[49,49,49,48]⟩,.string ⟨#[48,50,48,48]⟩,.string ⟨#[49,50,48,48]⟩,.string ⟨#[48,50,49,48]⟩,.string ⟨#[49,50,49,48]⟩,.string ⟨#[48,50,50,48]⟩,.string ⟨#[49,50,50,48]⟩,.string ⟨#[48,50,51,48]⟩,.string ⟨#[49,50,51,48]⟩,.string ⟨#[48,52,48,48]⟩,.string ⟨#[49,52,48,48]⟩,.string ⟨#[48,52,49,48]⟩,.string ⟨#[49,52,49,48]⟩,.string ⟨#[48,52,50,48]⟩,.string ⟨#[49,52,50,48]⟩,.string ⟨#[48,52,51,48]⟩,.string ⟨#[49,52,51,48]⟩,.string ⟨#[48,56,48,48]⟩,.string ⟨#[49,56,48,52]⟩,.string ⟨#[48,56,49,48]⟩,.string ⟨#[49,56,49,52]⟩] 9 (0,0))) : Kd.C Kd.string W (some ⟨g,0,none⟩) 24 typesL :=
 Kd.F_now (str_F (xs := typesL) (ok := fun _ => True) h rfl trivial (by decide))
theorem entry_C {W : World} {g : Nat} (h : W.heap[g]? = some (.cells #[.string ⟨#[48,53,49]⟩,.string ⟨#[53,49,48,49,48,49,53,49,49,51,52,52]⟩,.string ⟨#[48,50,49]⟩,.string ⟨#[50,49,48,49,48,49,50,49,49,51,52,52]⟩,.string ⟨#[48,49,50]⟩,.string ⟨#[49,48,48,49,52,48,49,48,48,49,49,48]⟩] 9 (0,0))) : Kd.C Kd.string W (some ⟨g,0,none⟩) 6 entryL :=
 Kd.F_now (str_F (xs := entryL) (ok := fun _ => True) h rfl trivial (by decide))
theorem act_C {W : World} {g : Nat} (h : W.heap[g]? = some (.cells #[.string ⟨#[48,48]⟩,.string ⟨#[48,48,48]⟩,.string ⟨#[48,53]⟩,.string ⟨#[49,48,48]⟩,.string ⟨#[49,52]⟩,.string ⟨#[49,49,49]⟩,.string ⟨#[53,49]⟩,.string ⟨#[49,49,54]⟩,.string ⟨#[53,52]⟩,.string ⟨#[49,48,49]⟩,.string ⟨#[57,49]⟩,.string ⟨#[57,48,55]⟩,.string ⟨#[57,54]⟩,.string ⟨#[57,48,57]⟩] 9 (0,0))) : Kd.C Kd.string W (some ⟨g,0,none⟩) 14 actL :=
 Kd.F_now (str_F (xs := actL) (ok := fun _ => True) h rfl trivial (by decide))
theorem types_at (A : Option Addr) (c : Nat) (W : World) (hr : Kd.C Kd.string W A 24 typesL) (hc : 24 ≤ c) : Calls prog 70 #[.slice A 24 c] W fun e w' => ∃ A' c',e = .returned (.slice A' 12 c') ∧ 12 ≤ c' ∧ (∀ ok : Nat → Prop,(∀ k,W.heap.size ≤ k → ok k) → Kd.F k66 w' ok A' 12 typesP) ∧ Below W.heap.size W w' :=
 pairs_at 20 typesL typesP 24 12 rfl lens.1.1 types_eq A c W hr hc
theorem entry_at (A : Option Addr) (c : Nat) (W : World) (hr : Kd.C Kd.string W A 6 entryL) (hc : 6 ≤ c) : Calls prog 70 #[.slice A 6 c] W fun e w' => ∃ A' c',e = .returned (.slice A' 3 c') ∧ 3 ≤ c' ∧ (∀ ok : Nat → Prop,(∀ k,W.heap.size ≤ k → ok k) → Kd.F k66 w' ok A' 3 entryP) ∧ Below W.heap.size W w' :=
 pairs_at 20 entryL entryP 6 3 rfl lens.1.2.1 entry_eq A c W hr hc
theorem act_at (A : Option Addr) (c : Nat) (W : World) (hr : Kd.C Kd.string W A 14 actL) (hc : 14 ≤ c) : Calls prog 70 #[.slice A 14 c] W fun e w' => ∃ A' c',e = .returned (.slice A' 7 c') ∧ 7 ≤ c' ∧ (∀ ok : Nat → Prop,(∀ k,W.heap.size ≤ k → ok k) → Kd.F k66 w' ok A' 7 actP) ∧ Below W.heap.size W w' :=
 pairs_at 20 actL actP 14 7 rfl lens.1.2.2 act_eq A c W hr hc
theorem typesQ_at (A : Option Addr) (c : Nat) (W : World) (hr : Kd.C k66 W A 12 typesP) (hc : 12 ≤ c) : Calls prog 71 #[.slice A 12 c] W fun e w' => ∃ A' c',e = .returned (.slice A' 12 c') ∧ 12 ≤ c' ∧ (∀ ok : Nat → Prop,(∀ k,W.heap.size ≤ k → ok k) → Kd.F k66 w' ok A' 12 typesQ) ∧ Below W.heap.size W w' :=
 turn_at 20 typesP typesQ 12 12 lens.1.1 lens.2.1.1 typesQ_eq A c W hr hc
theorem entryQ_at (A : Option Addr) (c : Nat) (W : World) (hr : Kd.C k66 W A 3 entryP) (hc : 3 ≤ c) : Calls prog 71 #[.slice A 3 c] W fun e w' => ∃ A' c',e = .returned (.slice A' 3 c') ∧ 3 ≤ c' ∧ (∀ ok : Nat → Prop,(∀ k,W.heap.size ≤ k → ok k) → Kd.F k66 w' ok A' 3 entryQ) ∧ Below W.heap.size W w' :=
 turn_at 20 entryP entryQ 3 3 lens.1.2.1 lens.2.1.2.1 entryQ_eq A c W hr hc
theorem actQ_at (A : Option Addr) (c : Nat) (W : World) (hr : Kd.C k66 W A 7 actP) (hc : 7 ≤ c) : Calls prog 71 #[.slice A 7 c] W fun e w' => ∃ A' c',e = .returned (.slice A' 7 c') ∧ 7 ≤ c' ∧ (∀ ok : Nat → Prop,(∀ k,W.heap.size ≤ k → ok k) → Kd.F k66 w' ok A' 7 actQ) ∧ Below W.heap.size W w' :=
 turn_at 20 actP actQ 7 7 lens.1.2.2 lens.2.1.2.2 actQ_eq A c W hr hc
theorem echo_F {W : World} {ok : Nat → Prop} {g : Nat} (h : W.heap[g]? = some (.cells #[.int .i64 2,.int .i64 3,.int .i64 4,.int .i64 7,.int .i64 11,.int .i64 12,.int .i64 32,.int .i64 37,.int .i64 41,.int .i64 42,.int .i64 70] 3 (0,0))) (hg : ok g) : Kd.F (Kd.int .i64) W ok (some ⟨g,0,none⟩) 11 echoL := int_F (xs := echoL) h rfl hg (by decide)
theorem C_at {α : Type} {d : Kd α} {w : World} {A : Option Addr} {n : Nat} {xs : List α} (h : d.C w A n xs) : d.C w A xs.length xs := by
 have e := h.1
 subst e
 exact h
theorem SdAt_mk {w : World} {s : Sd} {p : Ad} {n1 nm nr ne nc : Nat} (h1 : Kd.C k87 w p.A1 n1 s.l) (b1 : n1 ≤ p.c1) (h2 : Kd.C k66 w p.Am nm s.ms) (b2 : nm ≤ p.cm) (h3 : Kd.C k94 w p.Ar nr s.rs) (b3 : nr ≤ p.cr) (h4 : Kd.C (Kd.int .i64) w p.Ae ne s.echo) (b4 : ne ≤ p.ce) (h5 : Kd.C k129 w p.Ac nc s.cs) (b5 : nc ≤ p.cc)
  (hb : n1 ≤ 1000 ∧ nm ≤ 1000 ∧ nr ≤ 1000 ∧ ne ≤ 1000 ∧ nc ≤ 1000) (hr : ∀ r ∈ s.rs,r.f4.length ≤ 4611686018427387904) : SdAt w s p := by
 have e1 := h1.1
 have e2 := h2.1
 have e3 := h3.1
 have e4 := h4.1
 have e5 := h5.1
 exact ⟨C_at h1,by omega,by omega,C_at h2,by omega,by omega,C_at h3,by omega,by omega,C_at h4,by omega,by omega,C_at h5,by omega,by omega,hr⟩
theorem bs0_f4 : ∀ r ∈ bs0.rs,r.f4.length ≤ 4611686018427387904 := by decide +kernel
theorem bs1_f4 : ∀ r ∈ bs1.rs,r.f4.length ≤ 4611686018427387904 := by decide +kernel
theorem bs_val (p q : Ad) : Ending.returned (.agg #[.int .i64 1,.int .i64 0,.slice p.A1 28 p.c1,.slice p.Am 12 p.cm,.slice p.Ar 29 p.cr,.slice p.Ae 11 p.ce,.slice p.Ac 6 p.cc,.int .i64 2,.int .i64 1,.slice q.A1 26 q.c1,.slice q.Am 12 q.cm,.slice q.Ar 26 q.cr,.slice q.Ae 11 q.ce,.slice q.Ac 6 q.cc,.int .i64 4096]) = Ending.returned (.agg #[.int .i64 bs0.st,.int .i64 bs0.ver,.slice p.A1 bs0.l.length p.c1,.slice p.Am bs0.ms.length p.cm,.slice p.Ar bs0.rs.length p.cr,.slice p.Ae bs0.echo.length p.ce,.slice p.Ac bs0.cs.length p.cc,.int .i64 bs1.st,.int .i64 bs1.ver,.slice q.A1 bs1.l.length q.c1,.slice q.Am bs1.ms.length q.cm,.slice q.Ar bs1.rs.length q.cr,.slice q.Ae bs1.echo.length q.ce,.slice q.Ac bs1.cs.length q.cc,.int .i64 4096]) := by
 rw [lensB.1.1,lensB.1.2.1,lensB.1.2.2.1,lensB.1.2.2.2.1,lensB.1.2.2.2.2,lensB.2.1,lensB.2.2.1,lensB.2.2.2.1,lensB.2.2.2.2.1,lensB.2.2.2.2.2]
 rfl
theorem setA_full : ∀ (us : List Value) (cs : Array Value) (i : Nat),cs.size = i + us.length → setA cs i us = (cs.toList.take i ++ us).toArray
 | [],cs,i,h => by
  rw [setA,List.append_nil,List.take_of_length_le (by simp;simp at h;omega)]
 | u :: us,cs,i,h => by
  have hl : i < cs.toList.length := by simp at h ⊢;omega
  rw [setA,setA_full us _ (i + 1) (by simp at h ⊢;omega)]
  congr 1
  rw [Array.toList_setIfInBounds,List.take_add_one,List.take_set_of_le (Nat.le_refl _),List.getElem?_set_self hl]
  simp
theorem putAll_full {B : Nat} {t : TypeId} {us : List Value} {W : World} {cs : Array Value} (h : W.heap[B]? = some (.cells cs t (0,0))) (hs : cs.size = us.length) : (putAll W B 0 us).heap[B]? = some (.cells us.toArray t (0,0)) := by
 have h2 := putAll_self (us := us) h 0
 rw [setA_full us cs 0 (by omega)] at h2
 exact h2
theorem putAll_15 (W : World) (B : Nat) (u0 u1 u2 u3 u4 u5 u6 u7 u8 u9 u10 u11 u12 u13 u14 : Value) : putAll W B 0 [u0,u1,u2,u3,u4,u5,u6,u7,u8,u9,u10,u11,u12,u13,u14] = (((((((((((((((W.setCell ⟨B,0,none⟩ u0).setCell ⟨B,1,none⟩ u1).setCell ⟨B,2,none⟩ u2).setCell ⟨B,3,none⟩ u3).setCell ⟨B,4,none⟩ u4).setCell ⟨B,5,none⟩ u5).setCell ⟨B,6,none⟩ u6).setCell ⟨B,7,none⟩ u7).setCell ⟨B,8,none⟩ u8).setCell ⟨B,9,none⟩ u9).setCell ⟨B,10,none⟩ u10).setCell ⟨B,11,none⟩ u11).setCell ⟨B,12,none⟩ u12).setCell ⟨B,13,none⟩ u13).setCell ⟨B,14,none⟩ u14) := rfl
theorem blt_end {w W W2 : World} {g3 g7 : Nat} {At Ae Aa A5 Aq Ab A9 A0 A1c A2 Au A14 A15 : Option Addr} {ct c5 c9 c0 c1c c2 cu c14 c15 : Nat} (D2 : Box1 w W (.cells #[.int .i64 0,.int .i64 0,.slice none 0 0,.slice none 0 0,.slice none 0 0,.slice none 0 0,.slice none 0 0,.int .i64 0,.int .i64 0,.slice none 0 0,.slice none 0 0,.slice none 0 0,.slice none 0 0,.slice none 0 0,.int .i64 0] 35)) (HF2 : Foot (fun W => (((((((((((((k66.C W At 12 typesP ∧ k66.C W Ae 3 entryP) ∧ k66.C W Aa 7 actP) ∧ Kd.C (Kd.int .i64) W (some ⟨g3,0,none⟩) 11 echoL) ∧ k94.C W A5 29 (keptP ++ there8)) ∧ k66.C W Aq 3 entryQ) ∧ k66.C W Ab 7 actQ) ∧ k94.C W A9 26 (keptP ++ back5)) ∧ k87.C W A0 28 schA) ∧ k129.C W A1c 6 (codesP ⟨#[57,54]⟩ ⟨#[51,48]⟩ ⟨#[49,50]⟩)) ∧ k87.C W A2 26 schB) ∧ k66.C W Au 12 typesQ) ∧ Kd.C (Kd.int .i64) W A14 11 echoL) ∧ k129.C W A15 6 (codesP ⟨#[57,48,57]⟩ ⟨#[57,48,52]⟩ ⟨#[57,48,50]⟩))) W (fun k => w.heap.size < k ∧ k ≠ g7)) (HC0 : 28 ≤ c0) (HCt : 12 ≤ ct) (HC5 : 29 ≤ c5) (HC1c : 6 ≤ c1c) (HC2 : 26 ≤ c2) (HCu : 12 ≤ cu) (HC9 : 26 ≤ c9) (HC14 : 11 ≤ c14) (HC15 : 6 ≤ c15) (hW : W2 = putAll W w.heap.size 0 [.int .i64 1,.int .i64 0,.slice A0 28 c0,.slice At 12 ct,.slice A5 29 c5,.slice (some ⟨g3,0,none⟩) 11 11,.slice A1c 6 c1c,.int .i64 2,.int .i64 1,.slice A2 26 c2,.slice Au 12 cu,.slice A9 26 c9,.slice A14 11 c14,.slice A15 6 c15,.int .i64 4096]) :
  W2.heap[w.heap.size]? = some (.cells #[.int .i64 1,.int .i64 0,.slice A0 28 c0,.slice At 12 ct,.slice A5 29 c5,.slice (some ⟨g3,0,none⟩) 11 11,.slice A1c 6 c1c,.int .i64 2,.int .i64 1,.slice A2 26 c2,.slice Au 12 cu,.slice A9 26 c9,.slice A14 11 c14,.slice A15 6 c15,.int .i64 4096] 35 (0,0)) ∧ Foot (fun W => SdAt W bs0 ⟨A0,c0,At,ct,A5,c5,some ⟨g3,0,none⟩,11,A1c,c1c⟩ ∧ SdAt W bs1 ⟨A2,c2,Au,cu,A9,c9,A14,c14,A15,c15⟩) W2 (fun k => w.heap.size < k) ∧ Below w.heap.size w W2 := by
 have h1 : W2.heap[w.heap.size]? = some (.cells #[.int .i64 1,.int .i64 0,.slice A0 28 c0,.slice At 12 ct,.slice A5 29 c5,.slice (some ⟨g3,0,none⟩) 11 11,.slice A1c 6 c1c,.int .i64 2,.int .i64 1,.slice A2 26 c2,.slice Au 12 cu,.slice A9 26 c9,.slice A14 11 c14,.slice A15 6 c15,.int .i64 4096] 35 (0,0)) := by rw [hW];exact putAll_full D2.h1 rfl
 have h2 : ∀ k,k ≠ w.heap.size → W2.heap[k]? = W.heap[k]? := fun k hk => by rw [hW];exact putAll_heap hk _ _ _
 have h3 : Below w.heap.size w W2 := by rw [hW];exact putAll_below (Nat.le_refl _) _ 0 D2.below
 clear hW
 have HQ : Foot (fun W => SdAt W bs0 ⟨A0,c0,At,ct,A5,c5,some ⟨g3,0,none⟩,11,A1c,c1c⟩ ∧ SdAt W bs1 ⟨A2,c2,Au,cu,A9,c9,A14,c14,A15,c15⟩) W2 (fun k => w.heap.size < k ∧ k ≠ g7) := fun W' hW' => by
  have HG := Foot.step HF2 (W1 := W2) (fun k ho _ => h2 k (Nat.ne_of_gt ho.1)) W' hW'
  exact ⟨SdAt_mk HG.1.1.1.1.1.2 HC0 HG.1.1.1.1.1.1.1.1.1.1.1.1.1 HCt HG.1.1.1.1.1.1.1.1.1.2 HC5 HG.1.1.1.1.1.1.1.1.1.1.2 (Nat.le_refl _) HG.1.1.1.1.2 HC1c (by decide) bs0_f4,
   SdAt_mk HG.1.1.1.2 HC2 HG.1.1.2 HCu HG.1.1.1.1.1.1.2 HC9 HG.1.2 HC14 HG.2 HC15 (by decide) bs1_f4⟩
 exact ⟨h1,Foot.mono HQ (fun k hk => hk.1),h3⟩
def ping : ByteArray := ⟨#[48,56,48,48,48,48,50,48,48,48,48,48,48,48,48,48,48,48,48,48,48,48,48,48,48,49]⟩
theorem enc_ping : encS 1 schA ⟨#[48,56,48,48]⟩ [⟨11,⟨#[48,48,48,48,48,49]⟩⟩] = ping := by decide +kernel
theorem dec_ping : decG 1 0 schA ping = ((⟨#[48,56,48,48]⟩,[⟨11,⟨#[48,48,48,48,48,49]⟩⟩]),0,0) := by kernel_rfl
theorem out_ping : (outS bs0 bs1 4096 ping).1 = 1 ∧ (outS bs0 bs1 4096 ping).2.size = 15 := by decide +kernel
def ping0 : ByteArray := ⟨#[48,56,49,48,48,48,50,48,48,48,48,48,48,50,48,48,48,48,48,48,48,48,48,48,48,49,51,48]⟩
theorem out_ping0 : (outS bs0 bs1 4096 (ping ++ ⟨#[48]⟩)).1 = 2 ∧ (outS bs0 bs1 4096 (ping ++ ⟨#[48]⟩)).2 = ping0 := by decide +kernel
theorem sdR_bs0 : sdR bs0 := by
 unfold sdR sideR
 decide +kernel
theorem sdR_bs1 : sdR bs1 := by
 unfold sdR sideR
 decide +kernel
theorem msg_ping : msgOk 1 0 schA ⟨#[48,56,48,48]⟩ [⟨11,⟨#[48,48,48,48,48,49]⟩⟩] = true := by decide +kernel
def decNil : ∀ l : List S66,Decidable (l = [])
 | [] => .isTrue rfl
 | _ :: _ => .isFalse (fun h => by cases h)
instance (l : List S66) : Decidable (l = []) := decNil l
instance decApart : ∀ (rs : List S94) (p q : Int × Int),Decidable (apartS rs p q)
 | [],_,_ => .isTrue trivial
 | r :: rs,p,q => by
  unfold apartS
  have := decApart rs (eithS p (withS (0,0) r.f1)) (eithS q (withS (0,0) r.f2))
  infer_instance
theorem mapOk_bs0 : mapOk bs0.ms bs0.rs bs0.st bs0.ver bs0.l bs1.st bs1.ver bs1.l := by
 unfold mapOk typedOk ruleOk endsOk tableOk
 decide +kernel
theorem mapOk_bs1 : mapOk bs1.ms bs1.rs bs1.st bs1.ver bs1.l bs0.st bs0.ver bs0.l := by
 unfold mapOk typedOk ruleOk endsOk tableOk
 decide +kernel
theorem cfgK_bs : cfgK bs0 bs1 4096 := ⟨by decide,⟨sdR_bs0,mapOk_bs0⟩,sdR_bs1,mapOk_bs1⟩
section
attribute [local go_sem] wr1_7 wr0_7
set_option maxHeartbeats 4000000 in
theorem route_Outcome_1.at (s t : Sd) (p q : Ad) (most : Int) (b : ByteArray) (w : World) (h1 : SdAt w s p) (h2 : SdAt w t q) (hk : cfgK t s most) (hsz : b.size ≤ 100000) (hside : sideOk s.st s.ver s.l s.echo s.cs) (hle : s.echo.length ≤ 1000) (hlc : s.cs.length ≤ 1000) (hxl : (decG s.st s.ver s.l b).1.2.length ≤ 1000) :
  Calls prog 9 #[.agg #[.int .i64 t.st,.int .i64 t.ver,.slice q.A1 t.l.length q.c1,.slice q.Am t.ms.length q.cm,.slice q.Ar t.rs.length q.cr,.slice q.Ae t.echo.length q.ce,.slice q.Ac t.cs.length q.cc,.int .i64 s.st,.int .i64 s.ver,.slice p.A1 s.l.length p.c1,.slice p.Am s.ms.length p.cm,.slice p.Ar s.rs.length p.cr,.slice p.Ae s.echo.length p.ce,.slice p.Ac s.cs.length p.cc,.int .i64 most],.int .i64 1,.string b] w fun e w' => e = .returned (.tuple #[.int .i64 (outS s t most b).1,.string (outS s t most b).2]) ∧ Below w.heap.size w w' := by
 have hu35 := underlying35
 have hu33 := underlying33
 have hu32 := underlying32
 have hu28 := underlying28
 have hu24 := underlying24
 have hu42 := underlying42
 have hu45 := underlying45
 have HS := aS h1
 have HT := aS h2
 have HK := aS hk
 have HSI := aS hside
 have HXL := aS hxl
 clear h1 h2 hk hside hxl
 have HMO : Aside0 (∀ e,reqM (decG s.st s.ver s.l b).1.1 = true → msgOk s.st s.ver s.l (respM (decG s.st s.ver s.l b).1.1) (buildS (decG s.st s.ver s.l b).1.2 s.echo s.cs e) = true) := ⟨fun e hq => build_msgOk HSI.out hq e⟩
 obtain ⟨o,ho⟩ : ∃ o,outS s t most b = o := ⟨_,rfl⟩
 rw [ho]
 unfold outS at ho
 have HO := aS ho
 clear ho
 have HDE : Aside0 (∀ W,Below w.heap.size w W → Calls prog 10 #[.agg #[.int .i64 s.st,.int .i64 s.ver,.slice p.A1 s.l.length p.c1],.string b] W fun e w' => (∃ A' c',e = .returned (.tuple #[.agg #[.string (decG s.st s.ver s.l b).1.1,.slice A' (decG s.st s.ver s.l b).1.2.length c'],.agg #[.int .i64 (decG s.st s.ver s.l b).2.1,.int .i64 (decG s.st s.ver s.l b).2.2]]) ∧ (decG s.st s.ver s.l b).1.2.length ≤ c' ∧ Kd.C k63 w' A' (decG s.st s.ver s.l b).1.2.length (decG s.st s.ver s.l b).1.2) ∧ Below W.heap.size W w') := ⟨fun W hb => strict_Decode.at s.st s.ver p.A1 p.c1 s.l b W HS.out.n1 (c_B HS.out.r1 hb) HS.out.h1 HSI.out.1 hsz⟩
 have HDM : Aside0 ((decG s.st s.ver s.l b).2.1 = 0 → msgOk s.st s.ver s.l (decG s.st s.ver s.l b).1.1 (decG s.st s.ver s.l b).1.2 = true) := ⟨fun h => decG_msgOk HSI.out.1 h⟩
 generalize decG s.st s.ver s.l b = d at *
 obtain ⟨⟨m,xs⟩,ec,ef⟩ := d
 simp only at *
 obtain ⟨c0_,c1_,c2_,c3_,c4_,c5_,c6_,c7_,c8_,c9_,c10_,c11_,c12_,c13_,c14_⟩ := cells_15 (Box1.start w (.cells #[.int .i64 t.st,.int .i64 t.ver,.slice q.A1 t.l.length q.c1,.slice q.Am t.ms.length q.cm,.slice q.Ar t.rs.length q.cr,.slice q.Ae t.echo.length q.ce,.slice q.Ac t.cs.length q.cc,.int .i64 s.st,.int .i64 s.ver,.slice p.A1 s.l.length p.c1,.slice p.Am s.ms.length p.cm,.slice p.Ar s.rs.length p.cr,.slice p.Ae s.echo.length p.ce,.slice p.Ac s.cs.length p.cc,.int .i64 most] 35)).h1
 go_enter func9,ntmps9
 go_wp2_with (first | (go_at_call 30;refine (route_Check.at t s q p most _ (HT.out.step (Box1.start w _).below) (HS.out.step (Box1.start w _).below) HK.out).mono ?_;rintro e w1 ⟨rfl,hb1⟩;have D := aS ((Box1.start w (.cells #[.int .i64 t.st,.int .i64 t.ver,.slice q.A1 t.l.length q.c1,.slice q.Am t.ms.length q.cm,.slice q.Ar t.rs.length q.cr,.slice q.Ae t.echo.length q.ce,.slice q.Ac t.cs.length q.cc,.int .i64 s.st,.int .i64 s.ver,.slice p.A1 s.l.length p.c1,.slice p.Am s.ms.length p.cm,.slice p.Ar s.rs.length p.cr,.slice p.Ae s.echo.length p.ce,.slice p.Ac s.cs.length p.cc,.int .i64 most] 35)).step hb1);clear hb1 c0_ c1_ c2_ c3_ c4_ c5_ c6_ c7_ c8_ c9_ c10_ c11_ c12_ c13_ c14_;obtain ⟨c0_,c1_,c2_,c3_,c4_,c5_,c6_,c7_,c8_,c9_,c10_,c11_,c12_,c13_,c14_⟩ := cells_15 D.out.h1))
 refine region_split (by kernel_rfl) (fun wr hbr hsr => ?_)
 have D_ := aS (D.out.step hbr)
 clear D hbr c0_ c1_ c2_ c3_ c4_ c5_ c6_ c7_ c8_ c9_ c10_ c11_ c12_ c13_ c14_
 have D := D_
 clear D_
 refine wpAny_split 11 dst4 (post4 (.agg #[.int .i64 s.st,.int .i64 s.ver,.slice p.A1 s.l.length p.c1,.slice p.Am s.ms.length p.cm,.slice p.Ar s.rs.length p.cr,.slice p.Ae s.echo.length p.ce,.slice p.Ac s.cs.length p.cc]) (.agg #[.int .i64 t.st,.int .i64 t.ver,.slice q.A1 t.l.length q.c1,.slice q.Am t.ms.length q.cm,.slice q.Ar t.rs.length q.cr,.slice q.Ae t.echo.length q.ce,.slice q.Ac t.cs.length q.cc]) w.heap.size 7 0 1 wr.heap.size #[.int .i64 0,.int .i64 0,.slice none 0 0,.slice none 0 0,.slice none 0 0,.slice none 0 0,.slice none 0 0]) (post4 (.agg #[.int .i64 s.st,.int .i64 s.ver,.slice p.A1 s.l.length p.c1,.slice p.Am s.ms.length p.cm,.slice p.Ar s.rs.length p.cr,.slice p.Ae s.echo.length p.ce,.slice p.Ac s.cs.length p.cc]) (.agg #[.int .i64 t.st,.int .i64 t.ver,.slice q.A1 t.l.length q.c1,.slice q.Am t.ms.length q.cm,.slice q.Ar t.rs.length q.cr,.slice q.Ae t.echo.length q.ce,.slice q.Ac t.cs.length q.cc]) w.heap.size 7 0 1 wr.heap.size #[.int .i64 s.st,.int .i64 s.ver,.slice p.A1 s.l.length p.c1,.slice p.Am s.ms.length p.cm,.slice p.Ar s.rs.length p.cr,.slice p.Ae s.echo.length p.ce,.slice p.Ac s.cs.length p.cc]) rel4 _ wr rfl _ _ rfl rfl (fun i j u v h hij => (h (by omega)).symm) post4_st post4_st ?rlow ?rgrow done4 ?rdone ?rgrow2 ?rinj ?rsz rfl rfl (by decide) (by decide) ⟨⟨11,.chain⟩,by simp,rfl,rfl⟩ ?rall ?rs1 ?rs2 _ _ _ (Nat.le_refl _) ⟨rfl,rfl,fun _ _ => rfl⟩ (Below.refl _ _)
 case rlow =>
  intro i o hi ho
  rcases (show i = 0 ∨ i = 1 ∨ i = 2 ∨ i = 3 ∨ i = 4 ∨ i = 5 ∨ i = 6 ∨ i = 7 ∨ i = 8 ∨ i = 9 ∨ i = 10 by omega) with rfl | rfl | rfl | rfl | rfl | rfl | rfl | rfl | rfl | rfl | rfl <;> (cases ho;exact ⟨rfl,rfl,by decide⟩)
 case rinj =>
  intro i j hi hj
  revert j
  revert i
  decide
 case rsz =>
  intro i hi
  exact Nat.lt_of_lt_of_le ((by decide : ∀ i,i < 11 → dst4 i < 100) i hi) (Nat.le_of_ble_eq_true rfl)
 case rdone =>
  intro i hi hd
  rcases (show i = 0 ∨ i = 1 ∨ i = 2 ∨ i = 3 ∨ i = 4 ∨ i = 5 ∨ i = 6 ∨ i = 7 ∨ i = 8 ∨ i = 9 ∨ i = 10 by omega) with rfl | rfl | rfl | rfl | rfl | rfl | rfl | rfl | rfl | rfl | rfl
  ·exact ⟨⟨0,.phase⟩,by simp,rfl,rfl⟩
  ·exact ⟨⟨1,.phase⟩,by simp,rfl,rfl⟩
  ·exact ⟨⟨2,.phase⟩,by simp,rfl,rfl⟩
  ·exact ⟨⟨3,.phase⟩,by simp,rfl,rfl⟩
  ·cases hd
  ·cases hd
  ·cases hd
  ·cases hd
  ·cases hd
  ·exact ⟨⟨9,.phase⟩,by simp,rfl,rfl⟩
  ·exact ⟨⟨10,.phase⟩,by simp,rfl,rfl⟩
 case rall =>
  intro j hj
  refine ⟨⟨j,.phase⟩,?_,rfl,rfl⟩
  rcases (show j = 0 ∨ j = 1 ∨ j = 2 ∨ j = 3 ∨ j = 4 ∨ j = 5 ∨ j = 6 ∨ j = 7 ∨ j = 8 ∨ j = 9 ∨ j = 10 by omega) with rfl | rfl | rfl | rfl | rfl | rfl | rfl | rfl | rfl | rfl | rfl <;> simp
 case rgrow =>
  intro i o hi ho a W hb hf hp K' hK
  have HK := aS hK
  have HB := aS hb
  have D2 := aS (D.out.step hb)
  clear hK hb D
  rcases (show i = 0 ∨ i = 1 ∨ i = 2 ∨ i = 3 ∨ i = 4 ∨ i = 5 ∨ i = 6 ∨ i = 7 ∨ i = 8 ∨ i = 9 ∨ i = 10 by omega) with rfl | rfl | rfl | rfl | rfl | rfl | rfl | rfl | rfl | rfl | rfl
  ·cases ho
   have e1 : a.tmps[1]? = some (.int .i64 1) := (hf.2.2 1 (by decide)).trans rfl
   clear hp hf
   unfold Oper.wp
   go_simp
   exact HK.out _ _ (Below.refl _ _) rfl (fun _ _ _ _ _ h => by omega)
  ·cases ho
   have e3 : a.tmps[3]? = some (.pointer (some ⟨w.heap.size,0,none⟩)) := (hf.2.2 3 (by decide)).trans rfl
   clear hp hf
   unfold Oper.wp
   go_simp
   exact HK.out _ _ (Below.refl _ _) rfl (fun _ _ _ _ _ h => by omega)
  ·cases ho
   have h0 : a.eval (.tmp 35) = .int .i64 1 := hp ⟨0,.data⟩ (by simp) rfl
   have h1 : a.eval (.tmp 36) = .pointer (some ⟨w.heap.size,0,none⟩) := hp ⟨1,.data⟩ (by simp) rfl
   clear hp hf
   simp only [Act.eval,Array.getD_eq_getD_getElem?] at h0 h1
   unfold Oper.wp
   go_simp
   exact HK.out _ _ (Below.refl _ _) rfl (fun _ _ _ _ _ h => by omega)
  ·cases ho
   have h2 : a.eval (.tmp 37) = .pointer (some ⟨w.heap.size,7,none⟩) := hp ⟨2,.data⟩ (by simp) rfl
   clear hp hf
   simp only [Act.eval,Array.getD_eq_getD_getElem?] at h2
   obtain ⟨c0_,c1_,c2_,c3_,c4_,c5_,c6_,c7_,c8_,c9_,c10_,c11_,c12_,c13_,c14_⟩ := cells_15 D2.out.h1
   unfold Oper.wp
   go_simp
   exact HK.out _ _ (Below.refl _ _) rfl (fun _ _ _ _ _ h => by omega)
  ·cases ho
   have e1 : a.tmps[1]? = some (.int .i64 1) := (hf.2.2 1 (by decide)).trans rfl
   clear hp hf
   unfold Oper.wp
   go_simp
   exact HK.out _ _ (Below.refl _ _) rfl (fun _ _ _ _ _ h => by omega)
  ·cases ho
   have h4 : a.eval (.tmp 39) = .int .i64 1 := hp ⟨4,.data⟩ (by simp) rfl
   clear hp hf
   simp only [Act.eval,Array.getD_eq_getD_getElem?] at h4
   unfold Oper.wp
   go_simp
   exact HK.out _ _ (Below.refl _ _) rfl (fun _ _ _ _ _ h => by omega)
  ·cases ho
   have e3 : a.tmps[3]? = some (.pointer (some ⟨w.heap.size,0,none⟩)) := (hf.2.2 3 (by decide)).trans rfl
   clear hp hf
   unfold Oper.wp
   go_simp
   exact HK.out _ _ (Below.refl _ _) rfl (fun _ _ _ _ _ h => by omega)
  ·cases ho
   have h5 : a.eval (.tmp 40) = .int .i64 (1 - 1) := hp ⟨5,.data⟩ (by simp) rfl
   have h6 : a.eval (.tmp 41) = .pointer (some ⟨w.heap.size,0,none⟩) := hp ⟨6,.data⟩ (by simp) rfl
   clear hp hf
   simp only [Act.eval,Array.getD_eq_getD_getElem?] at h5 h6
   unfold Oper.wp
   go_simp
   exact HK.out _ _ (Below.refl _ _) rfl (fun _ _ _ _ _ h => by omega)
  ·cases ho
   have h7 : a.eval (.tmp 42) = .pointer (some ⟨w.heap.size,0,none⟩) := hp ⟨7,.data⟩ (by simp) rfl
   clear hp hf
   simp only [Act.eval,Array.getD_eq_getD_getElem?] at h7
   obtain ⟨c0_,c1_,c2_,c3_,c4_,c5_,c6_,c7_,c8_,c9_,c10_,c11_,c12_,c13_,c14_⟩ := cells_15 D2.out.h1
   unfold Oper.wp
   go_simp
   exact HK.out _ _ (Below.refl _ _) rfl (fun _ _ _ _ _ h => by omega)
  ·cases ho
   clear hp hf
   unfold Oper.wp
   go_simp
   refine HK.out _ _ (bO _) ⟨_,rfl,HB.out.size,blk_new W _⟩ (fun j v hj hji hpj hj9 => ?_)
   obtain rfl : j = 10 := by omega
   obtain ⟨B,rfl,_,hB⟩ := hpj
   have := blk_lt hB
   intro hE
   have hE2 := congrArg (fun v => match v with | .pointer (some q) => q.block | _ => 0) hE
   have hE3 : W.heap.size = B := hE2
   omega
  ·cases ho
   clear hp hf
   unfold Oper.wp
   go_simp
   refine HK.out _ _ (bO _) ⟨_,rfl,HB.out.size,blk_new W _⟩ (fun j v hj hji hpj hj9 => ?_)
   obtain rfl : j = 9 := by omega
   obtain ⟨B,rfl,_,hB⟩ := hpj
   have := blk_lt hB
   intro hE
   have hE2 := congrArg (fun v => match v with | .pointer (some q) => q.block | _ => 0) hE
   have hE3 : W.heap.size = B := hE2
   omega
 case rgrow2 =>
  intro i o hi ho hd a W hb hf hp K' hK
  have HK := aS hK
  have HB := aS hb
  have D2 := aS (D.out.step hb)
  clear hK hb D
  rcases (show i = 0 ∨ i = 1 ∨ i = 2 ∨ i = 3 ∨ i = 4 ∨ i = 5 ∨ i = 6 ∨ i = 7 ∨ i = 8 ∨ i = 9 ∨ i = 10 by omega) with rfl | rfl | rfl | rfl | rfl | rfl | rfl | rfl | rfl | rfl | rfl
  ·cases hd
  ·cases hd
  ·cases hd
  ·cases hd
  ·cases ho
   have e1 : a.tmps[1]? = some (.int .i64 1) := (hf.2.2 1 (by decide)).trans rfl
   clear hp hf
   unfold Oper.wp
   go_simp
   exact HK.out _ _ (Below.refl _ _) rfl (fun _ _ _ _ _ h => by omega)
  ·cases ho
   have h4 : a.eval (.tmp 39) = .int .i64 1 := hp ⟨4,.data⟩ (by simp) rfl
   clear hp hf
   simp only [Act.eval,Array.getD_eq_getD_getElem?] at h4
   unfold Oper.wp
   go_simp
   exact HK.out _ _ (Below.refl _ _) rfl (fun _ _ _ _ _ h => by omega)
  ·cases ho
   have e3 : a.tmps[3]? = some (.pointer (some ⟨w.heap.size,0,none⟩)) := (hf.2.2 3 (by decide)).trans rfl
   clear hp hf
   unfold Oper.wp
   go_simp
   exact HK.out _ _ (Below.refl _ _) rfl (fun _ _ _ _ _ h => by omega)
  ·cases ho
   have h5 : a.eval (.tmp 40) = .int .i64 (1 - 1) := hp ⟨5,.data⟩ (by simp) rfl
   have h6 : a.eval (.tmp 41) = .pointer (some ⟨w.heap.size,0,none⟩) := hp ⟨6,.data⟩ (by simp) rfl
   clear hp hf
   simp only [Act.eval,Array.getD_eq_getD_getElem?] at h5 h6
   unfold Oper.wp
   go_simp
   exact HK.out _ _ (Below.refl _ _) rfl (fun _ _ _ _ _ h => by omega)
  ·cases ho
   have h7 : a.eval (.tmp 42) = .pointer (some ⟨w.heap.size,0,none⟩) := hp ⟨7,.data⟩ (by simp) rfl
   clear hp hf
   simp only [Act.eval,Array.getD_eq_getD_getElem?] at h7
   obtain ⟨c0_,c1_,c2_,c3_,c4_,c5_,c6_,c7_,c8_,c9_,c10_,c11_,c12_,c13_,c14_⟩ := cells_15 D2.out.h1
   unfold Oper.wp
   go_simp
   exact HK.out _ _ (Below.refl _ _) rfl (fun _ _ _ _ _ h => by omega)
  ·cases hd
  ·cases hd
 case rs1 =>
  intro listed a W hb hf hl hp hr K' hK
  have HB := aS hb
  have l9 := hl ⟨9,.data⟩ (by simp) rfl
  have l3 := hl ⟨3,.data⟩ (by simp) rfl
  have l10 := hl ⟨10,.phase⟩ (by simp) rfl
  have HP := aS hp
  obtain ⟨B,h9,hB,hc9⟩ := hp 9 (by omega) l9
  obtain ⟨C,h10,hC,hc10⟩ := hp 10 (by omega) l10
  have h3 : a.eval (.tmp 38) = .agg #[.int .i64 s.st,.int .i64 s.ver,.slice p.A1 s.l.length p.c1,.slice p.Am s.ms.length p.cm,.slice p.Ar s.rs.length p.cr,.slice p.Ae s.echo.length p.ce,.slice p.Ac s.cs.length p.cc] := hp 3 (by omega) l3
  have hne : C ≠ B := fun h => by
   have := hr 9 10 (by omega) (by omega) (by omega) l9 l10 (.inl ⟨rfl,rfl⟩)
   exact this (by rw [h9,h10,h])
  have HC := aS hc9
  have HC2 := aS hc10
  have HKK := aS hK
  have H9 := aS h9
  have H10 := aS h10
  obtain ⟨x0,x1,x2,x3,x4,x5,x6⟩ := cells_7 hc9
  obtain ⟨f0,f1,f2,f3,f4,f5,f6⟩ := froz_7 hc9
  replace h9 : a.eval (.tmp 11) = .pointer (some ⟨B,0,none⟩) := h9
  clear hp hr hl hf hb hK hc9 hc10 h10 l9 l3 l10 D HS HT HK
  simp only [Act.eval,Array.getD_eq_getD_getElem?] at h9 h3
  unfold Oper.wp
  go_simp
  obtain ⟨n9,nb,nf⟩ := put7 HC.out hB (.int .i64 s.st) (.int .i64 s.ver) (.slice p.A1 s.l.length p.c1) (.slice p.Am s.ms.length p.cm) (.slice p.Ar s.rs.length p.cr) (.slice p.Ae s.echo.length p.ce) (.slice p.Ac s.cs.length p.cc)
  refine HKK.out _ nb (fun i hi hli => ?_)
  rcases (show i = 0 ∨ i = 1 ∨ i = 2 ∨ i = 3 ∨ i = 4 ∨ i = 5 ∨ i = 6 ∨ i = 7 ∨ i = 8 ∨ i = 9 ∨ i = 10 by omega) with rfl | rfl | rfl | rfl | rfl | rfl | rfl | rfl | rfl | rfl | rfl
  ·exact HP.out 0 (by omega) hli
  ·exact HP.out 1 (by omega) hli
  ·exact HP.out 2 (by omega) hli
  ·exact HP.out 3 (by omega) hli
  ·exact HP.out 4 (by omega) hli
  ·exact HP.out 5 (by omega) hli
  ·exact HP.out 6 (by omega) hli
  ·exact HP.out 7 (by omega) hli
  ·exact HP.out 8 (by omega) hli
  ·exact ⟨B,H9.out,hB,n9⟩
  ·exact ⟨C,H10.out,hC,nf C _ HC2.out hne⟩
 case rs2 =>
  intro a W hb hf hp hr
  obtain ⟨C,h9,hC,hc9⟩ := hp 9 (by omega)
  obtain ⟨B,h10,hB,hc10⟩ := hp 10 (by omega)
  have h8 : a.eval (.tmp 43) = .agg #[.int .i64 t.st,.int .i64 t.ver,.slice q.A1 t.l.length q.c1,.slice q.Am t.ms.length q.cm,.slice q.Ar t.rs.length q.cr,.slice q.Ae t.echo.length q.ce,.slice q.Ac t.cs.length q.cc] := hp 8 (by omega)
  have hne : C ≠ B := fun h => by
   have := hr 9 10 (by omega) (by omega) (by omega) (.inl ⟨rfl,rfl⟩)
   exact this (by rw [h9,h10,h])
  have he := hf.eq
  have v0 := hp 0 (by omega)
  have v1 := hp 1 (by omega)
  have v2 := hp 2 (by omega)
  have v3 := hp 3 (by omega)
  have v4 := hp 4 (by omega)
  have v5 := hp 5 (by omega)
  have v6 := hp 6 (by omega)
  have v7 := hp 7 (by omega)
  have v8 := hp 8 (by omega)
  replace he : putL _ [(35,a.eval (.tmp 35)),(36,a.eval (.tmp 36)),(37,a.eval (.tmp 37)),(38,a.eval (.tmp 38)),(39,a.eval (.tmp 39)),(40,a.eval (.tmp 40)),(41,a.eval (.tmp 41)),(42,a.eval (.tmp 42)),(43,a.eval (.tmp 43)),(11,a.eval (.tmp 11)),(12,a.eval (.tmp 12))] = a := he
  replace h9 : a.eval (.tmp 11) = .pointer (some ⟨C,0,none⟩) := h9
  replace h10 : a.eval (.tmp 12) = .pointer (some ⟨B,0,none⟩) := h10
  rw [h9,h10,h8,show a.eval (.tmp 38) = _ from v3] at he
  clear hp hr v0 v1 v2 v3 v4 v5 v6 v7 v8 h8 h9 h10 hf
  generalize a.eval (.tmp 35) = z35 at he
  generalize a.eval (.tmp 36) = z36 at he
  generalize a.eval (.tmp 37) = z37 at he
  generalize a.eval (.tmp 39) = z39 at he
  generalize a.eval (.tmp 40) = z40 at he
  generalize a.eval (.tmp 41) = z41 at he
  generalize a.eval (.tmp 42) = z42 at he
  simp only [putL,Act.put,sA,sB,sC] at he
  subst he
  obtain ⟨x0,x1,x2,x3,x4,x5,x6⟩ := cells_7 hc10
  obtain ⟨f0,f1,f2,f3,f4,f5,f6⟩ := froz_7 hc10
  have HN : ∃ W',W' = (((((((W.setCell ⟨B,0,none⟩ (.int .i64 t.st)).setCell ⟨B,1,none⟩ (.int .i64 t.ver)).setCell ⟨B,2,none⟩ (.slice q.A1 t.l.length q.c1)).setCell ⟨B,3,none⟩ (.slice q.Am t.ms.length q.cm)).setCell ⟨B,4,none⟩ (.slice q.Ar t.rs.length q.cr)).setCell ⟨B,5,none⟩ (.slice q.Ae t.echo.length q.ce)).setCell ⟨B,6,none⟩ (.slice q.Ac t.cs.length q.cc)) ∧ Aside0 (W'.heap[C]? = some (.cells #[.int .i64 s.st,.int .i64 s.ver,.slice p.A1 s.l.length p.c1,.slice p.Am s.ms.length p.cm,.slice p.Ar s.rs.length p.cr,.slice p.Ae s.echo.length p.ce,.slice p.Ac s.cs.length p.cc] 32 (0,0))) ∧ Aside0 (W'.heap[B]? = some (.cells #[.int .i64 t.st,.int .i64 t.ver,.slice q.A1 t.l.length q.c1,.slice q.Am t.ms.length q.cm,.slice q.Ar t.rs.length q.cr,.slice q.Ae t.echo.length q.ce,.slice q.Ac t.cs.length q.cc] 32 (0,0))) ∧ Aside0 (Box1 w W' (.cells #[.int .i64 t.st,.int .i64 t.ver,.slice q.A1 t.l.length q.c1,.slice q.Am t.ms.length q.cm,.slice q.Ar t.rs.length q.cr,.slice q.Ae t.echo.length q.ce,.slice q.Ac t.cs.length q.cc,.int .i64 s.st,.int .i64 s.ver,.slice p.A1 s.l.length p.c1,.slice p.Am s.ms.length p.cm,.slice p.Ar s.rs.length p.cr,.slice p.Ae s.echo.length p.ce,.slice p.Ac s.cs.length p.cc,.int .i64 most] 35)) := by
   obtain ⟨n9,nb,nf⟩ := put7 hc10 hB (.int .i64 t.st) (.int .i64 t.ver) (.slice q.A1 t.l.length q.c1) (.slice q.Am t.ms.length q.cm) (.slice q.Ar t.rs.length q.cr) (.slice q.Ae t.echo.length q.ce) (.slice q.Ac t.cs.length q.cc)
   exact ⟨_,rfl,⟨nf C _ hc9 hne⟩,⟨n9⟩,⟨D.out.step (hb.trans nb)⟩⟩
  obtain ⟨W',hW,HC9,HC10,D9⟩ := HN
  clear hc9 hc10 hb D hsr
  unfold Oper.wp
  go_simp
  rw [← hW]
  clear hW x0 x1 x2 x3 x4 x5 x6 f0 f1 f2 f3 f4 f5 f6
  clear hC hB hne
  obtain ⟨y0,y1,y2,y3,y4,y5,y6⟩ := cells_7 HC9.out
  go_wp2_with (first | (go_at_call 10;refine (HDE.out _ D9.out.below).mono ?_;rintro e w2 ⟨⟨A',c',rfl,hc',hr'⟩,hb2⟩;have HR' := aS hr';have HC' := aS hc';have HB2 := aS hb2;clear hr' hc' hb2 y0 y1 y2 y3 y4 y5 y6;rcases (Decidable.em (ec = 0)).symm with u | u <;> (first | (have b0 : (ec != 0) = true := bne_iff_ne.mpr u;have hO := HO.out;rw [if_pos u] at hO;clear HO u HDM;have HO := aS hO;clear hO) | (subst u;have HM := aS (HDM.out rfl);clear HDM;have HTR : Aside0 (∀ W A' c',Below w.heap.size w W → Kd.C k63 W A' xs.length xs → xs.length ≤ c' → Calls prog 11 #[.agg #[.slice p.Am s.ms.length p.cm,.slice p.Ar s.rs.length p.cr],.agg #[.int .i64 s.st,.int .i64 s.ver,.slice p.A1 s.l.length p.c1],.agg #[.int .i64 t.st,.int .i64 t.ver,.slice q.A1 t.l.length q.c1],.agg #[.string m,.slice A' xs.length c']] W fun e w' => (∃ A2 c2,e = .returned (.tuple #[.agg #[.string (transS s.ms s.rs t.l m xs).1.1,.slice A2 (transS s.ms s.rs t.l m xs).1.2.length c2],.agg #[.int .i64 (transS s.ms s.rs t.l m xs).2.1,.int .i64 (transS s.ms s.rs t.l m xs).2.2]]) ∧ (transS s.ms s.rs t.l m xs).1.2.length ≤ c2 ∧ Kd.C k63 w' A2 (transS s.ms s.rs t.l m xs).1.2.length (transS s.ms s.rs t.l m xs).1.2 ∧ MsgAt w' (.slice A2 (transS s.ms s.rs t.l m xs).1.2.length c2) (transS s.ms s.rs t.l m xs).1.2) ∧ Below W.heap.size W w') := ⟨fun W A' c' hb hr hc => xlate_Translate.at p.Am p.cm s.ms p.Ar p.cr s.rs s.st s.ver p.A1 p.c1 s.l t.st t.ver q.A1 q.c1 t.l m A' c' xs W (fun W2 hb2 => r38 (HS.out.step (b_s hb hb2)) (HT.out.step (b_s hb hb2)) HK.out.2.2.2) HM.out HS.out.n1 HT.out.n1 (by have := HK.out.2.2.2.2.2.1;omega) (by have := HK.out.2.2.2.2.2.2.2.2.1;omega) HXL.out (HS.out.step hb).rm HS.out.hm (HS.out.step hb).rr HS.out.hr (HS.out.step hb).r1 HS.out.h1 (HT.out.step hb).r1 HT.out.h1 hr hc (trans_hap HK.out.2.2.2 HM.out)⟩;have HTM : Aside0 ((transS s.ms s.rs t.l m xs).2.1 = 0 → msgOk t.st t.ver t.l (transS s.ms s.rs t.l m xs).1.1 (transS s.ms s.rs t.l m xs).1.2 = true) := ⟨fun h => transS_ok HK.out.2.2.2 HM.out h⟩;have hO := HO.out;rw [if_neg (by exact fun h => h rfl)] at hO;clear HO;generalize transS s.ms s.rs t.l m xs = x at HTR HTM hO;obtain ⟨⟨m2,xs2⟩,tc,tf⟩ := x;simp only at HTR HTM hO;have HO := aS hO;clear hO;obtain ⟨y0,y1,y2,y3,y4,y5,y6⟩ := cells_7 (k_B (k_B HC9.out HB2.out) (b_l (b_l (Below.refl _ _) (.cells #[.string m,.slice A' xs.length c'] 42)) (.cells #[.int .i64 0,.int .i64 ef] 45)));obtain ⟨n0,n1,n2,n3,n4,n5,n6⟩ := cells_7 (k_B (k_B HC10.out HB2.out) (b_l (b_l (Below.refl _ _) (.cells #[.string m,.slice A' xs.length c'] 42)) (.cells #[.int .i64 0,.int .i64 ef] 45)))))) | (go_at_call 11;refine (HTR.out _ A' c' ((D9.out.step HB2.out).step (bA _ _)).below (c_B HR'.out (bA _ _)) HC'.out).mono ?_;rintro e w3 ⟨⟨A2,c2,rfl,hc2,hr2,hm2⟩,hb3⟩;have HR2 := aS hr2;have HC2 := aS hc2;have HA2 := aS hm2;clear hm2;have E := aS ((Box2.start w2 (.cells #[.string m,.slice A' xs.length c'] 42) (.cells #[.int .i64 0,.int .i64 ef] 45)).step hb3);have HB3 := aS (((D9.out.step HB2.out).step (bA _ _)).step hb3);clear hr2 hc2 hb3 y0 y1 y2 y3 y4 y5 y6 n0 n1 n2 n3 n4 n5 n6;obtain ⟨f0,f1⟩ := froz_2a E.out.h2 (.cells #[.string m2,.slice A2 xs2.length c2] 42);obtain ⟨y0,y1⟩ := cells_2 (blk_alloc E.out.h2 (.cells #[.string m2,.slice A2 xs2.length c2] 42));obtain ⟨w0_,w1_⟩ := cells_2 (blk_alloc E.out.h1 (.cells #[.string m2,.slice A2 xs2.length c2] 42));rcases (Decidable.em (tc = 0)).symm with u | u <;> (first | (have b1 : (tc != 0) = true := bne_iff_ne.mpr u;have hO := HO.out;rw [if_pos u] at hO;clear HO u HTM;have HO := aS hO;clear hO) | (subst u;have HM2 := aS (HTM.out rfl);have hO := HO.out;rw [if_neg (by exact fun h => h rfl)] at hO;clear HO HTM;have HML : Aside0 (∀ {W : World} {A2 : Option Addr} {c2 : Nat},MsgAt W (.slice A2 xs2.length c2) xs2 → Kd.C k63 W A2 xs2.length xs2) := ⟨fun h => by obtain ⟨A',c',e',_,hC⟩ := h.reads (by have := msgOk_len HM2.out;omega);cases e';exact hC⟩;have HEN : Aside0 (∀ W A2 c2,Below w.heap.size w W → Kd.C k63 W A2 xs2.length xs2 → xs2.length ≤ c2 → Calls prog 12 #[.agg #[.int .i64 t.st,.int .i64 t.ver,.slice q.A1 t.l.length q.c1],.agg #[.string m2,.slice A2 xs2.length c2]] W fun e w' => e = .returned (.tuple #[.string (encS t.st t.l m2 xs2),.agg #[.int .i64 0,.int .i64 0]]) ∧ Below W.heap.size W w') := ⟨fun W A2 c2 hb hr hc => wire_Encode.at t.st t.ver q.A1 q.c1 t.l m2 A2 c2 xs2 W HT.out.n1 (HT.out.step hb).r1 HT.out.h1 (by have := msgOk_len HM2.out;omega) hr hc HM2.out⟩;generalize encS t.st t.l m2 xs2 = bb at HEN hO;have HO := aS hO;clear hO;obtain ⟨n0,n1,n2,n3,n4,n5,n6⟩ := cells_7 (k_B (k_B HC10.out HB2.out) (((b_s E.out.below (b_l (Below.refl _ _) (.cells #[.string m2,.slice A2 xs2.length c2] 42))).setCell (p := ⟨w2.heap.size + 1,0,none⟩) (by show w2.heap.size ≤ w2.heap.size + 1;omega) (.int .i64 0)).setCell (p := ⟨w2.heap.size + 1,1,none⟩) (by show w2.heap.size ≤ w2.heap.size + 1;omega) (.int .i64 tf)));obtain ⟨x0_,x1_⟩ := cells_2 (far ⟨w2.heap.size + 1,1,none⟩ (.int .i64 tf) (far ⟨w2.heap.size + 1,0,none⟩ (.int .i64 0) (blk_new w3 (.cells #[.string m2,.slice A2 xs2.length c2] 42)) (by show w3.heap.size ≠ w2.heap.size + 1;have := blk_lt E.out.h2;omega)) (by show w3.heap.size ≠ w2.heap.size + 1;have := blk_lt E.out.h2;omega))))) | (go_at_call 12;refine (HEN.out _ A2 c2 ((D9.out.step HB2.out).step (((b_s E.out.below (b_l (Below.refl _ _) (.cells #[.string m2,.slice A2 xs2.length c2] 42))).setCell (p := ⟨w2.heap.size + 1,0,none⟩) (by show w2.heap.size ≤ w2.heap.size + 1;omega) (.int .i64 0)).setCell (p := ⟨w2.heap.size + 1,1,none⟩) (by show w2.heap.size ≤ w2.heap.size + 1;omega) (.int .i64 tf))).below ((HML.out (((HA2.out.step (b_l (Below.refl _ _) (.cells #[.string m2,.slice A2 xs2.length c2] 42))).far (blk_alloc E.out.h2 (.cells #[.string m2,.slice A2 xs2.length c2] 42)) (by decide) 0 (.int .i64 0)).far (blk_put (blk_alloc E.out.h2 (.cells #[.string m2,.slice A2 xs2.length c2] 42)) 0 _ rfl) (by decide) 1 (.int .i64 tf)))) HC2.out).mono ?_;rintro e w4 ⟨rfl,hb4⟩;have HB4 := aS (((D9.out.step HB2.out).step (((b_s E.out.below (b_l (Below.refl _ _) (.cells #[.string m2,.slice A2 xs2.length c2] 42))).setCell (p := ⟨w2.heap.size + 1,0,none⟩) (by show w2.heap.size ≤ w2.heap.size + 1;omega) (.int .i64 0)).setCell (p := ⟨w2.heap.size + 1,1,none⟩) (by show w2.heap.size ≤ w2.heap.size + 1;omega) (.int .i64 tf))).step hb4);have HW4 := aS (b_s (((b_s E.out.below (b_l (Below.refl _ _) (.cells #[.string m2,.slice A2 xs2.length c2] 42))).setCell (p := ⟨w2.heap.size + 1,0,none⟩) (by show w2.heap.size ≤ w2.heap.size + 1;omega) (.int .i64 0)).setCell (p := ⟨w2.heap.size + 1,1,none⟩) (by show w2.heap.size ≤ w2.heap.size + 1;omega) (.int .i64 tf)) hb4);have m0_ := cells_2a (k_B (far _ _ (far _ _ (blk_alloc E.out.h1 (.cells #[.string m2,.slice A2 xs2.length c2] 42)) (by show w2.heap.size ≠ w2.heap.size + 1;omega)) (by show w2.heap.size ≠ w2.heap.size + 1;omega)) hb4);clear hb4 y0 y1 w0_ w1_ f0 f1 x0_ x1_ n0 n1 n2 n3 n4 n5 n6;have hmost : ∀ o_,(w4.alloc o_).cell? ⟨w.heap.size,14,none⟩ = some (.int .i64 most) := fun o_ => blk_cell (blk_alloc HB4.out.h1 o_) 14;rcases Decidable.em (most < (bb.size : Int)) with u | u <;> (first | (have b2 : decide (most < (bb.size : Int)) = true := d_T u;have hO := HO.out;rw [if_pos u] at hO;clear HO u;have HO := aS hO;clear hO) | (have b2 : decide (most < (bb.size : Int)) = false := d_F u;have hO := HO.out;rw [if_neg u] at hO;clear HO u;have HO := aS hO;clear hO))) | (go_at_call 31;first | (refine (route_answer.at s p most m A' c' xs 5 129 C w.heap.size _ (blk_alloc (k_B (k_B HC9.out HB2.out) HW4.out) _) (blk_cell (blk_alloc HB4.out.h1 _) 14) (HS.out.step (b_l HB4.out.below _)) hle hlc (by have := HXL.out;omega) (c_B HR'.out (b_l HW4.out _)) HC'.out (HMO.out 5)).mono ?_;rintro e w6 ⟨rfl,hb6⟩;have HB6 := aS (b_s (b_l HB4.out.below _) hb6);clear hb6) | (refine (route_answer.at s p most m A' c' xs tc tf C w.heap.size _ (k_B (k_B HC9.out HB2.out) (((b_s E.out.below (bO _)).setCell (p := ⟨w2.heap.size + 1,0,none⟩) (by show w2.heap.size ≤ w2.heap.size + 1;omega) _).setCell (p := ⟨w2.heap.size + 1,1,none⟩) (by show w2.heap.size ≤ w2.heap.size + 1;omega) _)) (blk_cell ((D9.out.step HB2.out).step (((b_s E.out.below (bO _)).setCell (p := ⟨w2.heap.size + 1,0,none⟩) (by show w2.heap.size ≤ w2.heap.size + 1;omega) _).setCell (p := ⟨w2.heap.size + 1,1,none⟩) (by show w2.heap.size ≤ w2.heap.size + 1;omega) _)).h1 14) (HS.out.step ((D9.out.step HB2.out).step (((b_s E.out.below (bO _)).setCell (p := ⟨w2.heap.size + 1,0,none⟩) (by show w2.heap.size ≤ w2.heap.size + 1;omega) _).setCell (p := ⟨w2.heap.size + 1,1,none⟩) (by show w2.heap.size ≤ w2.heap.size + 1;omega) _)).below) hle hlc (by have := HXL.out;omega) (c_B HR'.out (((b_s E.out.below (bO _)).setCell (p := ⟨w2.heap.size + 1,0,none⟩) (by show w2.heap.size ≤ w2.heap.size + 1;omega) _).setCell (p := ⟨w2.heap.size + 1,1,none⟩) (by show w2.heap.size ≤ w2.heap.size + 1;omega) _)) HC'.out (HMO.out tc)).mono ?_;rintro e w5 ⟨rfl,hb5⟩;have HB5 := aS (b_s ((D9.out.step HB2.out).step (((b_s E.out.below (bO _)).setCell (p := ⟨w2.heap.size + 1,0,none⟩) (by show w2.heap.size ≤ w2.heap.size + 1;omega) _).setCell (p := ⟨w2.heap.size + 1,1,none⟩) (by show w2.heap.size ≤ w2.heap.size + 1;omega) _)).below hb5);clear hb5) | (refine (route_answer.at s p most m A' c' xs ec ef C w.heap.size _ (k_B (k_B HC9.out HB2.out) (bA _ _)) (blk_cell ((D9.out.step HB2.out).step (bA _ _)).h1 14) (HS.out.step ((D9.out.step HB2.out).step (bA _ _)).below) hle hlc (by have := HXL.out;omega) (c_B HR'.out (bA _ _)) HC'.out (HMO.out ec)).mono ?_;rintro e w3 ⟨rfl,hb3⟩;have HB3 := aS (b_s ((D9.out.step HB2.out).step (bA _ _)).below hb3);clear hb3)))
  all_goals go_ret2
  all_goals have hO := HO.out
  all_goals subst hO
  all_goals first | exact ⟨rfl,HB6.out⟩ | exact ⟨rfl,HB5.out⟩ | exact ⟨rfl,HB3.out⟩ | exact ⟨rfl,b_l HB4.out.below _⟩
end
section
attribute [local go_sem] wr1_7 wr0_7
set_option maxHeartbeats 4000000 in
theorem groatref24_Built.ft (w : World) :
  Calls prog 26 #[] w fun e w' => (∃ p q : Ad,e = .returned (.agg #[.int .i64 bs0.st,.int .i64 bs0.ver,.slice p.A1 bs0.l.length p.c1,.slice p.Am bs0.ms.length p.cm,.slice p.Ar bs0.rs.length p.cr,.slice p.Ae bs0.echo.length p.ce,.slice p.Ac bs0.cs.length p.cc,.int .i64 bs1.st,.int .i64 bs1.ver,.slice q.A1 bs1.l.length q.c1,.slice q.Am bs1.ms.length q.cm,.slice q.Ar bs1.rs.length q.cr,.slice q.Ae bs1.echo.length q.ce,.slice q.Ac bs1.cs.length q.cc,.int .i64 4096]) ∧ Foot (fun W => SdAt W bs0 p ∧ SdAt W bs1 q) w' (fun k => w.heap.size < k)) ∧ Below w.heap.size w w' := by
 have hu35 := underlying35
 have hu33 := underlying33
 have hu32 := underlying32
 have hu28 := underlying28
 have hu24 := underlying24
 have hu94 := underlying94
 go_enter func26,ntmps26
 go_wp2_with (first | (go_at_call 70;(with_reducible refine (types_at _ _ _ ?h1 ?h2).mono ?_);(case h1 => exact types_C (alloc2 w (.cells #[.int .i64 0,.int .i64 0,.slice none 0 0,.slice none 0 0,.slice none 0 0,.slice none 0 0,.slice none 0 0,.int .i64 0,.int .i64 0,.slice none 0 0,.slice none 0 0,.slice none 0 0,.slice none 0 0,.slice none 0 0,.int .i64 0] 35) _));(case h2 => exact Nat.le_refl _);rintro e w1 ⟨At,ct,rfl,hct,hF,hb⟩;have D := aS (Box1.start w (.cells #[.int .i64 0,.int .i64 0,.slice none 0 0,.slice none 0 0,.slice none 0 0,.slice none 0 0,.slice none 0 0,.int .i64 0,.int .i64 0,.slice none 0 0,.slice none 0 0,.slice none 0 0,.slice none 0 0,.slice none 0 0,.int .i64 0] 35));have D_ := aS (D.out.step (b_s (bO _) hb));have HCt := aS hct;have HF_ := aS (hF (fun k => w.heap.size < k) (fun k hk => (Nat.lt_of_lt_of_le (blk_lt (Box1.step D.out (bO _)).h1) hk)));clear D hF hb hct;have D := D_;have HF := HF_;clear D_ HF_) | (go_at_call 70;(with_reducible refine (entry_at _ _ _ ?h1 ?h2).mono ?_);(case h1 => exact entry_C (blk_new w1 _));(case h2 => exact Nat.le_refl _);rintro e w2 ⟨Ae,ce,rfl,hc,hF,hb⟩;have HCe := aS hc;clear hc;have D_ := aS (D.out.step (b_s (bO _) hb));have HF_ := aS (Foot.and (Foot.below HF.out (b_s (bO _) hb)) (hF (fun k => w.heap.size < k) (fun k hk => (Nat.lt_of_lt_of_le (blk_lt (Box1.step D.out (bO _)).h1) hk))));clear D HF hF hb;have D := D_;have HF := HF_;clear D_ HF_) | (go_at_call 70;(with_reducible refine (act_at _ _ _ ?h1 ?h2).mono ?_);(case h1 => exact act_C (blk_new w2 _));(case h2 => exact Nat.le_refl _);rintro e w3 ⟨Aa,ca,rfl,hc,hF,hb⟩;have HCa := aS hc;clear hc;have D_ := aS (D.out.step (b_s (bO _) hb));have HF_ := aS (Foot.and (Foot.below HF.out (b_s (bO _) hb)) (hF (fun k => w.heap.size < k) (fun k hk => (Nat.lt_of_lt_of_le (blk_lt (Box1.step D.out (bO _)).h1) hk))));clear D HF hF hb;have D := D_;have HF := HF_;clear D_ HF_) | (have X5 := HC5;clear X5;go_at_call 62;refine (kept_at 30 keptP 21 lens.2.2.1 kept_eq _).mono ?_;rintro e w6 ⟨Aj,cj,rfl,hN,hb⟩;have D_ := aS (D.out.step hb);have HN := aS (Kd.N_lower (Kd.N_mono (ok' := (fun k => w.heap.size < k)) hN (fun k hk => (Nat.lt_of_lt_of_le (blk_lt (Box1.step D.out (Below.refl _ _)).h1) hk))) (Nat.le_of_lt (blk_lt (Box1.step D.out (Below.refl _ _)).h1)));have HF_ := aS (Foot.elder HF.out (Kd.N_base hN) hb);clear D HF hN hb;have D := D_;have HF := HF_;clear D_ HF_) | (go_at_call 62;refine (kept_at 30 keptP 21 lens.2.2.1 kept_eq _).mono ?_;rintro e w4 ⟨Ak,ck,rfl,hN,hb⟩;have D_ := aS (D.out.step (b_s (bO _) hb));have HN := aS (Kd.N_lower (Kd.N_mono (ok' := (fun k => w.heap.size < k)) hN (fun k hk => (Nat.lt_of_lt_of_le (blk_lt (Box1.step D.out (bO _)).h1) hk))) (Nat.le_of_lt (blk_lt (Box1.step D.out (bO _)).h1)));have HF_ := aS (Foot.elder (Foot.and (Foot.below HF.out (bO _)) (echo_F (blk_new w3 _) ((blk_lt D.out.h1)))) (Kd.N_base hN) hb);clear D HF hN hb;have D := D_;have HF := HF_;clear D_ HF_) | ((with_reducible refine gate_builtin (b := .append) (xs := #[.tmp 15,.tmp 26]) rfl ?_);at_builtin;refine Kd.N_append_rows k94 (w0 := w) w.heap.size rfl (.tmp 15) (.tmp 26) 26 94 (.agg #[(.int .i64 0),(.int .i64 0),(.int .i64 0),(.string ⟨#[]⟩),(.slice none 0 0)]) 64 rfl underlying26 info94 rfl (by decide) (by omega) (.slice Ak 21 ck) keptP there8 (some ⟨w4.heap.size,0,none⟩) 8 8 (fun k => w.heap.size < k) (fun k => w.heap.size < k ∧ some k ≠ (Value.slice Ak 21 ck).ownBlock) rfl rfl (Kd.N_alloc HN.out _) (there8_F (blk_new w4 _) ⟨(blk_lt D.out.h1),fun e => absurd (Kd.N_lt HN.out _ e.symm) (Nat.lt_irrefl _)⟩ HCe.out (Foot.below (Foot.imp HF.out (fun _ h => h.1.1.2)) (bO _)) HCa.out (Foot.below (Foot.imp HF.out (fun _ h => h.1.2)) (bO _))) (fun _ h => h) (fun k hk => (Nat.lt_of_lt_of_le (blk_lt (blk_alloc D.out.h1 _)) hk)) (b_l D.out.below _) (Nat.le_of_lt (blk_lt (blk_alloc D.out.h1 _))) (by rw [lens.2.2.1];decide) ?_;intro v w5 hn hb hg hat;obtain ⟨A5,c5,hv⟩ := Kd.N_slice hn;rw [len_there8] at hv;subst hv;have HC5 := aS (Kd.N_reads' hn).2.1;have D_ : Aside0 (Box1 w w5 (.cells #[.int .i64 0,.int .i64 0,.slice none 0 0,.slice none 0 0,.slice none 0 0,.slice none 0 0,.slice none 0 0,.int .i64 0,.int .i64 0,.slice none 0 0,.slice none 0 0,.slice none 0 0,.slice none 0 0,.slice none 0 0,.int .i64 0] 35)) := ⟨⟨(hg.block _ (blk_lt (blk_alloc D.out.h1 _)) (Kd.N_away HN.out (fun k hk => Nat.ne_of_gt hk))).trans (blk_alloc D.out.h1 _),hb⟩⟩;have HF_ := aS (Foot.and (Foot.mono (Foot.step (Foot.below HF.out (bO _)) (fun k ho hlt => hg.block k hlt ho.2)) (fun k hk => hk.1)) (Kd.N_F hn));clear D HF HN hn hb hg hat;have D := D_;have HF := HF_;clear D_ HF_) | (go_at_call 71;(with_reducible refine (entryQ_at _ _ _ ?h1 ?h2).mono ?_);(case h1 => exact HF.out.now.1.1.1.2);(case h2 => exact HCe.out);rintro e w7 ⟨Aq,cq,rfl,hc,hF,hb⟩;have HCq := aS hc;clear hc;have D_ := aS (D.out.step hb);have HF_ := aS (Foot.and (Foot.below HF.out hb) (hF (fun k => w.heap.size < k ∧ some k ≠ (Value.slice Aj 21 cj).ownBlock) (fun k hk => ⟨(Nat.lt_of_lt_of_le (blk_lt D.out.h1) hk),fun e => absurd (Kd.N_lt HN.out _ e.symm) (Nat.not_lt.mpr hk)⟩)));have HN_ := aS (Kd.N_below HN.out hb);clear HN;have HN := HN_;clear HN_;clear D HF hF hb;have D := D_;have HF := HF_;clear D_ HF_) | (go_at_call 71;(with_reducible refine (actQ_at _ _ _ ?h1 ?h2).mono ?_);(case h1 => exact HF.out.now.1.1.1.2);(case h2 => exact HCa.out);rintro e w8 ⟨Ab,cb,rfl,hc,hF,hb⟩;have HCb := aS hc;clear hc;have D_ := aS (D.out.step hb);have HF_ := aS (Foot.and (Foot.below HF.out hb) (hF (fun k => w.heap.size < k ∧ some k ≠ (Value.slice Aj 21 cj).ownBlock) (fun k hk => ⟨(Nat.lt_of_lt_of_le (blk_lt D.out.h1) hk),fun e => absurd (Kd.N_lt HN.out _ e.symm) (Nat.not_lt.mpr hk)⟩)));have HN_ := aS (Kd.N_below HN.out hb);clear HN;have HN := HN_;clear HN_;clear D HF hF hb;have D := D_;have HF := HF_;clear D_ HF_) | ((with_reducible refine gate_builtin (b := .append) (xs := #[.tmp 28,.tmp 38]) rfl ?_);at_builtin;refine Kd.N_append_rows k94 (w0 := w) w.heap.size rfl (.tmp 28) (.tmp 38) 26 94 (.agg #[(.int .i64 0),(.int .i64 0),(.int .i64 0),(.string ⟨#[]⟩),(.slice none 0 0)]) 64 rfl underlying26 info94 rfl (by decide) (by omega) (.slice Aj 21 cj) keptP back5 (some ⟨w8.heap.size,0,none⟩) 5 5 (fun k => w.heap.size < k) (fun k => w.heap.size < k ∧ some k ≠ (Value.slice Aj 21 cj).ownBlock) rfl rfl (Kd.N_alloc HN.out _) (back5_F (blk_new w8 _) ⟨(blk_lt D.out.h1),fun e => absurd (Kd.N_lt HN.out _ e.symm) (Nat.lt_irrefl _)⟩ HCq.out (Foot.below (Foot.imp HF.out (fun _ h => h.1.2)) (bO _)) HCb.out (Foot.below (Foot.imp HF.out (fun _ h => h.2)) (bO _))) (fun _ h => h) (fun k hk => (Nat.lt_of_lt_of_le (blk_lt (blk_alloc D.out.h1 _)) hk)) (b_l D.out.below _) (Nat.le_of_lt (blk_lt (blk_alloc D.out.h1 _))) (by rw [lens.2.2.1];decide) ?_;intro v w9 hn hb hg hat;obtain ⟨A9,c9,hv⟩ := Kd.N_slice hn;rw [len_back5] at hv;subst hv;have HC9 := aS (Kd.N_reads' hn).2.1;have D_ : Aside0 (Box1 w w9 (.cells #[.int .i64 0,.int .i64 0,.slice none 0 0,.slice none 0 0,.slice none 0 0,.slice none 0 0,.slice none 0 0,.int .i64 0,.int .i64 0,.slice none 0 0,.slice none 0 0,.slice none 0 0,.slice none 0 0,.slice none 0 0,.int .i64 0] 35)) := ⟨⟨(hg.block _ (blk_lt (blk_alloc D.out.h1 _)) (Kd.N_away HN.out (fun k hk => Nat.ne_of_gt hk))).trans (blk_alloc D.out.h1 _),hb⟩⟩;have HF_ := aS (Foot.and (Foot.mono (Foot.step (Foot.below HF.out (bO _)) (fun k ho hlt => hg.block k hlt ho.2)) (fun k hk => hk.1)) (Kd.N_F hn));clear D HF HN hn hb hg hat;have D := D_;have HF := HF_;clear D_ HF_) | (go_at_call 25;(fail_if_success have X := HC0);refine (schema_at 40 0 1 0 schA 28 lens.2.2.2.1 schA_eq _).mono ?_;rintro e w10 ⟨A0,c0,rfl,hc,hF,hb⟩;have HC0 := aS hc;clear hc;have HW : Aside0 (Below w9.heap.size w9 (w9.alloc (.cells #[.int .i64 0,.int .i64 0,.slice none 0 0,.slice none 0 0,.slice none 0 0,.slice none 0 0,.slice none 0 0,.int .i64 0,.int .i64 0,.slice none 0 0,.slice none 0 0,.slice none 0 0,.slice none 0 0,.slice none 0 0,.int .i64 4096] 35))) := ⟨b_l (Below.refl _ _) _⟩;have HB : Aside0 ((w9.alloc (.cells #[.int .i64 0,.int .i64 0,.slice none 0 0,.slice none 0 0,.slice none 0 0,.slice none 0 0,.slice none 0 0,.int .i64 0,.int .i64 0,.slice none 0 0,.slice none 0 0,.slice none 0 0,.slice none 0 0,.slice none 0 0,.int .i64 4096] 35)).heap[w9.heap.size]? = some (.cells #[.int .i64 0,.int .i64 0,.slice none 0 0,.slice none 0 0,.slice none 0 0,.slice none 0 0,.slice none 0 0,.int .i64 0,.int .i64 0,.slice none 0 0,.slice none 0 0,.slice none 0 0,.slice none 0 0,.slice none 0 0,.int .i64 4096] 35 (0,0))) := ⟨blk_new w9 _⟩;have HLT := aS (blk_lt D.out.h1);have D_ := aS ((D.out.step HW.out).step hb);have HB_ : Aside0 (w10.heap[w9.heap.size]? = some (.cells #[.int .i64 0,.int .i64 0,.slice none 0 0,.slice none 0 0,.slice none 0 0,.slice none 0 0,.slice none 0 0,.int .i64 0,.int .i64 0,.slice none 0 0,.slice none 0 0,.slice none 0 0,.slice none 0 0,.slice none 0 0,.int .i64 4096] 35 (0,0))) := ⟨k_B HB.out hb⟩;have HF_ := aS (Foot.and (Foot.below (Foot.mono (Foot.old HF.out HW.out) (fun k hk => ⟨hk.1,Nat.ne_of_lt hk.2⟩)) hb) (hF (fun k => w.heap.size < k ∧ k ≠ w9.heap.size) (fun k hk => ⟨(Nat.lt_of_lt_of_le (blk_lt (D.out.step HW.out).h1) hk),Nat.ne_of_gt (Nat.lt_of_lt_of_le (blk_lt HB.out) hk)⟩)));clear HB HW;have HB := HB_;clear HB_;clear D HF hF hb;have D := D_;have HF := HF_;clear D_ HF_) | (go_at_call 72;(fail_if_success have X := HC1c);refine (codes_at ⟨#[57,54]⟩ ⟨#[51,48]⟩ ⟨#[49,50]⟩ _).mono ?_;rintro e w11 ⟨A1c,c1c,rfl,hc,hF,hb⟩;have HC1c := aS hc;clear hc;have D_ := aS (D.out.step hb);have HF_ := aS (Foot.and (Foot.below HF.out hb) (hF (fun k => w.heap.size < k ∧ k ≠ w9.heap.size) (fun k hk => ⟨(Nat.lt_of_lt_of_le (blk_lt D.out.h1) hk),Nat.ne_of_gt (Nat.lt_of_lt_of_le (blk_lt HB.out) hk)⟩)));have HB_ := aS (k_B HB.out hb);clear HB;have HB := HB_;clear HB_;clear D HF hF hb;have D := D_;have HF := HF_;clear D_ HF_;obtain ⟨g0_,g1_,g2_,g3_,g4_,g5_,g6_,g7_,g8_,g9_,g10_,g11_,g12_,g13_,g14_⟩ := cells_15 HB.out;have f0_ := froz_n HB.out 0;have f1_ := froz_n HB.out 1;have f2_ := froz_n HB.out 2;have f3_ := froz_n HB.out 3;have f4_ := froz_n HB.out 4;have f5_ := froz_n HB.out 5;have f6_ := froz_n HB.out 6) | (go_at_call 25;have X2 := HC1c;clear X2;refine (schema_at 40 1 2 1 schB 26 lens.2.2.2.2 schB_eq _).mono ?_;rintro e w12 ⟨A2,c2,rfl,hc,hF,hb⟩;clear g0_ g1_ g2_ g3_ g4_ g5_ g6_ g7_ g8_ g9_ g10_ g11_ g12_ g13_ g14_ f0_ f1_ f2_ f3_ f4_ f5_ f6_;have HC2 := aS hc;clear hc;have HB2 : Aside0 ((putAll w11 w9.heap.size 0 [.int .i64 1,.int .i64 0,.slice A0 28 c0,.slice At 12 ct,.slice A5 29 c5,.slice (some ⟨w3.heap.size,0,none⟩) 11 11,.slice A1c 6 c1c]).heap[w9.heap.size]? = some (.cells (setA #[.int .i64 0,.int .i64 0,.slice none 0 0,.slice none 0 0,.slice none 0 0,.slice none 0 0,.slice none 0 0,.int .i64 0,.int .i64 0,.slice none 0 0,.slice none 0 0,.slice none 0 0,.slice none 0 0,.slice none 0 0,.int .i64 4096] 0 [.int .i64 1,.int .i64 0,.slice A0 28 c0,.slice At 12 ct,.slice A5 29 c5,.slice (some ⟨w3.heap.size,0,none⟩) 11 11,.slice A1c 6 c1c]) 35 (0,0))) := ⟨putAll_self HB.out 0⟩;have HG : Aside0 (w.heap.size < w9.heap.size) := ⟨HLT.out⟩;have D2 : Aside0 (Box1 w (putAll w11 w9.heap.size 0 [.int .i64 1,.int .i64 0,.slice A0 28 c0,.slice At 12 ct,.slice A5 29 c5,.slice (some ⟨w3.heap.size,0,none⟩) 11 11,.slice A1c 6 c1c]) (.cells #[.int .i64 0,.int .i64 0,.slice none 0 0,.slice none 0 0,.slice none 0 0,.slice none 0 0,.slice none 0 0,.int .i64 0,.int .i64 0,.slice none 0 0,.slice none 0 0,.slice none 0 0,.slice none 0 0,.slice none 0 0,.int .i64 0] 35)) := ⟨⟨(putAll_heap (Nat.ne_of_lt HG.out) _ _ _).trans D.out.h1,putAll_below (Nat.le_of_lt HG.out) _ _ D.out.below⟩⟩;have D_ := aS (D2.out.step hb);have HB_ : Aside0 (w12.heap[w9.heap.size]? = some (.cells #[.int .i64 1,.int .i64 0,.slice A0 28 c0,.slice At 12 ct,.slice A5 29 c5,.slice (some ⟨w3.heap.size,0,none⟩) 11 11,.slice A1c 6 c1c,.int .i64 0,.int .i64 0,.slice none 0 0,.slice none 0 0,.slice none 0 0,.slice none 0 0,.slice none 0 0,.int .i64 4096] 35 (0,0))) := ⟨k_B HB2.out hb⟩;have HF_ := aS (Foot.and (Foot.below (W := (putAll w11 w9.heap.size 0 [.int .i64 1,.int .i64 0,.slice A0 28 c0,.slice At 12 ct,.slice A5 29 c5,.slice (some ⟨w3.heap.size,0,none⟩) 11 11,.slice A1c 6 c1c])) (Foot.step HF.out (fun k ho _ => putAll_heap ho.2 _ _ _)) hb) (hF (fun k => w.heap.size < k ∧ k ≠ w9.heap.size) (fun k hk => ⟨(Nat.lt_of_lt_of_le (blk_lt D2.out.h1) hk),Nat.ne_of_gt (Nat.lt_of_lt_of_le (blk_lt HB2.out) hk)⟩)));clear HB HB2 D2 HG;have HB := HB_;clear HB_;clear D HF hF hb;have D := D_;have HF := HF_;clear D_ HF_) | (go_at_call 71;(with_reducible refine (typesQ_at _ _ _ ?h1 ?h2).mono ?_);(case h1 => exact HF.out.now.1.1.1.1.1.1.1.1.1.1);(case h2 => exact HCt.out);rintro e w13 ⟨Au,cu,rfl,hc,hF,hb⟩;have HCu := aS hc;clear hc;have D_ := aS (D.out.step hb);have HF_ := aS (Foot.and (Foot.below HF.out hb) (hF (fun k => w.heap.size < k ∧ k ≠ w9.heap.size) (fun k hk => ⟨(Nat.lt_of_lt_of_le (blk_lt D.out.h1) hk),Nat.ne_of_gt (Nat.lt_of_lt_of_le (blk_lt HB.out) hk)⟩)));have HB_ := aS (k_B HB.out hb);clear HB;have HB := HB_;clear HB_;clear D HF hF hb;have D := D_;have HF := HF_;clear D_ HF_) | ((with_reducible refine gate_builtin (b := .append) (xs := #[.tmp 55,.tmp 56]) rfl ?_);at_builtin;refine Kd.N_append_rows (Kd.int .i64) (w0 := w) w.heap.size rfl (.tmp 55) (.tmp 56) 29 3 (.int .i64 0) 8 rfl underlying29 info3 rfl (by decide) (by omega) (.slice (some ⟨w13.heap.size,0,none⟩) 0 0) [] echoL (some ⟨w3.heap.size,0,none⟩) 11 11 (fun k => w.heap.size < k ∧ k ≠ w9.heap.size) (fun k => (w.heap.size < k ∧ k ≠ w9.heap.size) ∧ some k ≠ (Value.slice (some ⟨w13.heap.size,0,none⟩) 0 0).ownBlock) rfl rfl (empty_N w13 _ _ (Nat.le_of_lt (blk_lt D.out.h1)) ⟨(blk_lt D.out.h1),Nat.ne_of_gt (blk_lt HB.out)⟩) (Foot.imp (Foot.elder (v := .slice (some ⟨w13.heap.size,0,none⟩) 0 0) HF.out (fun k hk => Nat.le_of_eq (Option.some.inj hk)) (bO _)) (fun _ h => h.1.1.1.1.1.1.1.1.2)) (fun _ h => h) (fun k hk => ⟨(Nat.lt_of_lt_of_le (blk_lt (blk_alloc D.out.h1 _)) hk),Nat.ne_of_gt (Nat.lt_of_lt_of_le (blk_lt (blk_alloc HB.out _)) hk)⟩) (b_l D.out.below _) (Nat.le_of_lt (blk_lt (blk_alloc D.out.h1 _))) (by decide) ?_;intro v w14 hn hb hg hat;rw [List.nil_append] at hn;obtain ⟨A14,c14,hv⟩ := Kd.N_slice hn;rw [show echoL.length = 11 from rfl] at hv;subst hv;have HC14 := aS (Kd.N_reads' hn).2.1;have HE : Aside0 (∀ g,g < w13.heap.size → some g ≠ (Value.slice (some ⟨w13.heap.size,0,none⟩) 0 0).ownBlock) := ⟨fun g hg e => absurd (Option.some.inj e) (Nat.ne_of_lt hg)⟩;have D_ : Aside0 (Box1 w w14 (.cells #[.int .i64 0,.int .i64 0,.slice none 0 0,.slice none 0 0,.slice none 0 0,.slice none 0 0,.slice none 0 0,.int .i64 0,.int .i64 0,.slice none 0 0,.slice none 0 0,.slice none 0 0,.slice none 0 0,.slice none 0 0,.int .i64 0] 35)) := ⟨⟨(hg.block _ (blk_lt (blk_alloc D.out.h1 _)) (HE.out _ (blk_lt D.out.h1))).trans (blk_alloc D.out.h1 _),hb⟩⟩;have HB_ := aS ((hg.block _ (blk_lt (blk_alloc HB.out _)) (HE.out _ (blk_lt HB.out))).trans (blk_alloc HB.out _));have HF_ := aS (Foot.and (Foot.mono (Foot.step (Foot.elder (v := .slice (some ⟨w13.heap.size,0,none⟩) 0 0) HF.out (fun k hk => Nat.le_of_eq (Option.some.inj hk)) (bO _)) (fun k ho hlt => hg.block k hlt ho.2)) (fun k hk => hk.1)) (Kd.N_F hn));clear D HF HB HE hn hb hg hat;have D := D_;have HF := HF_;have HB := HB_;clear D_ HF_ HB_))
 go_at_call 72;have X2 := HC14;clear X2;refine (codes_at ⟨#[57,48,57]⟩ ⟨#[57,48,52]⟩ ⟨#[57,48,50]⟩ _).mono ?_;rintro e w15 ⟨A15,c15,rfl,hc,hF,hb⟩;have HC15 := aS hc;clear hc;have D_ := aS (D.out.step hb);have HF_ := aS (Foot.and (Foot.below HF.out hb) (hF (fun k => w.heap.size < k ∧ k ≠ w9.heap.size) (fun k hk => ⟨(Nat.lt_of_lt_of_le (blk_lt D.out.h1) hk),Nat.ne_of_gt (Nat.lt_of_lt_of_le (blk_lt HB.out) hk)⟩)));have HB_ := aS (k_B HB.out hb);clear HB;have HB := HB_;clear HB_;clear D HF hF hb;have D := D_;have HF := HF_;clear D_ HF_;obtain ⟨g0_,g1_,g2_,g3_,g4_,g5_,g6_,g7_,g8_,g9_,g10_,g11_,g12_,g13_,g14_⟩ := cells_15 HB.out;have f7_ := froz_n HB.out 7;have f8_ := froz_n HB.out 8;have f9_ := froz_n HB.out 9;have f10_ := froz_n HB.out 10;have f11_ := froz_n HB.out 11;have f12_ := froz_n HB.out 12;have f13_ := froz_n HB.out 13
 simp only []
 iterate 14 (first | go_values | go_skip | go_guarded | go_step | go_upon)
 have HN : ∃ W,W = (((((((w15.setCell ⟨w9.heap.size,7,none⟩ (.int .i64 2)).setCell ⟨w9.heap.size,8,none⟩ (.int .i64 1)).setCell ⟨w9.heap.size,9,none⟩ (.slice A2 26 c2)).setCell ⟨w9.heap.size,10,none⟩ (.slice Au 12 cu)).setCell ⟨w9.heap.size,11,none⟩ (.slice A9 26 c9)).setCell ⟨w9.heap.size,12,none⟩ (.slice A14 11 c14)).setCell ⟨w9.heap.size,13,none⟩ (.slice A15 6 c15)) ∧ Aside0 (W.heap[w9.heap.size]? = some (.cells #[.int .i64 1,.int .i64 0,.slice A0 28 c0,.slice At 12 ct,.slice A5 29 c5,.slice (some ⟨w3.heap.size,0,none⟩) 11 11,.slice A1c 6 c1c,.int .i64 2,.int .i64 1,.slice A2 26 c2,.slice Au 12 cu,.slice A9 26 c9,.slice A14 11 c14,.slice A15 6 c15,.int .i64 4096] 35 (0,0))) ∧ Aside0 (Box1 w W (.cells #[.int .i64 0,.int .i64 0,.slice none 0 0,.slice none 0 0,.slice none 0 0,.slice none 0 0,.slice none 0 0,.int .i64 0,.int .i64 0,.slice none 0 0,.slice none 0 0,.slice none 0 0,.slice none 0 0,.slice none 0 0,.int .i64 0] 35)) ∧ Aside0 (Foot (fun W => (((((((((((((k66.C W At 12 typesP ∧ k66.C W Ae 3 entryP) ∧ k66.C W Aa 7 actP) ∧ Kd.C (Kd.int .i64) W (some ⟨w3.heap.size,0,none⟩) 11 echoL) ∧ k94.C W A5 29 (keptP ++ there8)) ∧ k66.C W Aq 3 entryQ) ∧ k66.C W Ab 7 actQ) ∧ k94.C W A9 26 (keptP ++ back5)) ∧ k87.C W A0 28 schA) ∧ k129.C W A1c 6 (codesP ⟨#[57,54]⟩ ⟨#[51,48]⟩ ⟨#[49,50]⟩)) ∧ k87.C W A2 26 schB) ∧ k66.C W Au 12 typesQ) ∧ Kd.C (Kd.int .i64) W A14 11 echoL) ∧ k129.C W A15 6 (codesP ⟨#[57,48,57]⟩ ⟨#[57,48,52]⟩ ⟨#[57,48,50]⟩))) W (fun k => w.heap.size < k ∧ k ≠ w9.heap.size)) :=
  ⟨_,rfl,⟨putAll_self (us := [.int .i64 2,.int .i64 1,.slice A2 26 c2,.slice Au 12 cu,.slice A9 26 c9,.slice A14 11 c14,.slice A15 6 c15]) HB.out 7⟩,⟨⟨(putAll_heap (Nat.ne_of_lt HLT.out) [.int .i64 2,.int .i64 1,.slice A2 26 c2,.slice Au 12 cu,.slice A9 26 c9,.slice A14 11 c14,.slice A15 6 c15] _ _).trans D.out.h1,putAll_below (Nat.le_of_lt HLT.out) [.int .i64 2,.int .i64 1,.slice A2 26 c2,.slice Au 12 cu,.slice A9 26 c9,.slice A14 11 c14,.slice A15 6 c15] _ D.out.below⟩⟩,⟨Foot.step HF.out (fun k ho _ => putAll_heap ho.2 [.int .i64 2,.int .i64 1,.slice A2 26 c2,.slice Au 12 cu,.slice A9 26 c9,.slice A14 11 c14,.slice A15 6 c15] _ 7)⟩⟩
 obtain ⟨W,hW,HB2,D2,HF2⟩ := HN
 rw [← hW]
 clear hW D HF HB
 clear g0_ g1_ g2_ g3_ g4_ g5_ g6_ g7_ g8_ g9_ g10_ g11_ g12_ g13_ g14_ f7_ f8_ f9_ f10_ f11_ f12_ f13_
 obtain ⟨g0_,g1_,g2_,g3_,g4_,g5_,g6_,g7_,g8_,g9_,g10_,g11_,g12_,g13_,g14_⟩ := cells_15 HB2.out
 obtain ⟨h0_,h1_,h2_,h3_,h4_,h5_,h6_,h7_,h8_,h9_,h10_,h11_,h12_,h13_,h14_⟩ := cells_15 D2.out.h1
 have e0_ := froz_n D2.out.h1 0
 have e1_ := froz_n D2.out.h1 1
 have e2_ := froz_n D2.out.h1 2
 have e3_ := froz_n D2.out.h1 3
 have e4_ := froz_n D2.out.h1 4
 have e5_ := froz_n D2.out.h1 5
 have e6_ := froz_n D2.out.h1 6
 have e7_ := froz_n D2.out.h1 7
 have e8_ := froz_n D2.out.h1 8
 have e9_ := froz_n D2.out.h1 9
 have e10_ := froz_n D2.out.h1 10
 have e11_ := froz_n D2.out.h1 11
 have e12_ := froz_n D2.out.h1 12
 have e13_ := froz_n D2.out.h1 13
 have e14_ := froz_n D2.out.h1 14
 go_wp2
 obtain ⟨q1,q2,q4⟩ := blt_end D2.out HF2.out HC0.out HCt.out HC5.out HC1c.out HC2.out HCu.out HC9.out HC14.out HC15.out (putAll_15 _ _ _ _ _ _ _ _ _ _ _ _ _ _ _ _ _).symm
 refine bodyPost_ret (results_cell_row rfl _ _ w.heap.size 35 _ (0,0) _ rfl q1 hu35 rfl (by kernel_rfl)) rfl ?_
 exact ⟨⟨⟨A0,c0,At,ct,A5,c5,some ⟨w3.heap.size,0,none⟩,11,A1c,c1c⟩,⟨A2,c2,Au,cu,A9,c9,A14,c14,A15,c15⟩,bs_val ⟨A0,c0,At,ct,A5,c5,some ⟨w3.heap.size,0,none⟩,11,A1c,c1c⟩ ⟨A2,c2,Au,cu,A9,c9,A14,c14,A15,c15⟩,q2⟩,q4⟩
theorem groatref24_Built.at (w : World) :
  Calls prog 26 #[] w fun e w' => (∃ p q : Ad,e = .returned (.agg #[.int .i64 bs0.st,.int .i64 bs0.ver,.slice p.A1 bs0.l.length p.c1,.slice p.Am bs0.ms.length p.cm,.slice p.Ar bs0.rs.length p.cr,.slice p.Ae bs0.echo.length p.ce,.slice p.Ac bs0.cs.length p.cc,.int .i64 bs1.st,.int .i64 bs1.ver,.slice q.A1 bs1.l.length q.c1,.slice q.Am bs1.ms.length q.cm,.slice q.Ar bs1.rs.length q.cr,.slice q.Ae bs1.echo.length q.ce,.slice q.Ac bs1.cs.length q.cc,.int .i64 4096]) ∧ SdAt w' bs0 p ∧ SdAt w' bs1 q) ∧ Below w.heap.size w w' :=
 (groatref24_Built.ft w).mono fun e w' ⟨⟨p,q,he,h⟩,hb⟩ => ⟨⟨p,q,he,h.now.1,h.now.2⟩,hb⟩
end
theorem kept_C (W : World) : Calls prog 62 #[] W fun e w' => ∃ A' c',e = .returned (.slice A' 21 c') ∧ 21 ≤ c' ∧ (∀ ok : Nat → Prop,(∀ k,W.heap.size ≤ k → ok k) → Kd.F k94 w' ok A' 21 keptP) ∧ Below W.heap.size W w' := by
 refine (groatref24_kept.calls 30 keptP W kept_eq).mono ?_
 rintro e w' ⟨v,rfl,ho,hb⟩
 have hR := Kd.S_R ho
 obtain ⟨A',c',rfl⟩ := Kd.R_slice hR
 obtain ⟨_,h1,h2⟩ := Kd.R_reads' hR
 have hl : keptP.length = 21 := lens.2.2.1
 rw [hl] at h1
 exact ⟨A',c',by rw [hl],h1,fun ok hok => by rw [← hl];exact Kd.F_mono (Kd.N_F (Kd.R_N (Kd.R_bound hR))) (fun k hk => hok k hk.2.1),hb⟩
theorem turned_eq : groatref22_Turn.f 40 typesP keptP = some (typesQ,keptP) := by kernel_rfl
theorem turn_C (A : Option Addr) (c : Nat) (A2 : Option Addr) (c2 : Nat) (W : World) (hr : Kd.C k66 W A 12 typesP) (hc : 12 ≤ c) (hr2 : Kd.C k94 W A2 21 keptP) (hc2 : 21 ≤ c2) : Calls prog 63 #[.agg #[.slice A 12 c,.slice A2 21 c2]] W fun e w' => ∃ B d B2 d2,e = .returned (.agg #[.slice B 12 d,.slice B2 21 d2]) ∧ (12 ≤ d ∧ 21 ≤ d2) ∧ Foot (fun W => Kd.C k66 W B 12 typesQ ∧ Kd.C k94 W B2 21 keptP) w' (fun k => W.heap.size ≤ k) ∧ Below W.heap.size W w' := by
 have hl : keptP.length = 21 := lens.2.2.1
 have hl2 : typesP.length = 12 := lens.1.1
 have hl3 : typesQ.length = 12 := lens.2.1.1
 have h := groatref22_Turn.calls 40 A c typesP A2 c2 keptP typesQ keptP W (by rw [hl2];exact hr) (by rw [hl2];exact hc) (by rw [hl];exact hr2) (by rw [hl];exact hc2) turned_eq
 rw [hl,hl2] at h
 refine h.mono ?_
 rintro e w' ⟨v0,v1,rfl,h1,h2,hb⟩
 have hR := Kd.S_R h2
 obtain ⟨B,d,rfl⟩ := Kd.R_slice h1
 obtain ⟨B2,d2,rfl⟩ := Kd.R_slice hR
 obtain ⟨_,a1,a2⟩ := Kd.R_reads' h1
 obtain ⟨_,b1,b2⟩ := Kd.R_reads' hR
 rw [hl3] at a1
 rw [hl] at b1
 have f1 : Kd.F k66 w' (fun k => W.heap.size ≤ k) B typesQ.length typesQ := Kd.F_mono (Kd.N_F (Kd.R_N (Kd.R_bound h1))) (fun k hk => hk.2.1)
 have f2 : Kd.F k94 w' (fun k => W.heap.size ≤ k) B2 keptP.length keptP := Kd.F_mono (Kd.N_F (Kd.R_N (Kd.R_bound hR))) (fun k hk => hk.2.1)
 rw [hl3] at f1
 rw [hl] at f2
 exact ⟨B,d,B2,d2,by rw [hl,hl3],⟨a1,b1⟩,Foot.and f1 f2,hb⟩
def ls0 : Sd := ⟨1,0,schA,typesP,keptP,echoL,codesP ⟨#[57,54]⟩ ⟨#[51,48]⟩ ⟨#[49,50]⟩⟩
def ls1 : Sd := ⟨2,1,schB,typesQ,keptP,echoL,codesP ⟨#[57,48,57]⟩ ⟨#[57,48,52]⟩ ⟨#[57,48,50]⟩⟩
theorem ls_f4 : ∀ r ∈ keptP,r.f4.length ≤ 4611686018427387904 := by decide +kernel
theorem ll_end {w w1 w2 w4 Wf : World} {p q : Ad} {Ak Bt Bk : Option Addr} {ck dt dk : Nat} (hlt : w.heap.size < w1.heap.size) (HF1 : Foot (fun W => SdAt W bs0 p ∧ SdAt W bs1 q) w1 (fun k => (w.heap.size + 1) < k)) (HB2 : Below w1.heap.size w1 w2) (HK : Kd.F k94 w2 (fun k => w1.heap.size < k) Ak 21 keptP) (hck : 21 ≤ ck) (hd : 12 ≤ dt ∧ 21 ≤ dk) (HT : Foot (fun W => Kd.C k66 W Bt 12 typesQ ∧ Kd.C k94 W Bk 21 keptP) w4 (fun k => w2.heap.size ≤ k)) (h24 : ∀ k,k ≠ w1.heap.size → k < w2.heap.size → w4.heap[k]? = w2.heap[k]?) (hb4 : Below w.heap.size w w4)
  (hD : w4.heap[w.heap.size]? = some (.cells #[.int .i64 0,.int .i64 0,.slice none 0 0,.slice none 0 0,.slice none 0 0,.slice none 0 0,.slice none 0 0,.int .i64 0,.int .i64 0,.slice none 0 0,.slice none 0 0,.slice none 0 0,.slice none 0 0,.slice none 0 0,.int .i64 0] 35 (0,0))) (hs : w1.heap.size < w2.heap.size) (hW : Wf = putAll ((w4.setCell ⟨w1.heap.size,10,none⟩ (.slice Bt 12 dt)).setCell ⟨w1.heap.size,11,none⟩ (.slice Bk 21 dk)) w.heap.size 0 [.int .i64 1,.int .i64 0,.slice p.A1 28 p.c1,.slice p.Am 12 p.cm,.slice Ak 21 ck,.slice p.Ae 11 p.ce,.slice p.Ac 6 p.cc,.int .i64 2,.int .i64 1,.slice q.A1 26 q.c1,.slice Bt 12 dt,.slice Bk 21 dk,.slice q.Ae 11 q.ce,.slice q.Ac 6 q.cc,.int .i64 4096]) :
  Wf.heap[w.heap.size]? = some (.cells (([.int .i64 1,.int .i64 0,.slice p.A1 28 p.c1,.slice p.Am 12 p.cm,.slice Ak 21 ck,.slice p.Ae 11 p.ce,.slice p.Ac 6 p.cc,.int .i64 2,.int .i64 1,.slice q.A1 26 q.c1,.slice Bt 12 dt,.slice Bk 21 dk,.slice q.Ae 11 q.ce,.slice q.Ac 6 q.cc,.int .i64 4096] : List Value)).toArray 35 (0,0)) ∧ (SdAt Wf ls0 ⟨p.A1,p.c1,p.Am,p.cm,Ak,ck,p.Ae,p.ce,p.Ac,p.cc⟩ ∧ SdAt Wf ls1 ⟨q.A1,q.c1,Bt,dt,Bk,dk,q.Ae,q.ce,q.Ac,q.cc⟩) ∧ Below w.heap.size w Wf := by
 have e2 : (w4.setCell ⟨w1.heap.size,10,none⟩ (.slice Bt 12 dt)).setCell ⟨w1.heap.size,11,none⟩ (.slice Bk 21 dk) = putAll w4 w1.heap.size 10 [.slice Bt 12 dt,.slice Bk 21 dk] := rfl
 rw [e2] at hW
 have hD2 : (putAll w4 w1.heap.size 10 [.slice Bt 12 dt,.slice Bk 21 dk]).heap[w.heap.size]? = some (.cells #[.int .i64 0,.int .i64 0,.slice none 0 0,.slice none 0 0,.slice none 0 0,.slice none 0 0,.slice none 0 0,.int .i64 0,.int .i64 0,.slice none 0 0,.slice none 0 0,.slice none 0 0,.slice none 0 0,.slice none 0 0,.int .i64 0] 35 (0,0)) := (putAll_heap (Nat.ne_of_lt hlt) _ _ _).trans hD
 have h1 : Wf.heap[w.heap.size]? = some (.cells (([.int .i64 1,.int .i64 0,.slice p.A1 28 p.c1,.slice p.Am 12 p.cm,.slice Ak 21 ck,.slice p.Ae 11 p.ce,.slice p.Ac 6 p.cc,.int .i64 2,.int .i64 1,.slice q.A1 26 q.c1,.slice Bt 12 dt,.slice Bk 21 dk,.slice q.Ae 11 q.ce,.slice q.Ac 6 q.cc,.int .i64 4096] : List Value)).toArray 35 (0,0)) := by rw [hW];exact putAll_full hD2 rfl
 have hh : ∀ k,k ≠ w.heap.size → k ≠ w1.heap.size → Wf.heap[k]? = w4.heap[k]? := fun k a b => by rw [hW,putAll_heap a,putAll_heap b]
 have hB : Below w.heap.size w Wf := by rw [hW];exact putAll_below (Nat.le_refl _) _ 0 (putAll_below (Nat.le_of_lt hlt) _ 10 hb4)
 clear hW hD hD2 e2
 obtain ⟨s0,s1⟩ := HF1 Wf (fun k a b => by rw [hh k (by omega) (by omega),h24 k (by omega) (by have := HB2.size;omega)];exact HB2.block k b)
 have hk := HK Wf (fun k a b => by rw [hh k (by omega) (by omega),h24 k (by omega) b])
 obtain ⟨t1,t2⟩ := HT Wf (fun k a b => hh k (by omega) (by omega))
 have l1 := lensB
 refine ⟨h1,⟨SdAt_mk (n1 := 28) (nm := 12) (nr := 21) (ne := 11) (nc := 6) ?_ ?_ ?_ ?_ hk hck ?_ ?_ ?_ ?_ (by decide) ls_f4,SdAt_mk (n1 := 26) (nm := 12) (nr := 21) (ne := 11) (nc := 6) ?_ ?_ t1 hd.1 t2 hd.2 ?_ ?_ ?_ ?_ (by decide) ls_f4⟩,hB⟩
 ·have := s0.r1;rw [l1.1.1] at this;exact this
 ·have := s0.h1;rw [l1.1.1] at this;exact this
 ·have := s0.rm;rw [l1.1.2.1] at this;exact this
 ·have := s0.hm;rw [l1.1.2.1] at this;exact this
 ·have := s0.re;rw [l1.1.2.2.2.1] at this;exact this
 ·have := s0.he;rw [l1.1.2.2.2.1] at this;exact this
 ·have := s0.rc;rw [l1.1.2.2.2.2] at this;exact this
 ·have := s0.hc;rw [l1.1.2.2.2.2] at this;exact this
 ·have := s1.r1;rw [l1.2.1] at this;exact this
 ·have := s1.h1;rw [l1.2.1] at this;exact this
 ·have := s1.re;rw [l1.2.2.2.2.1] at this;exact this
 ·have := s1.he;rw [l1.2.2.2.2.1] at this;exact this
 ·have := s1.rc;rw [l1.2.2.2.2.2] at this;exact this
 ·have := s1.hc;rw [l1.2.2.2.2.2] at this;exact this
set_option maxHeartbeats 4000000 in
theorem groatref24_Lossless.at (w : World) :
  Calls prog 21 #[] w fun e w' => (∃ p q : Ad,e = .returned (.agg #[.int .i64 1,.int .i64 0,.slice p.A1 28 p.c1,.slice p.Am 12 p.cm,.slice p.Ar 21 p.cr,.slice p.Ae 11 p.ce,.slice p.Ac 6 p.cc,.int .i64 2,.int .i64 1,.slice q.A1 26 q.c1,.slice q.Am 12 q.cm,.slice q.Ar 21 q.cr,.slice q.Ae 11 q.ce,.slice q.Ac 6 q.cc,.int .i64 4096]) ∧ SdAt w' ls0 p ∧ SdAt w' ls1 q) ∧ Below w.heap.size w w' := by
 have hu35 := underlying35
 have hu33 := underlying33
 have hu32 := underlying32
 have hu28 := underlying28
 have D0 := aS (Box1.start w (.cells #[.int .i64 0,.int .i64 0,.slice none 0 0,.slice none 0 0,.slice none 0 0,.slice none 0 0,.slice none 0 0,.int .i64 0,.int .i64 0,.slice none 0 0,.slice none 0 0,.slice none 0 0,.slice none 0 0,.slice none 0 0,.int .i64 0] 35))
 go_enter func21,ntmps21
 go_wp2_with (first | (go_at_call 26;refine (groatref24_Built.ft _).mono ?_;rintro e w1 ⟨⟨p,q,rfl,h1⟩,hb1⟩;rw [lensB.1.1,lensB.1.2.1,lensB.1.2.2.1,lensB.1.2.2.2.1,lensB.1.2.2.2.2,lensB.2.1,lensB.2.2.1,lensB.2.2.2.1,lensB.2.2.2.2.1,lensB.2.2.2.2.2,show bs0.st = 1 from rfl,show bs0.ver = 0 from rfl,show bs1.st = 2 from rfl,show bs1.ver = 1 from rfl];have D := aS (D0.out.step hb1);have HF1 := aS h1;clear h1 hb1 D0) | (go_at_call 62;refine (kept_C _).mono ?_;rintro e w2 ⟨Ak,ck,rfl,hck,hk,hb2⟩;have B := aS (blk_nb hb2);have D2 := aS (D.out.step (below_a1 hb2));have HB2 := aS (below_a1 hb2);have HK := aS (hk (fun k => w1.heap.size < k) (fun k h => by rw [size_alloc] at h;omega));have HCK := aS hck;clear hck hk hb2;obtain ⟨g0_,g1_,g2_,g3_,g4_,g5_,g6_,g7_,g8_,g9_,g10_,g11_,g12_,g13_,g14_⟩ := cells_15 B.out;have f4_ := froz_n B.out 4;have f10_ := froz_n B.out 10;have f11_ := froz_n B.out 11))
 have hT3 : Kd.C k66 (w2.setCell ⟨w1.heap.size,4,none⟩ (.slice Ak 21 ck)) p.Am 12 typesP := by
  have h := (HF1.out (w2.setCell ⟨w1.heap.size,4,none⟩ (.slice Ak 21 ck)) (fun k _ h2 => (putAll_heap (Nat.ne_of_lt h2) [_] w2 4).trans (HB2.out.block k h2))).1.rm
  rw [lensB.1.2.1] at h
  exact h
 have hT4 : 12 ≤ p.cm := by
  have h := HF1.out.now.1.hm
  rw [lensB.1.2.1] at h
  exact h
 have hT5 : Kd.C k94 (w2.setCell ⟨w1.heap.size,4,none⟩ (.slice Ak 21 ck)) Ak 21 keptP := HK.out _ (fun k h1 _ => putAll_heap (Nat.ne_of_gt h1) [_] w2 4)
 go_at_call 63
 refine (turn_C p.Am p.cm Ak ck _ hT3 hT4 hT5 HCK.out).mono ?_
 rintro e w4 ⟨Bt,dt,Bk,dk,rfl,hd,hFT,hb4⟩
 have hsz : (w2.setCell ⟨w1.heap.size,4,none⟩ (.slice Ak 21 ck)).heap.size = w2.heap.size := by simp [World.setCell]
 have hlt := blk_lt D.out.h1
 have B4 := aS (k_B (blk_put B.out 4 (.slice Ak 21 ck) rfl) hb4)
 have D4 := aS (k_B ((putAll_heap (Nat.ne_of_lt hlt) [.slice Ak 21 ck] w2 4).trans D2.out.h1) hb4)
 rw [hsz] at hFT
 have hB4 : Below w.heap.size w w4 := b_s ((D2.out.below).setCell (p := ⟨w1.heap.size,4,none⟩) (Nat.le_of_lt hlt) (.slice Ak 21 ck)) hb4
 have h24 : ∀ k,k ≠ w1.heap.size → k < w2.heap.size → w4.heap[k]? = w2.heap[k]? := fun k a b => (hb4.block k (by rw [hsz];exact b)).trans (putAll_heap a [.slice Ak 21 ck] w2 4)
 have HLT : Aside0 (∀ Wf,Wf = _ → _) := ⟨fun Wf hW => ll_end (Wf := Wf) hlt (by rw [← size_alloc w (.cells #[.int .i64 0,.int .i64 0,.slice none 0 0,.slice none 0 0,.slice none 0 0,.slice none 0 0,.slice none 0 0,.int .i64 0,.int .i64 0,.slice none 0 0,.slice none 0 0,.slice none 0 0,.slice none 0 0,.slice none 0 0,.int .i64 0] 35)];exact HF1.out) HB2.out HK.out HCK.out hd hFT h24 hB4 D4.out (blk_lt B.out) hW⟩
 clear hT3 hT4 hT5 hsz hFT hB4 h24 hd hb4 g0_ g1_ g2_ g3_ g4_ g5_ g6_ g7_ g8_ g9_ g10_ g11_ g12_ g13_ g14_ f4_ f10_ f11_
 obtain ⟨g0_,g1_,g2_,g3_,g4_,g5_,g6_,g7_,g8_,g9_,g10_,g11_,g12_,g13_,g14_⟩ := cells_15 B4.out
 have f10_ := froz_n B4.out 10
 have f11_ := froz_n B4.out 11
 have HB5 := aS (blk_put (blk_put B4.out 10 (.slice Bt 12 dt) rfl) 11 (.slice Bk 21 dk) rfl)
 have HD5 := aS ((putAll_heap (Nat.ne_of_lt hlt) [.slice Bt 12 dt,.slice Bk 21 dk] w4 10).trans D4.out)
 have HNE : Aside0 (w.heap.size ≠ w1.heap.size) := ⟨Nat.ne_of_lt hlt⟩
 clear hlt
 simp only []
 iterate 16 (first | go_values | go_skip | go_guarded | go_step | go_upon)
 clear g0_ g1_ g2_ g3_ g4_ g5_ g6_ g7_ g8_ g9_ g10_ g11_ g12_ g13_ g14_ f10_ f11_
 have HN : ∃ W,W = (w4.setCell ⟨w1.heap.size,10,none⟩ (.slice Bt 12 dt)).setCell ⟨w1.heap.size,11,none⟩ (.slice Bk 21 dk) := ⟨_,rfl⟩
 obtain ⟨W,hW⟩ := HN
 have B5 : Aside0 (W.heap[w1.heap.size]? = some (.cells ([.int .i64 1,.int .i64 0,.slice p.A1 28 p.c1,.slice p.Am 12 p.cm,.slice Ak 21 ck,.slice p.Ae 11 p.ce,.slice p.Ac 6 p.cc,.int .i64 2,.int .i64 1,.slice q.A1 26 q.c1,.slice Bt 12 dt,.slice Bk 21 dk,.slice q.Ae 11 q.ce,.slice q.Ac 6 q.cc,.int .i64 4096] : List Value).toArray 35 (0,0))) := ⟨by rw [hW];exact HB5.out⟩
 have D5 : Aside0 (W.heap[w.heap.size]? = some (.cells #[.int .i64 0,.int .i64 0,.slice none 0 0,.slice none 0 0,.slice none 0 0,.slice none 0 0,.slice none 0 0,.int .i64 0,.int .i64 0,.slice none 0 0,.slice none 0 0,.slice none 0 0,.slice none 0 0,.slice none 0 0,.int .i64 0] 35 (0,0))) := ⟨by rw [hW];exact HD5.out⟩
 rw [← hW]
 have HLT2 := HLT.out
 rw [← hW] at HLT2
 have HLT3 := aS HLT2
 clear hW HLT HLT2 HB5 HD5 B4 D4 B HK D2 HF1
 obtain ⟨g0_,g1_,g2_,g3_,g4_,g5_,g6_,g7_,g8_,g9_,g10_,g11_,g12_,g13_,g14_⟩ := cells_15 B5.out
 obtain ⟨h0_,h1_,h2_,h3_,h4_,h5_,h6_,h7_,h8_,h9_,h10_,h11_,h12_,h13_,h14_⟩ := cells_15 D5.out
 have e0_ := froz_n D5.out 0
 have e1_ := froz_n D5.out 1
 have e2_ := froz_n D5.out 2
 have e3_ := froz_n D5.out 3
 have e4_ := froz_n D5.out 4
 have e5_ := froz_n D5.out 5
 have e6_ := froz_n D5.out 6
 have e7_ := froz_n D5.out 7
 have e8_ := froz_n D5.out 8
 have e9_ := froz_n D5.out 9
 have e10_ := froz_n D5.out 10
 have e11_ := froz_n D5.out 11
 have e12_ := froz_n D5.out 12
 have e13_ := froz_n D5.out 13
 have e14_ := froz_n D5.out 14
 go_wp2
 obtain ⟨q1,⟨q2,q3⟩,q4⟩ := HLT3.out _ (putAll_15 _ _ _ _ _ _ _ _ _ _ _ _ _ _ _ _ _).symm
 refine bodyPost_ret (results_cell_row rfl _ _ w.heap.size 35 _ (0,0) _ rfl q1 hu35 rfl (by kernel_rfl)) rfl ?_
 exact ⟨⟨⟨p.A1,p.c1,p.Am,p.cm,Ak,ck,p.Ae,p.ce,p.Ac,p.cc⟩,⟨q.A1,q.c1,Bt,dt,Bk,dk,q.Ae,q.ce,q.Ac,q.cc⟩,rfl,q2,q3⟩,q4⟩
theorem live_enc (A : Option Addr) (c : Nat) (A2 : Option Addr) (W : World) (hr : Kd.C k87 W A schA.length schA) (hc : schA.length ≤ c) (h2 : Kd.C k63 W A2 1 [⟨11,⟨#[48,48,48,48,48,49]⟩⟩]) :
  Calls prog 12 #[.agg #[.int .i64 1,.int .i64 0,.slice A schA.length c],.agg #[.string ⟨#[48,56,48,48]⟩,.slice A2 1 1]] W fun e w' => e = .returned (.tuple #[.string ping,.agg #[.int .i64 0,.int .i64 0]]) ∧ Below W.heap.size W w' := by
 have h := wire_Encode.at 1 0 A c schA ⟨#[48,56,48,48]⟩ A2 1 [⟨11,⟨#[48,48,48,48,48,49]⟩⟩] W (by decide +kernel) hr hc (by decide) h2 (Nat.le_refl _) msg_ping
 rw [enc_ping] at h
 exact h
theorem live_dec (A : Option Addr) (c : Nat) (W : World) (hr : Kd.C k87 W A schA.length schA) (hc : schA.length ≤ c) :
  Calls prog 10 #[.agg #[.int .i64 1,.int .i64 0,.slice A schA.length c],.string ping] W fun e w' => (∃ A' c',e = .returned (.tuple #[.agg #[.string ⟨#[48,56,48,48]⟩,.slice A' 1 c'],.agg #[.int .i64 0,.int .i64 0]])) ∧ Below W.heap.size W w' := by
 have h := strict_Decode.at 1 0 A c schA ping W (by decide +kernel) hr hc sdR_bs0.1 (by decide +kernel)
 rw [dec_ping] at h
 refine h.mono ?_
 rintro e w' ⟨⟨A',c',rfl,_⟩,hb⟩
 exact ⟨⟨A',c',rfl⟩,hb⟩
theorem live_out (b : ByteArray) (p q : Ad) (W : World) (h1 : SdAt W bs0 p) (h2 : SdAt W bs1 q) (hb : b.size ≤ 100000) :
  Calls prog 9 #[.agg #[.int .i64 bs0.st,.int .i64 bs0.ver,.slice p.A1 bs0.l.length p.c1,.slice p.Am bs0.ms.length p.cm,.slice p.Ar bs0.rs.length p.cr,.slice p.Ae bs0.echo.length p.ce,.slice p.Ac bs0.cs.length p.cc,.int .i64 bs1.st,.int .i64 bs1.ver,.slice q.A1 bs1.l.length q.c1,.slice q.Am bs1.ms.length q.cm,.slice q.Ar bs1.rs.length q.cr,.slice q.Ae bs1.echo.length q.ce,.slice q.Ac bs1.cs.length q.cc,.int .i64 4096],.int .i64 0,.string b] W fun e w' => e = .returned (.tuple #[.int .i64 (outS bs0 bs1 4096 b).1,.string (outS bs0 bs1 4096 b).2]) ∧ Below W.heap.size W w' :=
 route_Outcome_0.at bs0 bs1 p q 4096 b W h1 h2 cfgK_bs hb (sideOk_of sdR_bs0) (by decide +kernel) (by decide +kernel) (Nat.le_trans (decG_len sdR_bs0.1) (by decide))
theorem live_out1 (p q : Ad) (W : World) (h1 : SdAt W bs0 p) (h2 : SdAt W bs1 q) :
  Calls prog 9 #[.agg #[.int .i64 bs0.st,.int .i64 bs0.ver,.slice p.A1 bs0.l.length p.c1,.slice p.Am bs0.ms.length p.cm,.slice p.Ar bs0.rs.length p.cr,.slice p.Ae bs0.echo.length p.ce,.slice p.Ac bs0.cs.length p.cc,.int .i64 bs1.st,.int .i64 bs1.ver,.slice q.A1 bs1.l.length q.c1,.slice q.Am bs1.ms.length q.cm,.slice q.Ar bs1.rs.length q.cr,.slice q.Ae bs1.echo.length q.ce,.slice q.Ac bs1.cs.length q.cc,.int .i64 4096],.int .i64 0,.string ping] W fun e w' => (∃ r : ByteArray,e = .returned (.tuple #[.int .i64 1,.string r]) ∧ r.size = 15) ∧ Below W.heap.size W w' := by
 have h := live_out ping p q W h1 h2 (by decide +kernel)
 refine h.mono ?_
 rintro e w' ⟨rfl,hb⟩
 exact ⟨⟨_,by rw [out_ping.1],out_ping.2⟩,hb⟩
theorem live_out2 (p q : Ad) (W : World) (h1 : SdAt W bs0 p) (h2 : SdAt W bs1 q) :
  Calls prog 9 #[.agg #[.int .i64 bs0.st,.int .i64 bs0.ver,.slice p.A1 bs0.l.length p.c1,.slice p.Am bs0.ms.length p.cm,.slice p.Ar bs0.rs.length p.cr,.slice p.Ae bs0.echo.length p.ce,.slice p.Ac bs0.cs.length p.cc,.int .i64 bs1.st,.int .i64 bs1.ver,.slice q.A1 bs1.l.length q.c1,.slice q.Am bs1.ms.length q.cm,.slice q.Ar bs1.rs.length q.cr,.slice q.Ae bs1.echo.length q.ce,.slice q.Ac bs1.cs.length q.cc,.int .i64 4096],.int .i64 0,.string (ping ++ ⟨#[48]⟩)] W fun e w' => e = .returned (.tuple #[.int .i64 2,.string ping0]) ∧ Below W.heap.size W w' := by
 have h := live_out (ping ++ ⟨#[48]⟩) p q W h1 h2 (by decide +kernel)
 rw [out_ping0.1,out_ping0.2] at h
 exact h
theorem ping_eq : (ping == ⟨#[48,56,48,48,48,48,50,48,48,48,48,48,48,48,48,48,48,48,48,48,48,48,48,48,48,49]⟩) = true := by decide +kernel
theorem ping0_eq : (ping0 == ⟨#[48,56,49,48,48,48,50,48,48,48,48,48,48,50,48,48,48,48,48,48,48,48,48,48,48,49,51,48]⟩) = true := by decide +kernel
theorem ping_eq2 : (ping.toList == [48,56,48,48,48,48,50,48,48,48,48,48,48,48,48,48,48,48,48,48,48,48,48,48,48,49]) = true := by decide +kernel
theorem ping_size : ping.size = 26 := by decide +kernel
theorem ping0_eq2 : (ping0.toList == [48,56,49,48,48,48,50,48,48,48,48,48,48,50,48,48,48,48,48,48,48,48,48,48,48,49,51,48]) = true := by decide +kernel
set_option maxHeartbeats 4000000 in
theorem groattop_live.at (w : World) : Calls prog 6 #[] w fun e w' => e = .returned (.bool true) ∧ Below w.heap.size w w' := by
 have hu24 := underlying24
 have hu42 := underlying42
 have hu45 := underlying45
 have hu63 := underlying63
 have hp1 := ping_eq
 have hp2 := ping0_eq
 have hp3 := ping0_eq2
 have hp4 := ping_eq2
 have hp5 := ping_size
 go_enter func6,ntmps6
 go_wp2_with (first | (go_at_call 25;refine (schema_at 40 0 1 0 schA schA.length rfl schA_eq _).mono ?_;rintro e w1 ⟨A0,c0,rfl,hc,hF,hb⟩;have HC0 := aS hc;have HF0 := aS (hF (fun _ => True) (fun _ _ => trivial));have HB := aS hb;clear hc hF hb) | (go_at_call 12;refine (live_enc A0 c0 (some ⟨w1.heap.size + 1,0,none⟩) _ (c_B (Kd.F_now HF0.out) (b_l (b_l (Below.refl w1.heap.size w1) _) _)) HC0.out (flat63_C (xs := [⟨11,⟨#[48,48,48,48,48,49]⟩⟩]) (by decide) (alloc2 w1 _ _))).mono ?_;rintro e w2 ⟨rfl,hb⟩;have D := aS ((Box1.start w1 (.cells #[.int .i64 1,.int .i64 0,.slice A0 schA.length c0] 24)).step (b_s (bO _) hb));have HF0_ := aS (Foot.below HF0.out D.out.below);have HB_ := aS (b_s HB.out D.out.below);clear HF0 HB hb;have HF0 := HF0_;have HB := HB_;clear HF0_ HB_;have ys := cells_3a D.out.h1) | (go_at_call 10;refine (live_dec A0 c0 _ (c_B (Kd.F_now HF0.out) (bO _)) HC0.out).mono ?_;rintro e w3 ⟨⟨A3,c3,rfl⟩,hb⟩;have E3 := aS ((Box1.start w2 (.cells #[.int .i64 0,.int .i64 0] 45)).step hb);have HB_ := aS (b_s HB.out E3.out.below);clear HB hb ys D;have HB := HB_;clear HB_) | (have X9 := HX9;clear X9;go_at_call 26;refine (groatref24_Built.at _).mono ?_;rintro e w6 ⟨⟨p2,q2,rfl,h1,h2⟩,hb⟩;have HY := aS hb;have H1 := aS h1;have H2 := aS h2;clear h1 h2 hb) | (go_at_call 26;refine (groatref24_Built.at _).mono ?_;rintro e w4 ⟨⟨p,q,rfl,h1,h2⟩,hb⟩;have E45 := aS ((Box2.start w3 (.cells #[.string ⟨#[48,56,48,48]⟩,.slice A3 1 c3] 42) (.cells #[.int .i64 0,.int .i64 0] 45)).step hb);have E3_ := aS (E3.out.step E45.out.below);have HB_ := aS (b_s HB.out E45.out.below);have H1 := aS h1;have H2 := aS h2;clear h1 h2 hb HB E3;have HB := HB_;have E3 := E3_;clear HB_ E3_) | (have X9 := HY;clear X9;go_at_call 9;refine (live_out2 p2 q2 _ H1.out H2.out).mono ?_;rintro e w7 ⟨rfl,hb⟩;have HZ := aS (b_s HY.out hb);clear HY hb;have E45_ := aS (E45.out.step HZ.out);have E3_ := aS (E3.out.step HZ.out);have HB_ := aS (b_s HB.out HZ.out);clear HB E3 E45;have HB := HB_;have E3 := E3_;have E45 := E45_;clear HB_ E3_ E45_;obtain ⟨g0,g1⟩ := cells_2 E3.out.h1;obtain ⟨g2,g3⟩ := cells_2 E45.out.h1;obtain ⟨g4,g5⟩ := cells_2 E45.out.h2;have h15 : ((r.size : Int) == 15) = true := by rw [HX9.out];rfl) | (go_at_call 9;refine (live_out1 p q _ H1.out H2.out).mono ?_;rintro e w5 ⟨⟨r,rfl,hr⟩,hb⟩;have HX9 := aS hr;have E45_ := aS (E45.out.step hb);have E3_ := aS (E3.out.step hb);have HB_ := aS (b_s HB.out hb);clear H1 H2 hr hb HB E3 E45;have HB := HB_;have E3 := E3_;have E45 := E45_;clear HB_ E3_ E45_))
 go_ret
 exact ⟨rfl,HB.out⟩
def lossL : List Int := [2,3,4,7,11,12,14,23,32,35,37,38,41,42,49,52,55,64,70,102,128]
theorem kept_rule : ∀ n ∈ lossL,ruleS n keptP = (⟨if n = 12 then 4 else 1,n,n,⟨#[]⟩,[]⟩,true) := by
 intro n hn
 unfold lossL at hn
 iterate 21 (rcases List.mem_cons.1 hn with rfl | hn;· kernel_rfl)
 cases hn
theorem kept_const : constS keptP [] = [] := by decide +kernel
theorem withM_end {no : Int} {t : ByteArray} : ∀ {acc : List S63},(∀ x ∈ acc,x.f0 < no) → withM no t acc = acc ++ [⟨no,t⟩] := by
 intro acc h
 have h1 : ∀ l : List S63,(∀ x ∈ l,x.f0 < no) → withoutS no l = l := by
  intro l hl
  induction l with
  | nil => rfl
  | cons x l ih =>
   have := hl x (by simp)
   rw [withoutS,if_neg (by omega),ih (fun y hy => hl y (List.mem_cons_of_mem _ hy))]
 have h2 : ∀ l : List S63,(∀ x ∈ l,x.f0 < no) → insR no t l = l ++ [⟨no,t⟩] := by
  intro l hl
  induction l with
  | nil => rfl
  | cons x l ih =>
   have := hl x (by simp)
   rw [insR,if_neg (by omega),ih (fun y hy => hl y (List.mem_cons_of_mem _ hy))]
   rfl
 rw [withM,h1 acc h,insS_insR,h2 acc h]
def keepT (w : Int) (x : S63) : S63 := ⟨x.f0,if x.f0 = 12 then (padS x.f1 w).1 else x.f1⟩
theorem transL_kept {l2 : List S87} {w : Int} (hw : (findS 12 l2).1.f3 = w) : ∀ {xs acc : List S63} {last : Int} {l : List S87},fieldsOk l last xs = true → (∀ x ∈ acc,x.f0 ≤ last) → (∀ x ∈ xs,x.f0 ∈ lossL ∧ (x.f0 = 12 → (padS x.f1 w).2 = true)) → transL l2 keptP xs acc = (acc ++ xs.map (keepT w),0,0)
 | [],acc,_,_,_,_,_ => by rw [transL];simp
 | x :: xs,acc,last,l,hf,ha,hx => by
  obtain ⟨h1,h2,h3,h4⟩ := fieldsOk_cons hf
  obtain ⟨k1,k2⟩ := hx x (by simp)
  have hr := kept_rule x.f0 k1
  have h0 : 0 < x.f0 := (by decide : ∀ n ∈ lossL,0 < n) _ k1
  have hap : applyS l2 ⟨if x.f0 = 12 then 4 else 1,x.f0,x.f0,⟨#[]⟩,[]⟩ x.f1 = (keepT w x,0) := by
   unfold applyS keepT
   by_cases c : x.f0 = 12
   ·rw [if_pos c,if_pos c]
    simp only [c,hw]
    rw [if_neg (by decide),if_neg (by decide),if_neg (by decide),if_pos (by decide),if_neg (by rw [k2 c];simp)]
   ·rw [if_neg c,if_neg c]
    rfl
  rw [transL,hr,if_neg (by simp),hap,if_neg (by simp),if_pos (show (keepT w x).f0 ≠ 0 by show x.f0 ≠ 0;omega),withM_end (fun y hy => by have := ha y hy;show y.f0 < x.f0;omega),
   transL_kept hw h4 (fun y hy => by
    rcases List.mem_append.1 hy with hy | hy
    ·have := ha y hy;omega
    ·rw [List.mem_singleton.1 hy];exact Int.le_refl _) (fun y hy => hx y (List.mem_cons_of_mem _ hy)),List.map_cons,List.append_assoc]
  rfl
theorem headS_no {t : ByteArray} : ∀ {l : List S66},(∀ p ∈ l,p.f0 ≠ t) → (headS t l).2 = false
 | [],_ => rfl
 | p :: ps,h => by rw [headS,if_neg (h p (by simp))];exact headS_no fun q hq => h q (List.mem_cons_of_mem _ hq)
theorem headS_some {t : ByteArray} : ∀ {l : List S66},(∃ p ∈ l,p.f0 = t) → (headS t l).2 = true
 | [],⟨_,h,_⟩ => by cases h
 | p :: ps,⟨q,hq,e⟩ => by
  rw [headS]
  split
  ·rfl
  ·rename_i c
   rcases List.mem_cons.1 hq with rfl | hq
   ·exact absurd e c
   ·exact headS_some ⟨q,hq,e⟩
theorem types_back : ∀ p ∈ typesP,headS p.f1 typesQ = (p.f0,true) := by decide +kernel
theorem cellP_le {st : Int} (hst : st = 1 ∨ st = 2) {x : S87} {t : ByteArray} (hv : specValue x t = 0) : (cellP st x t).size ≤ 3 + 2 * t.size := by
 obtain ⟨hs,h3,h4,h5,_⟩ := specValue_all hv
 have hf := specCheck_facts hs
 unfold cellP
 rw [app_size]
 have hp : (if x.f2 = 1 then (⟨#[]⟩ : ByteArray) else (preP st x.f2 t.size).1).size ≤ 3 := by
  split
  ·exact Nat.zero_le _
  ·have hd : (digP t.size (width x.f2)).1.size ≤ 3 := by
    unfold digP
    split
    ·exact Nat.zero_le _
    ·show (rng _ _).size ≤ 3
     rw [rng_size]
     unfold width
     (repeat' split) <;> decide
   unfold preP
   split
   ·exact Nat.zero_le _
   ·split
    ·show (bcdP _).1.size ≤ 3
     unfold bcdP
     split
     ·exact Nat.zero_le _
     ·show (rng _ _).size ≤ 3
      rw [rng_size];omega
    ·exact hd
 have hc : (if howV st x.f1 = 1 then (bcdP t).1 else if howV st x.f1 = 2 then hexP t else t).size ≤ 2 * t.size := by
  split
  ·unfold bcdP
   split
   ·exact Nat.zero_le _
   ·show (rng _ _).size ≤ _
    rw [rng_size];omega
  ·split
   ·rw [hexP_sz];exact Nat.le_refl _
   ·omega
 omega
def capS (l : List S87) (n : Int) : Nat := 3 + 2 * (findS n l).1.f4.toNat
def capL (l : List S87) (a : Int) : Nat := ((lossL.filter fun n => decide (a < n)).map (capS l)).sum
theorem capA : ∀ a ∈ 0 :: lossL,∀ b ∈ lossL,a < b → capS schA b + capL schA b ≤ capL schA a := by decide +kernel
theorem capB : ∀ a ∈ 0 :: lossL,∀ b ∈ lossL,a < b → capS schB b + capL schB b ≤ capL schB a := by decide +kernel
theorem cap0 : capL schA 0 ≤ 2000 ∧ capL schB 0 ≤ 2000 := by decide +kernel
theorem encF_cap {st : Int} (hst : st = 1 ∨ st = 2) {l : List S87} (hcap : ∀ a ∈ 0 :: lossL,∀ b ∈ lossL,a < b → capS l b + capL l b ≤ capL l a) : ∀ {xs : List S63} {last : Int},last ∈ 0 :: lossL → fieldsOk l last xs = true → (∀ x ∈ xs,x.f0 ∈ lossL) → ∀ acc,(encF st l xs acc).size ≤ acc.size + capL l last
 | [],_,_,_,_,acc => Nat.le_add_right _ _
 | x :: xs,last,hl,hf,hx,acc => by
  obtain ⟨h1,h2,h3,h4⟩ := fieldsOk_cons hf
  have hxl := hx x (by simp)
  have h5 := cellP_le hst h3
  have h6 := specValue_all h3
  have h7 := encF_cap hst hcap (List.mem_cons_of_mem _ hxl) h4 (fun y hy => hx y (List.mem_cons_of_mem _ hy)) (acc ++ cellP st (findS x.f0 l).1 x.f1)
  have h8 := hcap last hl x.f0 hxl h1
  rw [encF]
  rw [app_size] at h7
  unfold capS at h8
  omega
theorem encS_cap {st ver : Int} {l : List S87} {m : ByteArray} {xs : List S63} (hcap : ∀ a ∈ 0 :: lossL,∀ b ∈ lossL,a < b → capS l b + capL l b ≤ capL l a) (h0 : capL l 0 ≤ 2000) (h : msgOk st ver l m xs = true) (hx : ∀ x ∈ xs,x.f0 ∈ lossL) : (encS st l m xs).size ≤ 4096 := by
 unfold msgOk at h
 simp only [Bool.and_eq_true,decide_eq_true_eq] at h
 obtain ⟨hs,hv,hf⟩ := h
 have hst := (schemaCheck_ok hs).1
 have hm : m.size = 4 := (isMti_iff.1 (show isMti m = true by unfold verV at hv;split at hv;assumption;cases hv)).1
 have h1 := encF_cap hst hcap (by simp) hf hx (typP st m ++ bmP st (setS xs (0,0)))
 have h2 : (typP st m).size ≤ 4 := by
  unfold typP
  split
  ·omega
  ·unfold bcdP
   split
   ·exact Nat.zero_le _
   ·show (rng _ _).size ≤ 4
    rw [rng_size];omega
 have h3 : (bmP st (setS xs (0,0))).size ≤ 32 := by
  unfold bmP
  (repeat' split) <;> simp only [hexP_sz,app_size,str8_size] <;> decide
 unfold encS
 rw [app_size] at h1
 omega
theorem ans_ne (s : Sd) (most : Int) (m : ByteArray) (fs : List S63) (err : Int) : (answerS s most m fs err).1 ≠ 1 := by
 unfold answerS
 (repeat' split) <;> simp
theorem pad12 {t : ByteArray} (hz : t.size = 6) : (padS t 12).2 = true ∧ (padS t 12).1 = (⟨#[48,48,48,48,48,48]⟩ : ByteArray) ++ t := by
 unfold padS
 rw [if_pos (by omega),show ((12 : Int) - t.size).toNat = 6 by omega]
 exact ⟨rfl,rfl⟩
theorem pad6 {t : ByteArray} (hz : t.size = 6) : padS ((⟨#[48,48,48,48,48,48]⟩ : ByteArray) ++ t) 6 = (t,true) := by
 have hs : ((⟨#[48,48,48,48,48,48]⟩ : ByteArray) ++ t).size = 12 := by rw [app_size,hz];rfl
 have e1 : ((⟨#[48,48,48,48,48,48]⟩ : ByteArray) ++ t).extract 0 6 = ⟨#[48,48,48,48,48,48]⟩ := by
  have := ex_mid (p := ⟨#[]⟩) (s := ⟨#[48,48,48,48,48,48]⟩) (q := t) (i := 0) (j := 6) rfl rfl
  rwa [emp_app] at this
 have e2 : ((⟨#[48,48,48,48,48,48]⟩ : ByteArray) ++ t).extract 6 12 = t := by
  have := ex_mid (p := ⟨#[48,48,48,48,48,48]⟩) (s := t) (q := ⟨#[]⟩) (i := 6) (j := 12) rfl (by rw [hz];rfl)
  rwa [show ∀ a : ByteArray,a ++ (⟨#[]⟩ : ByteArray) = a from fun a => ByteArray.append_empty] at this
 unfold padS
 rw [if_neg (by rw [hs];decide),hs,show (((12 : Nat) : Int) - 6).toNat = 6 by decide,e1,if_pos (by decide +kernel),e2]
theorem field12 : (findS 12 schB).1.f3 = 12 ∧ (findS 12 schA).1.f3 = 6 ∧ (findS 12 schA).1.f4 = 6 := by decide +kernel
theorem outS_fwd {s t : Sd} {m m' : ByteArray} {xs ys : List S63} (hx : msgOk s.st s.ver s.l m xs = true) (ht : transS s.ms s.rs t.l m xs = ((m',ys),0,0)) (hz : (encS t.st t.l m' ys).size ≤ 4096) : outS s t 4096 (encS s.st s.l m xs) = (1,encS t.st t.l m' ys) := by
 unfold outS
 rw [dec_enc hx,if_neg (by simp),ht,if_neg (by simp),if_neg (by show ¬ (4096 : Int) < ((encS t.st t.l m' ys).size : Int);omega)]
theorem built_no {m : ByteArray} {xs : List S63} (hx : msgOk 1 0 schA m xs = true) (hp : ∀ p ∈ typesP,p.f0 ≠ m) : (outS ls0 ls1 4096 (encS 1 schA m xs)).1 ≠ 1 := by
 have ht : (transS ls0.ms ls0.rs ls1.l m xs).2.1 = 7 := by
  unfold transS
  rw [if_pos (show (headS m ls0.ms).2 = false from headS_no hp)]
 unfold outS
 rw [show ls0.st = 1 from rfl,show ls0.ver = 0 from rfl,show ls0.l = schA from rfl,dec_enc hx,if_neg (by simp),if_pos (by rw [ht];decide)]
 exact ans_ne _ _ _ _ _
theorem mapOk_ls0 : mapOk ls0.ms ls0.rs ls0.st ls0.ver ls0.l ls1.st ls1.ver ls1.l := by
 unfold mapOk typedOk ruleOk endsOk tableOk
 decide +kernel
theorem mapOk_ls1 : mapOk ls1.ms ls1.rs ls1.st ls1.ver ls1.l ls0.st ls0.ver ls0.l := by
 unfold mapOk typedOk ruleOk endsOk tableOk
 decide +kernel
theorem sdR_ls0 : sdR ls0 := by
 unfold sdR sideR
 decide +kernel
theorem sdR_ls1 : sdR ls1 := by
 unfold sdR sideR
 decide +kernel
theorem cfgK_ls : cfgK ls0 ls1 4096 := ⟨by decide,⟨sdR_ls0,mapOk_ls0⟩,sdR_ls1,mapOk_ls1⟩
theorem built_yes {m : ByteArray} {xs : List S63} (hx : msgOk 1 0 schA m xs = true) (hl : ∀ x ∈ xs,x.f0 ∈ lossL) (hp : ∃ p ∈ typesP,p.f0 = m) :
  (outS ls0 ls1 4096 (encS 1 schA m xs)).1 = 1 ∧ outS ls1 ls0 4096 (outS ls0 ls1 4096 (encS 1 schA m xs)).2 = (1,encS 1 schA m xs) ∧ (encS 1 schA m xs).size ≤ 4096 ∧ (outS ls0 ls1 4096 (encS 1 schA m xs)).2.size ≤ 4096 := by
 have hx' := hx
 unfold msgOk at hx'
 simp only [Bool.and_eq_true,decide_eq_true_eq] at hx'
 obtain ⟨hs,hv,hf⟩ := hx'
 obtain ⟨p,hpm,hpe,hph⟩ := headS_ok (headS_some hp)
 have h12 : ∀ x ∈ xs,x.f0 = 12 → x.f1.size = 6 := fun x hxx e => by
  have := specValue_all (fieldsOk_mem hf x hxx).2
  rw [e,field12.2.1,field12.2.2] at this
  omega
 have hT : transS ls0.ms ls0.rs ls1.l m xs = (((headS m typesP).1,xs.map (keepT 12)),0,0) := by
  have hk := transL_kept (l2 := schB) (w := 12) field12.1 (acc := []) hf (by simp) (fun x hxx => ⟨hl x hxx,fun e => (pad12 (h12 x hxx e)).1⟩)
  show transS typesP keptP schB m xs = _
  unfold transS
  rw [headS_some hp,if_neg (by simp),kept_const,hk,if_neg (by simp),List.nil_append]
 have hy := transS_ok mapOk_ls0 hx (by rw [hT])
 rw [hT] at hy
 have hyl : ∀ y ∈ xs.map (keepT 12),y.f0 ∈ lossL := fun y h => by obtain ⟨x,h1,rfl⟩ := List.mem_map.1 h;exact hl x h1
 have hz := encS_cap capB cap0.2 hy hyl
 have hz0 := encS_cap capA cap0.1 hx hl
 have h1 := outS_fwd (s := ls0) (t := ls1) hx hT hz
 have hback : headS (headS m typesP).1 typesQ = (m,true) := by rw [hph,types_back p hpm,hpe]
 have hmap : (xs.map (keepT 12)).map (keepT 6) = xs := by
  rw [List.map_map]
  conv => rhs;rw [← List.map_id xs]
  apply List.map_congr_left
  intro x hxx
  show keepT 6 (keepT 12 x) = x
  unfold keepT
  by_cases e : x.f0 = 12
  ·have hq := h12 x hxx e
   simp only [e,if_true]
   rw [(pad12 hq).2,pad6 hq,← e]
  ·simp only [e,if_false]
 have hy' := hy
 unfold msgOk at hy'
 simp only [Bool.and_eq_true,decide_eq_true_eq] at hy'
 have hT2 : transS ls1.ms ls1.rs ls0.l (headS m typesP).1 (xs.map (keepT 12)) = ((m,xs),0,0) := by
  have hk := transL_kept (l2 := schA) (w := 6) field12.2.1 (acc := []) hy'.2.2 (by simp) (fun y h => by
   obtain ⟨x,h1,rfl⟩ := List.mem_map.1 h
   refine ⟨hl x h1,fun e => ?_⟩
   have e' : x.f0 = 12 := e
   show (padS (if x.f0 = 12 then (padS x.f1 12).1 else x.f1) 6).2 = true
   rw [if_pos e',(pad12 (h12 x h1 e')).2,pad6 (h12 x h1 e')])
  show transS typesQ keptP schA _ _ = _
  unfold transS
  rw [hback,if_neg (by simp),kept_const,hk,if_neg (by simp),List.nil_append,hmap]
 have h2 := outS_fwd (s := ls1) (t := ls0) hy hT2 hz0
 have e : outS ls0 ls1 4096 (encS 1 schA m xs) = (1,encS ls1.st ls1.l (headS m typesP).1 (xs.map (keepT 12))) := h1
 rw [e]
 exact ⟨rfl,h2,hz0,hz⟩
end Go.Proofs.YtgbmnpgaddhfpaaGreatDoor.T
