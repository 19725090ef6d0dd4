/- Walks and plain laws beneath the law TopOutcome. No conditions but what each statement names. -/
import Derived.Test.YtgbmnpgaddhfpaaGreatDoorM16
set_option linter.unusedVariables false
set_option linter.unusedSimpArgs false
namespace Go.Proofs.YtgbmnpgaddhfpaaGreatDoor.T
open Go.RowKit Go.Proofs.YtgbmnpgaddhfpaaGreatDoorW.PrintWords Go.Proofs.YtgbmnpgaddhfpaaGreatDoorW.PrintLast Go.Proofs.YtgbmnpgaddhfpaaGreatDoorW.PrintMore
attribute [local go_sem] max2_int min2_int max_two min_two
open Go.Proofs.YtgbmnpgaddhfpaaGreatDoor.G
open Tryz
set_option maxRecDepth 100000
theorem Foot.elder {P : World → Prop} {W W1 : World} {ok : Nat → Prop} {v : Value} (h : Foot P W ok) (hbase : ∀ k,v.ownBlock = some k → W.heap.size ≤ k) (hb : Below W.heap.size W W1) : Foot P W1 (fun k => ok k ∧ some k ≠ v.ownBlock) :=
 Foot.mono (Foot.old h hb) (fun k hk => ⟨hk.1,fun e => by have := hbase k e.symm;omega⟩)
def putAll (W : World) (B : Nat) : Nat → List Value → World
 | _,[] => W
 | i,u :: us => putAll (W.setCell ⟨B,i,none⟩ u) B (i + 1) us
def setA (cs : Array Value) : Nat → List Value → Array Value
 | _,[] => cs
 | i,u :: us => setA (cs.setIfInBounds i u) (i + 1) us
theorem putAll_self {B : Nat} {t : TypeId} : ∀ {us : List Value} {W : World} {cs : Array Value} (_ : W.heap[B]? = some (.cells cs t (0,0))) (i : Nat),(putAll W B i us).heap[B]? = some (.cells (setA cs i us) t (0,0))
 | [],_,_,h,_ => h
 | u :: us,_,_,h,i => putAll_self (us := us) (blk_put h i u rfl) (i + 1)
theorem putAll_heap {B k : Nat} (hk : k ≠ B) : ∀ (us : List Value) (W : World) (i : Nat),(putAll W B i us).heap[k]? = W.heap[k]?
 | [],_,_ => rfl
 | u :: us,W,i => (putAll_heap hk us _ (i + 1)).trans (Below.heap_setCell W ⟨B,i,none⟩ u k hk)
theorem putAll_below {B b : Nat} {w : World} (hB : b ≤ B) : ∀ (us : List Value) {W : World} (i : Nat),Below b w W → Below b w (putAll W B i us)
 | [],_,_,h => h
 | u :: us,_,i,h => putAll_below hB us (i + 1) (Below.setCell h (p := ⟨B,i,none⟩) hB u)
theorem empty_N (W : World) (base : Nat) (ok : Nat → Prop) (hb : base ≤ W.heap.size) (hok : ok W.heap.size) : Kd.N (Kd.int .i64) 3 (W.alloc (.cells #[] 3)) base ok (.slice (some ⟨W.heap.size,0,none⟩) 0 0) ([] : List Int) :=
 Kd.R_N ⟨fun k hk => by have h9 : W.heap.size = k := (by simpa [Value.ownBlock] using hk);exact h9 ▸ hok,[],World.ownsRow_lit (base := base) (e := 3) (size := 1) W #[] 0 hb (by decide) rfl,Reps.none _ _⟩
theorem froz_n {w : World} {g : Nat} {t : TypeId} {cs : Array Value} (h : w.heap[g]? = some (.cells cs t (0,0))) (i : Nat) : w.frozen? ⟨g,i,none⟩ = false := blk_frozen h i
theorem k94_row (W : World) (ok : Nat → Prop) (x : S94) {A : Option Addr} {c n : Nat} (hn : x.f4.length = n) (hc : n ≤ c) (h : Kd.F k66 W ok A n x.f4) : Kd.FK k94 W ok x [.int .i64 x.f0,.int .i64 x.f1,.int .i64 x.f2,.string x.f3,.slice A n c] := by subst hn;exact k94_mkF W ok x hc h
theorem there8_F {W : World} {ok : Nat → Prop} {g : Nat} {Ae Aa : Option Addr} {ce ca : Nat} (hb : W.heap[g]? = some (.cells #[.int .i64 2,.int .i64 13,.int .i64 0,.string ⟨#[]⟩,.slice none 0 0,.int .i64 2,.int .i64 18,.int .i64 0,.string ⟨#[]⟩,.slice none 0 0,.int .i64 2,.int .i64 90,.int .i64 0,.string ⟨#[]⟩,.slice none 0 0,.int .i64 5,.int .i64 22,.int .i64 22,.string ⟨#[]⟩,.slice Ae 3 ce,.int .i64 5,.int .i64 39,.int .i64 39,.string ⟨#[]⟩,.slice Aa 7 ca,.int .i64 1,.int .i64 43,.int .i64 43,.string ⟨#[]⟩,.slice none 0 0,.int .i64 1,.int .i64 48,.int .i64 48,.string ⟨#[]⟩,.slice none 0 0,.int .i64 3,.int .i64 0,.int .i64 26,.string ⟨#[53,57,57,57]⟩,.slice none 0 0] 94 (0,0))) (hg : ok g) (hce : 3 ≤ ce) (h1 : Kd.F k66 W ok Ae 3 entryP) (hca : 7 ≤ ca) (h2 : Kd.F k66 W ok Aa 7 actP) : Kd.F k94 W ok (some ⟨g,0,none⟩) 8 there8 := by
 refine lit_F (d := k94) (xs := there8) (inner := [.int .i64 2,.int .i64 13,.int .i64 0,.string ⟨#[]⟩,.slice none 0 0,.int .i64 2,.int .i64 18,.int .i64 0,.string ⟨#[]⟩,.slice none 0 0,.int .i64 2,.int .i64 90,.int .i64 0,.string ⟨#[]⟩,.slice none 0 0,.int .i64 5,.int .i64 22,.int .i64 22,.string ⟨#[]⟩,.slice Ae 3 ce,.int .i64 5,.int .i64 39,.int .i64 39,.string ⟨#[]⟩,.slice Aa 7 ca,.int .i64 1,.int .i64 43,.int .i64 43,.string ⟨#[]⟩,.slice none 0 0,.int .i64 1,.int .i64 48,.int .i64 48,.string ⟨#[]⟩,.slice none 0 0,.int .i64 3,.int .i64 0,.int .i64 26,.string ⟨#[53,57,57,57]⟩,.slice none 0 0]) hb hg (by decide) ⟨rfl,fun j p hj => ?_⟩
 match j,hj with
 | 0,hj => obtain rfl := Option.some.inj hj;exact k94_mkF W ok _ (A4 := none) (c4 := 0) (Nat.le_refl _) (Kd.F_nil _ _ _)
 | 1,hj => obtain rfl := Option.some.inj hj;exact k94_mkF W ok _ (A4 := none) (c4 := 0) (Nat.le_refl _) (Kd.F_nil _ _ _)
 | 2,hj => obtain rfl := Option.some.inj hj;exact k94_mkF W ok _ (A4 := none) (c4 := 0) (Nat.le_refl _) (Kd.F_nil _ _ _)
 | 3,hj => obtain rfl := Option.some.inj hj;exact k94_row W ok ⟨5,22,22,⟨#[]⟩,entryP⟩ lens.1.2.1 hce h1
 | 4,hj => obtain rfl := Option.some.inj hj;exact k94_row W ok ⟨5,39,39,⟨#[]⟩,actP⟩ lens.1.2.2 hca h2
 | 5,hj => obtain rfl := Option.some.inj hj;exact k94_mkF W ok _ (A4 := none) (c4 := 0) (Nat.le_refl _) (Kd.F_nil _ _ _)
 | 6,hj => obtain rfl := Option.some.inj hj;exact k94_mkF W ok _ (A4 := none) (c4 := 0) (Nat.le_refl _) (Kd.F_nil _ _ _)
 | 7,hj => obtain rfl := Option.some.inj hj;exact k94_mkF W ok _ (A4 := none) (c4 := 0) (Nat.le_refl _) (Kd.F_nil _ _ _)
 | n + 8,hj => exact absurd hj (by simp [there8])
theorem back5_F {W : World} {ok : Nat → Prop} {g : Nat} {Ae Aa : Option Addr} {ce ca : Nat} (hb : W.heap[g]? = some (.cells #[.int .i64 2,.int .i64 26,.int .i64 0,.string ⟨#[]⟩,.slice none 0 0,.int .i64 2,.int .i64 43,.int .i64 0,.string ⟨#[]⟩,.slice none 0 0,.int .i64 5,.int .i64 22,.int .i64 22,.string ⟨#[]⟩,.slice Ae 3 ce,.int .i64 5,.int .i64 39,.int .i64 39,.string ⟨#[]⟩,.slice Aa 7 ca,.int .i64 1,.int .i64 48,.int .i64 48,.string ⟨#[]⟩,.slice none 0 0] 94 (0,0))) (hg : ok g) (hce : 3 ≤ ce) (h1 : Kd.F k66 W ok Ae 3 entryQ) (hca : 7 ≤ ca) (h2 : Kd.F k66 W ok Aa 7 actQ) : Kd.F k94 W ok (some ⟨g,0,none⟩) 5 back5 := by
 refine lit_F (d := k94) (xs := back5) (inner := [.int .i64 2,.int .i64 26,.int .i64 0,.string ⟨#[]⟩,.slice none 0 0,.int .i64 2,.int .i64 43,.int .i64 0,.string ⟨#[]⟩,.slice none 0 0,.int .i64 5,.int .i64 22,.int .i64 22,.string ⟨#[]⟩,.slice Ae 3 ce,.int .i64 5,.int .i64 39,.int .i64 39,.string ⟨#[]⟩,.slice Aa 7 ca,.int .i64 1,.int .i64 48,.int .i64 48,.string ⟨#[]⟩,.slice none 0 0]) hb hg (by decide) ⟨rfl,fun j p hj => ?_⟩
 match j,hj with
 | 0,hj => obtain rfl := Option.some.inj hj;exact k94_mkF W ok _ (A4 := none) (c4 := 0) (Nat.le_refl _) (Kd.F_nil _ _ _)
 | 1,hj => obtain rfl := Option.some.inj hj;exact k94_mkF W ok _ (A4 := none) (c4 := 0) (Nat.le_refl _) (Kd.F_nil _ _ _)
 | 2,hj => obtain rfl := Option.some.inj hj;exact k94_row W ok ⟨5,22,22,⟨#[]⟩,entryQ⟩ lens.2.1.2.1 hce h1
 | 3,hj => obtain rfl := Option.some.inj hj;exact k94_row W ok ⟨5,39,39,⟨#[]⟩,actQ⟩ lens.2.1.2.2 hca h2
 | 4,hj => obtain rfl := Option.some.inj hj;exact k94_mkF W ok _ (A4 := none) (c4 := 0) (Nat.le_refl _) (Kd.F_nil _ _ _)
 | n + 5,hj => exact absurd hj (by simp [back5])
theorem len_there8 : (keptP ++ there8).length = 29 := by decide +kernel
theorem len_back5 : (keptP ++ back5).length = 26 := by decide +kernel
theorem lensB : (bs0.l.length = 28 ∧ bs0.ms.length = 12 ∧ bs0.rs.length = 29 ∧ bs0.echo.length = 11 ∧ bs0.cs.length = 6) ∧ (bs1.l.length = 26 ∧ bs1.ms.length = 12 ∧ bs1.rs.length = 26 ∧ bs1.echo.length = 11 ∧ bs1.cs.length = 6) := by decide +kernel
theorem types_C {W : World} {g : Nat} (h : W.heap[g]? = some (.cells #[.string ⟨#[48,49,48,48]⟩,.string ⟨#[49,49,48,48]⟩,.string ⟨#[48,49,49,48]⟩,.string ⟨#[49,49,49,48]⟩,.string ⟨#[48,50,48,48]⟩,.string ⟨#[49,50,48,48]⟩,.string ⟨#[48,50,49,48]⟩,.string ⟨#[49,50,49,48]⟩,.string ⟨#[48,50,50,48]⟩,.string ⟨#[49,50,50,48]⟩,.string ⟨#[48,50,51,48]⟩,.string ⟨#[49,50,51,48]⟩,.string ⟨#[48,52,48,48]⟩,.string ⟨#[49,52,48,48]⟩,.string ⟨#[48,52,49,48]⟩,.string ⟨#[49,52,49,48]⟩,.string ⟨#[48,52,50,48]⟩,.string ⟨#[49,52,50,48]⟩,.string ⟨#[48,52,51,48]⟩,.string ⟨#[49,52,51,48]⟩,.string ⟨#[48,56,48,48]⟩,.string ⟨#[49,56,48,52]⟩,.string ⟨#[48,56,49,48]⟩,.string ⟨#[49,56,49,52]⟩] 9 (0,0))) : Kd.C Kd.string W (some ⟨g,0,none⟩) 24 typesL :=
 Kd.F_now (str_F (xs := typesL) (ok := fun _ => True) h rfl trivial (by decide))
theorem entry_C {W : World} {g : Nat} (h : W.heap[g]? = some (.cells #[.string ⟨#[48,53,49]⟩,.string ⟨#[53,49,48,49,48,49,53,49,49,51,52,52]⟩,.string ⟨#[48,50,49]⟩,.string ⟨#[50,49,48,49,48,49,50,49,49,51,52,52]⟩,.string ⟨#[48,49,50]⟩,.string ⟨#[49,48,48,49,52,48,49,48,48,49,49,48]⟩] 9 (0,0))) : Kd.C Kd.string W (some ⟨g,0,none⟩) 6 entryL :=
 Kd.F_now (str_F (xs := entryL) (ok := fun _ => True) h rfl trivial (by decide))
theorem act_C {W : World} {g : Nat} (h : W.heap[g]? = some (.cells #[.string ⟨#[48,48]⟩,.string ⟨#[48,48,48]⟩,.string ⟨#[48,53]⟩,.string ⟨#[49,48,48]⟩,.string ⟨#[49,52]⟩,.string ⟨#[49,49,49]⟩,.string ⟨#[53,49]⟩,.string ⟨#[49,49,54]⟩,.string ⟨#[53,52]⟩,.string ⟨#[49,48,49]⟩,.string ⟨#[57,49]⟩,.string ⟨#[57,48,55]⟩,.string ⟨#[57,54]⟩,.string ⟨#[57,48,57]⟩] 9 (0,0))) : Kd.C Kd.string W (some ⟨g,0,none⟩) 14 actL :=
 Kd.F_now (str_F (xs := actL) (ok := fun _ => True) h rfl trivial (by decide))
theorem types_at (A : Option Addr) (c : Nat) (W : World) (hr : Kd.C Kd.string W A 24 typesL) (hc : 24 ≤ c) : Calls prog 70 #[.slice A 24 c] W fun e w' => ∃ A' c',e = .returned (.slice A' 12 c') ∧ 12 ≤ c' ∧ (∀ ok : Nat → Prop,(∀ k,W.heap.size ≤ k → ok k) → Kd.F k66 w' ok A' 12 typesP) ∧ Below W.heap.size W w' :=
 pairs_at 20 typesL typesP 24 12 rfl lens.1.1 types_eq A c W hr hc
theorem entry_at (A : Option Addr) (c : Nat) (W : World) (hr : Kd.C Kd.string W A 6 entryL) (hc : 6 ≤ c) : Calls prog 70 #[.slice A 6 c] W fun e w' => ∃ A' c',e = .returned (.slice A' 3 c') ∧ 3 ≤ c' ∧ (∀ ok : Nat → Prop,(∀ k,W.heap.size ≤ k → ok k) → Kd.F k66 w' ok A' 3 entryP) ∧ Below W.heap.size W w' :=
 pairs_at 20 entryL entryP 6 3 rfl lens.1.2.1 entry_eq A c W hr hc
theorem act_at (A : Option Addr) (c : Nat) (W : World) (hr : Kd.C Kd.string W A 14 actL) (hc : 14 ≤ c) : Calls prog 70 #[.slice A 14 c] W fun e w' => ∃ A' c',e = .returned (.slice A' 7 c') ∧ 7 ≤ c' ∧ (∀ ok : Nat → Prop,(∀ k,W.heap.size ≤ k → ok k) → Kd.F k66 w' ok A' 7 actP) ∧ Below W.heap.size W w' :=
 pairs_at 20 actL actP 14 7 rfl lens.1.2.2 act_eq A c W hr hc
theorem typesQ_at (A : Option Addr) (c : Nat) (W : World) (hr : Kd.C k66 W A 12 typesP) (hc : 12 ≤ c) : Calls prog 71 #[.slice A 12 c] W fun e w' => ∃ A' c',e = .returned (.slice A' 12 c') ∧ 12 ≤ c' ∧ (∀ ok : Nat → Prop,(∀ k,W.heap.size ≤ k → ok k) → Kd.F k66 w' ok A' 12 typesQ) ∧ Below W.heap.size W w' :=
 turn_at 20 typesP typesQ 12 12 lens.1.1 lens.2.1.1 typesQ_eq A c W hr hc
theorem entryQ_at (A : Option Addr) (c : Nat) (W : World) (hr : Kd.C k66 W A 3 entryP) (hc : 3 ≤ c) : Calls prog 71 #[.slice A 3 c] W fun e w' => ∃ A' c',e = .returned (.slice A' 3 c') ∧ 3 ≤ c' ∧ (∀ ok : Nat → Prop,(∀ k,W.heap.size ≤ k → ok k) → Kd.F k66 w' ok A' 3 entryQ) ∧ Below W.heap.size W w' :=
 turn_at 20 entryP entryQ 3 3 lens.1.2.1 lens.2.1.2.1 entryQ_eq A c W hr hc
theorem actQ_at (A : Option Addr) (c : Nat) (W : World) (hr : Kd.C k66 W A 7 actP) (hc : 7 ≤ c) : Calls prog 71 #[.slice A 7 c] W fun e w' => ∃ A' c',e = .returned (.slice A' 7 c') ∧ 7 ≤ c' ∧ (∀ ok : Nat → Prop,(∀ k,W.heap.size ≤ k → ok k) → Kd.F k66 w' ok A' 7 actQ) ∧ Below W.heap.size W w' :=
 turn_at 20 actP actQ 7 7 lens.1.2.2 lens.2.1.2.2 actQ_eq A c W hr hc
theorem echo_F {W : World} {ok : Nat → Prop} {g : Nat} (h : W.heap[g]? = some (.cells #[.int .i64 2,.int .i64 3,.int .i64 4,.int .i64 7,.int .i64 11,.int .i64 12,.int .i64 32,.int .i64 37,.int .i64 41,.int .i64 42,.int .i64 70] 3 (0,0))) (hg : ok g) : Kd.F (Kd.int .i64) W ok (some ⟨g,0,none⟩) 11 echoL := int_F (xs := echoL) h rfl hg (by decide)
theorem C_at {α : Type} {d : Kd α} {w : World} {A : Option Addr} {n : Nat} {xs : List α} (h : d.C w A n xs) : d.C w A xs.length xs := by
 have e := h.1
 subst e
 exact h
theorem SdAt_mk {w : World} {s : Sd} {p : Ad} {n1 nm nr ne nc : Nat} (h1 : Kd.C k87 w p.A1 n1 s.l) (b1 : n1 ≤ p.c1) (h2 : Kd.C k66 w p.Am nm s.ms) (b2 : nm ≤ p.cm) (h3 : Kd.C k94 w p.Ar nr s.rs) (b3 : nr ≤ p.cr) (h4 : Kd.C (Kd.int .i64) w p.Ae ne s.echo) (b4 : ne ≤ p.ce) (h5 : Kd.C k129 w p.Ac nc s.cs) (b5 : nc ≤ p.cc)
  (hb : n1 ≤ 1000 ∧ nm ≤ 1000 ∧ nr ≤ 1000 ∧ ne ≤ 1000 ∧ nc ≤ 1000) (hr : ∀ r ∈ s.rs,r.f4.length ≤ 4611686018427387904) : SdAt w s p := by
 have e1 := h1.1
 have e2 := h2.1
 have e3 := h3.1
 have e4 := h4.1
 have e5 := h5.1
 exact ⟨C_at h1,by omega,by omega,C_at h2,by omega,by omega,C_at h3,by omega,by omega,C_at h4,by omega,by omega,C_at h5,by omega,by omega,hr⟩
theorem bs0_f4 : ∀ r ∈ bs0.rs,r.f4.length ≤ 4611686018427387904 := by decide +kernel
theorem bs1_f4 : ∀ r ∈ bs1.rs,r.f4.length ≤ 4611686018427387904 := by decide +kernel
theorem bs_val (p q : Ad) : Ending.returned (.agg #[.int .i64 1,.int .i64 0,.slice p.A1 28 p.c1,.slice p.Am 12 p.cm,.slice p.Ar 29 p.cr,.slice p.Ae 11 p.ce,.slice p.Ac 6 p.cc,.int .i64 2,.int .i64 1,.slice q.A1 26 q.c1,.slice q.Am 12 q.cm,.slice q.Ar 26 q.cr,.slice q.Ae 11 q.ce,.slice q.Ac 6 q.cc,.int .i64 4096]) = Ending.returned (.agg #[.int .i64 bs0.st,.int .i64 bs0.ver,.slice p.A1 bs0.l.length p.c1,.slice p.Am bs0.ms.length p.cm,.slice p.Ar bs0.rs.length p.cr,.slice p.Ae bs0.echo.length p.ce,.slice p.Ac bs0.cs.length p.cc,.int .i64 bs1.st,.int .i64 bs1.ver,.slice q.A1 bs1.l.length q.c1,.slice q.Am bs1.ms.length q.cm,.slice q.Ar bs1.rs.length q.cr,.slice q.Ae bs1.echo.length q.ce,.slice q.Ac bs1.cs.length q.cc,.int .i64 4096]) := by
 rw [lensB.1.1,lensB.1.2.1,lensB.1.2.2.1,lensB.1.2.2.2.1,lensB.1.2.2.2.2,lensB.2.1,lensB.2.2.1,lensB.2.2.2.1,lensB.2.2.2.2.1,lensB.2.2.2.2.2]
 rfl
theorem setA_full : ∀ (us : List Value) (cs : Array Value) (i : Nat),cs.size = i + us.length → setA cs i us = (cs.toList.take i ++ us).toArray
 | [],cs,i,h => by
  rw [setA,List.append_nil,List.take_of_length_le (by simp;simp at h;omega)]
 | u :: us,cs,i,h => by
  have hl : i < cs.toList.length := by simp at h ⊢;omega
  rw [setA,setA_full us _ (i + 1) (by simp at h ⊢;omega)]
  congr 1
  rw [Array.toList_setIfInBounds,List.take_add_one,List.take_set_of_le (Nat.le_refl _),List.getElem?_set_self hl]
  simp
theorem putAll_full {B : Nat} {t : TypeId} {us : List Value} {W : World} {cs : Array Value} (h : W.heap[B]? = some (.cells cs t (0,0))) (hs : cs.size = us.length) : (putAll W B 0 us).heap[B]? = some (.cells us.toArray t (0,0)) := by
 have h2 := putAll_self (us := us) h 0
 rw [setA_full us cs 0 (by omega)] at h2
 exact h2
theorem putAll_15 (W : World) (B : Nat) (u0 u1 u2 u3 u4 u5 u6 u7 u8 u9 u10 u11 u12 u13 u14 : Value) : putAll W B 0 [u0,u1,u2,u3,u4,u5,u6,u7,u8,u9,u10,u11,u12,u13,u14] = (((((((((((((((W.setCell ⟨B,0,none⟩ u0).setCell ⟨B,1,none⟩ u1).setCell ⟨B,2,none⟩ u2).setCell ⟨B,3,none⟩ u3).setCell ⟨B,4,none⟩ u4).setCell ⟨B,5,none⟩ u5).setCell ⟨B,6,none⟩ u6).setCell ⟨B,7,none⟩ u7).setCell ⟨B,8,none⟩ u8).setCell ⟨B,9,none⟩ u9).setCell ⟨B,10,none⟩ u10).setCell ⟨B,11,none⟩ u11).setCell ⟨B,12,none⟩ u12).setCell ⟨B,13,none⟩ u13).setCell ⟨B,14,none⟩ u14) := rfl
theorem blt_end {w W W2 : World} {g3 g7 : Nat} {At Ae Aa A5 Aq Ab A9 A0 A1c A2 Au A14 A15 : Option Addr} {ct c5 c9 c0 c1c c2 cu c14 c15 : Nat} (D2 : Box1 w W (.cells #[.int .i64 0,.int .i64 0,.slice none 0 0,.slice none 0 0,.slice none 0 0,.slice none 0 0,.slice none 0 0,.int .i64 0,.int .i64 0,.slice none 0 0,.slice none 0 0,.slice none 0 0,.slice none 0 0,.slice none 0 0,.int .i64 0] 35)) (HF2 : Foot (fun W => (((((((((((((k66.C W At 12 typesP ∧ k66.C W Ae 3 entryP) ∧ k66.C W Aa 7 actP) ∧ Kd.C (Kd.int .i64) W (some ⟨g3,0,none⟩) 11 echoL) ∧ k94.C W A5 29 (keptP ++ there8)) ∧ k66.C W Aq 3 entryQ) ∧ k66.C W Ab 7 actQ) ∧ k94.C W A9 26 (keptP ++ back5)) ∧ k87.C W A0 28 schA) ∧ k129.C W A1c 6 (codesP ⟨#[57,54]⟩ ⟨#[51,48]⟩ ⟨#[49,50]⟩)) ∧ k87.C W A2 26 schB) ∧ k66.C W Au 12 typesQ) ∧ Kd.C (Kd.int .i64) W A14 11 echoL) ∧ k129.C W A15 6 (codesP ⟨#[57,48,57]⟩ ⟨#[57,48,52]⟩ ⟨#[57,48,50]⟩))) W (fun k => k ≠ w.heap.size ∧ k ≠ g7)) (HC0 : 28 ≤ c0) (HCt : 12 ≤ ct) (HC5 : 29 ≤ c5) (HC1c : 6 ≤ c1c) (HC2 : 26 ≤ c2) (HCu : 12 ≤ cu) (HC9 : 26 ≤ c9) (HC14 : 11 ≤ c14) (HC15 : 6 ≤ c15) (hW : W2 = putAll W w.heap.size 0 [.int .i64 1,.int .i64 0,.slice A0 28 c0,.slice At 12 ct,.slice A5 29 c5,.slice (some ⟨g3,0,none⟩) 11 11,.slice A1c 6 c1c,.int .i64 2,.int .i64 1,.slice A2 26 c2,.slice Au 12 cu,.slice A9 26 c9,.slice A14 11 c14,.slice A15 6 c15,.int .i64 4096]) :
  W2.heap[w.heap.size]? = some (.cells #[.int .i64 1,.int .i64 0,.slice A0 28 c0,.slice At 12 ct,.slice A5 29 c5,.slice (some ⟨g3,0,none⟩) 11 11,.slice A1c 6 c1c,.int .i64 2,.int .i64 1,.slice A2 26 c2,.slice Au 12 cu,.slice A9 26 c9,.slice A14 11 c14,.slice A15 6 c15,.int .i64 4096] 35 (0,0)) ∧ (SdAt W2 bs0 ⟨A0,c0,At,ct,A5,c5,some ⟨g3,0,none⟩,11,A1c,c1c⟩ ∧ SdAt W2 bs1 ⟨A2,c2,Au,cu,A9,c9,A14,c14,A15,c15⟩) ∧ Below w.heap.size w W2 := by
 have h1 : W2.heap[w.heap.size]? = some (.cells #[.int .i64 1,.int .i64 0,.slice A0 28 c0,.slice At 12 ct,.slice A5 29 c5,.slice (some ⟨g3,0,none⟩) 11 11,.slice A1c 6 c1c,.int .i64 2,.int .i64 1,.slice A2 26 c2,.slice Au 12 cu,.slice A9 26 c9,.slice A14 11 c14,.slice A15 6 c15,.int .i64 4096] 35 (0,0)) := by rw [hW];exact putAll_full D2.h1 rfl
 have h2 : ∀ k,k ≠ w.heap.size → W2.heap[k]? = W.heap[k]? := fun k hk => by rw [hW];exact putAll_heap hk _ _ _
 have h3 : Below w.heap.size w W2 := by rw [hW];exact putAll_below (Nat.le_refl _) _ 0 D2.below
 clear hW
 have HG := (Foot.step HF2 (W1 := W2) (fun k ho _ => h2 k ho.1)).now
 exact ⟨h1,⟨SdAt_mk HG.1.1.1.1.1.2 HC0 HG.1.1.1.1.1.1.1.1.1.1.1.1.1 HCt HG.1.1.1.1.1.1.1.1.1.2 HC5 HG.1.1.1.1.1.1.1.1.1.1.2 (Nat.le_refl _) HG.1.1.1.1.2 HC1c (by decide) bs0_f4,
  SdAt_mk HG.1.1.1.2 HC2 HG.1.1.2 HCu HG.1.1.1.1.1.1.2 HC9 HG.1.2 HC14 HG.2 HC15 (by decide) bs1_f4⟩,h3⟩
def ping : ByteArray := ⟨#[48,56,48,48,48,48,50,48,48,48,48,48,48,48,48,48,48,48,48,48,48,48,48,48,48,49]⟩
theorem enc_ping : encS 1 schA ⟨#[48,56,48,48]⟩ [⟨11,⟨#[48,48,48,48,48,49]⟩⟩] = ping := by decide +kernel
theorem dec_ping : decG 1 0 schA ping = ((⟨#[48,56,48,48]⟩,[⟨11,⟨#[48,48,48,48,48,49]⟩⟩]),0,0) := by kernel_rfl
theorem out_ping : (outS bs0 bs1 4096 ping).1 = 1 ∧ (outS bs0 bs1 4096 ping).2.size = 15 := by decide +kernel
def ping0 : ByteArray := ⟨#[48,56,49,48,48,48,50,48,48,48,48,48,48,50,48,48,48,48,48,48,48,48,48,48,48,49,51,48]⟩
theorem out_ping0 : (outS bs0 bs1 4096 (ping ++ ⟨#[48]⟩)).1 = 2 ∧ (outS bs0 bs1 4096 (ping ++ ⟨#[48]⟩)).2 = ping0 := by decide +kernel
theorem sdR_bs0 : sdR bs0 := by
 unfold sdR sideR
 decide +kernel
theorem sdR_bs1 : sdR bs1 := by
 unfold sdR sideR
 decide +kernel
theorem msg_ping : msgOk 1 0 schA ⟨#[48,56,48,48]⟩ [⟨11,⟨#[48,48,48,48,48,49]⟩⟩] = true := by decide +kernel
def decNil : ∀ l : List S66,Decidable (l = [])
 | [] => .isTrue rfl
 | _ :: _ => .isFalse (fun h => by cases h)
instance (l : List S66) : Decidable (l = []) := decNil l
instance decApart : ∀ (rs : List S94) (p q : Int × Int),Decidable (apartS rs p q)
 | [],_,_ => .isTrue trivial
 | r :: rs,p,q => by
  unfold apartS
  have := decApart rs (eithS p (withS (0,0) r.f1)) (eithS q (withS (0,0) r.f2))
  infer_instance
theorem mapOk_bs0 : mapOk bs0.ms bs0.rs bs0.st bs0.ver bs0.l bs1.st bs1.ver bs1.l := by
 unfold mapOk typedOk ruleOk endsOk tableOk
 decide +kernel
theorem mapOk_bs1 : mapOk bs1.ms bs1.rs bs1.st bs1.ver bs1.l bs0.st bs0.ver bs0.l := by
 unfold mapOk typedOk ruleOk endsOk tableOk
 decide +kernel
theorem cfgK_bs : cfgK bs0 bs1 4096 := ⟨by decide,⟨sdR_bs0,mapOk_bs0⟩,sdR_bs1,mapOk_bs1⟩
section
attribute [local go_sem] wr1_7 wr0_7
set_option maxHeartbeats 4000000 in
theorem route_Outcome_1.at (s t : Sd) (p q : Ad) (most : Int) (b : ByteArray) (w : World) (h1 : SdAt w s p) (h2 : SdAt w t q) (hk : cfgK t s most) (hsz : b.size ≤ 100000) (hside : sideOk s.st s.ver s.l s.echo s.cs) (hle : s.echo.length ≤ 1000) (hlc : s.cs.length ≤ 1000) (hxl : (decG s.st s.ver s.l b).1.2.length ≤ 1000) :
  Calls prog 9 #[.agg #[.int .i64 t.st,.int .i64 t.ver,.slice q.A1 t.l.length q.c1,.slice q.Am t.ms.length q.cm,.slice q.Ar t.rs.length q.cr,.slice q.Ae t.echo.length q.ce,.slice q.Ac t.cs.length q.cc,.int .i64 s.st,.int .i64 s.ver,.slice p.A1 s.l.length p.c1,.slice p.Am s.ms.length p.cm,.slice p.Ar s.rs.length p.cr,.slice p.Ae s.echo.length p.ce,.slice p.Ac s.cs.length p.cc,.int .i64 most],.int .i64 1,.string b] w fun e w' => e = .returned (.tuple #[.int .i64 (outS s t most b).1,.string (outS s t most b).2]) ∧ Below w.heap.size w w' := by
 have hu35 := underlying35
 have hu33 := underlying33
 have hu32 := underlying32
 have hu28 := underlying28
 have hu24 := underlying24
 have hu42 := underlying42
 have hu45 := underlying45
 have HS := aS h1
 have HT := aS h2
 have HK := aS hk
 have HSI := aS hside
 have HXL := aS hxl
 clear h1 h2 hk hside hxl
 have HMO : Aside0 (∀ e,reqM (decG s.st s.ver s.l b).1.1 = true → msgOk s.st s.ver s.l (respM (decG s.st s.ver s.l b).1.1) (buildS (decG s.st s.ver s.l b).1.2 s.echo s.cs e) = true) := ⟨fun e hq => build_msgOk HSI.out hq e⟩
 obtain ⟨o,ho⟩ : ∃ o,outS s t most b = o := ⟨_,rfl⟩
 rw [ho]
 unfold outS at ho
 have HO := aS ho
 clear ho
 have HDE : Aside0 (∀ W,Below w.heap.size w W → Calls prog 10 #[.agg #[.int .i64 s.st,.int .i64 s.ver,.slice p.A1 s.l.length p.c1],.string b] W fun e w' => (∃ A' c',e = .returned (.tuple #[.agg #[.string (decG s.st s.ver s.l b).1.1,.slice A' (decG s.st s.ver s.l b).1.2.length c'],.agg #[.int .i64 (decG s.st s.ver s.l b).2.1,.int .i64 (decG s.st s.ver s.l b).2.2]]) ∧ (decG s.st s.ver s.l b).1.2.length ≤ c' ∧ Kd.C k63 w' A' (decG s.st s.ver s.l b).1.2.length (decG s.st s.ver s.l b).1.2) ∧ Below W.heap.size W w') := ⟨fun W hb => strict_Decode.at s.st s.ver p.A1 p.c1 s.l b W HS.out.n1 (c_B HS.out.r1 hb) HS.out.h1 HSI.out.1 hsz⟩
 have HDM : Aside0 ((decG s.st s.ver s.l b).2.1 = 0 → msgOk s.st s.ver s.l (decG s.st s.ver s.l b).1.1 (decG s.st s.ver s.l b).1.2 = true) := ⟨fun h => decG_msgOk HSI.out.1 h⟩
 generalize decG s.st s.ver s.l b = d at *
 obtain ⟨⟨m,xs⟩,ec,ef⟩ := d
 simp only at *
 obtain ⟨c0_,c1_,c2_,c3_,c4_,c5_,c6_,c7_,c8_,c9_,c10_,c11_,c12_,c13_,c14_⟩ := cells_15 (Box1.start w (.cells #[.int .i64 t.st,.int .i64 t.ver,.slice q.A1 t.l.length q.c1,.slice q.Am t.ms.length q.cm,.slice q.Ar t.rs.length q.cr,.slice q.Ae t.echo.length q.ce,.slice q.Ac t.cs.length q.cc,.int .i64 s.st,.int .i64 s.ver,.slice p.A1 s.l.length p.c1,.slice p.Am s.ms.length p.cm,.slice p.Ar s.rs.length p.cr,.slice p.Ae s.echo.length p.ce,.slice p.Ac s.cs.length p.cc,.int .i64 most] 35)).h1
 go_enter func9,ntmps9
 go_wp2_with (first | (go_at_call 30;refine (route_Check.at t s q p most _ (HT.out.step (Box1.start w _).below) (HS.out.step (Box1.start w _).below) HK.out).mono ?_;rintro e w1 ⟨rfl,hb1⟩;have D := aS ((Box1.start w (.cells #[.int .i64 t.st,.int .i64 t.ver,.slice q.A1 t.l.length q.c1,.slice q.Am t.ms.length q.cm,.slice q.Ar t.rs.length q.cr,.slice q.Ae t.echo.length q.ce,.slice q.Ac t.cs.length q.cc,.int .i64 s.st,.int .i64 s.ver,.slice p.A1 s.l.length p.c1,.slice p.Am s.ms.length p.cm,.slice p.Ar s.rs.length p.cr,.slice p.Ae s.echo.length p.ce,.slice p.Ac s.cs.length p.cc,.int .i64 most] 35)).step hb1);clear hb1 c0_ c1_ c2_ c3_ c4_ c5_ c6_ c7_ c8_ c9_ c10_ c11_ c12_ c13_ c14_;obtain ⟨c0_,c1_,c2_,c3_,c4_,c5_,c6_,c7_,c8_,c9_,c10_,c11_,c12_,c13_,c14_⟩ := cells_15 D.out.h1))
 refine region_split (by kernel_rfl) (fun wr hbr hsr => ?_)
 have D_ := aS (D.out.step hbr)
 clear D hbr c0_ c1_ c2_ c3_ c4_ c5_ c6_ c7_ c8_ c9_ c10_ c11_ c12_ c13_ c14_
 have D := D_
 clear D_
 refine wpAny_split 11 dst4 (post4 (.agg #[.int .i64 s.st,.int .i64 s.ver,.slice p.A1 s.l.length p.c1,.slice p.Am s.ms.length p.cm,.slice p.Ar s.rs.length p.cr,.slice p.Ae s.echo.length p.ce,.slice p.Ac s.cs.length p.cc]) (.agg #[.int .i64 t.st,.int .i64 t.ver,.slice q.A1 t.l.length q.c1,.slice q.Am t.ms.length q.cm,.slice q.Ar t.rs.length q.cr,.slice q.Ae t.echo.length q.ce,.slice q.Ac t.cs.length q.cc]) w.heap.size 7 0 1 wr.heap.size #[.int .i64 0,.int .i64 0,.slice none 0 0,.slice none 0 0,.slice none 0 0,.slice none 0 0,.slice none 0 0]) (post4 (.agg #[.int .i64 s.st,.int .i64 s.ver,.slice p.A1 s.l.length p.c1,.slice p.Am s.ms.length p.cm,.slice p.Ar s.rs.length p.cr,.slice p.Ae s.echo.length p.ce,.slice p.Ac s.cs.length p.cc]) (.agg #[.int .i64 t.st,.int .i64 t.ver,.slice q.A1 t.l.length q.c1,.slice q.Am t.ms.length q.cm,.slice q.Ar t.rs.length q.cr,.slice q.Ae t.echo.length q.ce,.slice q.Ac t.cs.length q.cc]) w.heap.size 7 0 1 wr.heap.size #[.int .i64 s.st,.int .i64 s.ver,.slice p.A1 s.l.length p.c1,.slice p.Am s.ms.length p.cm,.slice p.Ar s.rs.length p.cr,.slice p.Ae s.echo.length p.ce,.slice p.Ac s.cs.length p.cc]) rel4 _ wr rfl _ _ rfl rfl (fun i j u v h hij => (h (by omega)).symm) post4_st post4_st ?rlow ?rgrow done4 ?rdone ?rgrow2 ?rinj ?rsz rfl rfl (by decide) (by decide) ⟨⟨11,.chain⟩,by simp,rfl,rfl⟩ ?rall ?rs1 ?rs2 _ _ _ (Nat.le_refl _) ⟨rfl,rfl,fun _ _ => rfl⟩ (Below.refl _ _)
 case rlow =>
  intro i o hi ho
  rcases (show i = 0 ∨ i = 1 ∨ i = 2 ∨ i = 3 ∨ i = 4 ∨ i = 5 ∨ i = 6 ∨ i = 7 ∨ i = 8 ∨ i = 9 ∨ i = 10 by omega) with rfl | rfl | rfl | rfl | rfl | rfl | rfl | rfl | rfl | rfl | rfl <;> (cases ho;exact ⟨rfl,rfl,by decide⟩)
 case rinj =>
  intro i j hi hj
  revert j
  revert i
  decide
 case rsz =>
  intro i hi
  exact Nat.lt_of_lt_of_le ((by decide : ∀ i,i < 11 → dst4 i < 100) i hi) (Nat.le_of_ble_eq_true rfl)
 case rdone =>
  intro i hi hd
  rcases (show i = 0 ∨ i = 1 ∨ i = 2 ∨ i = 3 ∨ i = 4 ∨ i = 5 ∨ i = 6 ∨ i = 7 ∨ i = 8 ∨ i = 9 ∨ i = 10 by omega) with rfl | rfl | rfl | rfl | rfl | rfl | rfl | rfl | rfl | rfl | rfl
  ·exact ⟨⟨0,.phase⟩,by simp,rfl,rfl⟩
  ·exact ⟨⟨1,.phase⟩,by simp,rfl,rfl⟩
  ·exact ⟨⟨2,.phase⟩,by simp,rfl,rfl⟩
  ·exact ⟨⟨3,.phase⟩,by simp,rfl,rfl⟩
  ·cases hd
  ·cases hd
  ·cases hd
  ·cases hd
  ·cases hd
  ·exact ⟨⟨9,.phase⟩,by simp,rfl,rfl⟩
  ·exact ⟨⟨10,.phase⟩,by simp,rfl,rfl⟩
 case rall =>
  intro j hj
  refine ⟨⟨j,.phase⟩,?_,rfl,rfl⟩
  rcases (show j = 0 ∨ j = 1 ∨ j = 2 ∨ j = 3 ∨ j = 4 ∨ j = 5 ∨ j = 6 ∨ j = 7 ∨ j = 8 ∨ j = 9 ∨ j = 10 by omega) with rfl | rfl | rfl | rfl | rfl | rfl | rfl | rfl | rfl | rfl | rfl <;> simp
 case rgrow =>
  intro i o hi ho a W hb hf hp K' hK
  have HK := aS hK
  have HB := aS hb
  have D2 := aS (D.out.step hb)
  clear hK hb D
  rcases (show i = 0 ∨ i = 1 ∨ i = 2 ∨ i = 3 ∨ i = 4 ∨ i = 5 ∨ i = 6 ∨ i = 7 ∨ i = 8 ∨ i = 9 ∨ i = 10 by omega) with rfl | rfl | rfl | rfl | rfl | rfl | rfl | rfl | rfl | rfl | rfl
  ·cases ho
   have e1 : a.tmps[1]? = some (.int .i64 1) := (hf.2.2 1 (by decide)).trans rfl
   clear hp hf
   unfold Oper.wp
   go_simp
   exact HK.out _ _ (Below.refl _ _) rfl (fun _ _ _ _ _ h => by omega)
  ·cases ho
   have e3 : a.tmps[3]? = some (.pointer (some ⟨w.heap.size,0,none⟩)) := (hf.2.2 3 (by decide)).trans rfl
   clear hp hf
   unfold Oper.wp
   go_simp
   exact HK.out _ _ (Below.refl _ _) rfl (fun _ _ _ _ _ h => by omega)
  ·cases ho
   have h0 : a.eval (.tmp 35) = .int .i64 1 := hp ⟨0,.data⟩ (by simp) rfl
   have h1 : a.eval (.tmp 36) = .pointer (some ⟨w.heap.size,0,none⟩) := hp ⟨1,.data⟩ (by simp) rfl
   clear hp hf
   simp only [Act.eval,Array.getD_eq_getD_getElem?] at h0 h1
   unfold Oper.wp
   go_simp
   exact HK.out _ _ (Below.refl _ _) rfl (fun _ _ _ _ _ h => by omega)
  ·cases ho
   have h2 : a.eval (.tmp 37) = .pointer (some ⟨w.heap.size,7,none⟩) := hp ⟨2,.data⟩ (by simp) rfl
   clear hp hf
   simp only [Act.eval,Array.getD_eq_getD_getElem?] at h2
   obtain ⟨c0_,c1_,c2_,c3_,c4_,c5_,c6_,c7_,c8_,c9_,c10_,c11_,c12_,c13_,c14_⟩ := cells_15 D2.out.h1
   unfold Oper.wp
   go_simp
   exact HK.out _ _ (Below.refl _ _) rfl (fun _ _ _ _ _ h => by omega)
  ·cases ho
   have e1 : a.tmps[1]? = some (.int .i64 1) := (hf.2.2 1 (by decide)).trans rfl
   clear hp hf
   unfold Oper.wp
   go_simp
   exact HK.out _ _ (Below.refl _ _) rfl (fun _ _ _ _ _ h => by omega)
  ·cases ho
   have h4 : a.eval (.tmp 39) = .int .i64 1 := hp ⟨4,.data⟩ (by simp) rfl
   clear hp hf
   simp only [Act.eval,Array.getD_eq_getD_getElem?] at h4
   unfold Oper.wp
   go_simp
   exact HK.out _ _ (Below.refl _ _) rfl (fun _ _ _ _ _ h => by omega)
  ·cases ho
   have e3 : a.tmps[3]? = some (.pointer (some ⟨w.heap.size,0,none⟩)) := (hf.2.2 3 (by decide)).trans rfl
   clear hp hf
   unfold Oper.wp
   go_simp
   exact HK.out _ _ (Below.refl _ _) rfl (fun _ _ _ _ _ h => by omega)
  ·cases ho
   have h5 : a.eval (.tmp 40) = .int .i64 (1 - 1) := hp ⟨5,.data⟩ (by simp) rfl
   have h6 : a.eval (.tmp 41) = .pointer (some ⟨w.heap.size,0,none⟩) := hp ⟨6,.data⟩ (by simp) rfl
   clear hp hf
   simp only [Act.eval,Array.getD_eq_getD_getElem?] at h5 h6
   unfold Oper.wp
   go_simp
   exact HK.out _ _ (Below.refl _ _) rfl (fun _ _ _ _ _ h => by omega)
  ·cases ho
   have h7 : a.eval (.tmp 42) = .pointer (some ⟨w.heap.size,0,none⟩) := hp ⟨7,.data⟩ (by simp) rfl
   clear hp hf
   simp only [Act.eval,Array.getD_eq_getD_getElem?] at h7
   obtain ⟨c0_,c1_,c2_,c3_,c4_,c5_,c6_,c7_,c8_,c9_,c10_,c11_,c12_,c13_,c14_⟩ := cells_15 D2.out.h1
   unfold Oper.wp
   go_simp
   exact HK.out _ _ (Below.refl _ _) rfl (fun _ _ _ _ _ h => by omega)
  ·cases ho
   clear hp hf
   unfold Oper.wp
   go_simp
   refine HK.out _ _ (bO _) ⟨_,rfl,HB.out.size,blk_new W _⟩ (fun j v hj hji hpj hj9 => ?_)
   obtain rfl : j = 10 := by omega
   obtain ⟨B,rfl,_,hB⟩ := hpj
   have := blk_lt hB
   intro hE
   have hE2 := congrArg (fun v => match v with | .pointer (some q) => q.block | _ => 0) hE
   have hE3 : W.heap.size = B := hE2
   omega
  ·cases ho
   clear hp hf
   unfold Oper.wp
   go_simp
   refine HK.out _ _ (bO _) ⟨_,rfl,HB.out.size,blk_new W _⟩ (fun j v hj hji hpj hj9 => ?_)
   obtain rfl : j = 9 := by omega
   obtain ⟨B,rfl,_,hB⟩ := hpj
   have := blk_lt hB
   intro hE
   have hE2 := congrArg (fun v => match v with | .pointer (some q) => q.block | _ => 0) hE
   have hE3 : W.heap.size = B := hE2
   omega
 case rgrow2 =>
  intro i o hi ho hd a W hb hf hp K' hK
  have HK := aS hK
  have HB := aS hb
  have D2 := aS (D.out.step hb)
  clear hK hb D
  rcases (show i = 0 ∨ i = 1 ∨ i = 2 ∨ i = 3 ∨ i = 4 ∨ i = 5 ∨ i = 6 ∨ i = 7 ∨ i = 8 ∨ i = 9 ∨ i = 10 by omega) with rfl | rfl | rfl | rfl | rfl | rfl | rfl | rfl | rfl | rfl | rfl
  ·cases hd
  ·cases hd
  ·cases hd
  ·cases hd
  ·cases ho
   have e1 : a.tmps[1]? = some (.int .i64 1) := (hf.2.2 1 (by decide)).trans rfl
   clear hp hf
   unfold Oper.wp
   go_simp
   exact HK.out _ _ (Below.refl _ _) rfl (fun _ _ _ _ _ h => by omega)
  ·cases ho
   have h4 : a.eval (.tmp 39) = .int .i64 1 := hp ⟨4,.data⟩ (by simp) rfl
   clear hp hf
   simp only [Act.eval,Array.getD_eq_getD_getElem?] at h4
   unfold Oper.wp
   go_simp
   exact HK.out _ _ (Below.refl _ _) rfl (fun _ _ _ _ _ h => by omega)
  ·cases ho
   have e3 : a.tmps[3]? = some (.pointer (some ⟨w.heap.size,0,none⟩)) := (hf.2.2 3 (by decide)).trans rfl
   clear hp hf
   unfold Oper.wp
   go_simp
   exact HK.out _ _ (Below.refl _ _) rfl (fun _ _ _ _ _ h => by omega)
  ·cases ho
   have h5 : a.eval (.tmp 40) = .int .i64 (1 - 1) := hp ⟨5,.data⟩ (by simp) rfl
   have h6 : a.eval (.tmp 41) = .pointer (some ⟨w.heap.size,0,none⟩) := hp ⟨6,.data⟩ (by simp) rfl
   clear hp hf
   simp only [Act.eval,Array.getD_eq_getD_getElem?] at h5 h6
   unfold Oper.wp
   go_simp
   exact HK.out _ _ (Below.refl _ _) rfl (fun _ _ _ _ _ h => by omega)
  ·cases ho
   have h7 : a.eval (.tmp 42) = .pointer (some ⟨w.heap.size,0,none⟩) := hp ⟨7,.data⟩ (by simp) rfl
   clear hp hf
   simp only [Act.eval,Array.getD_eq_getD_getElem?] at h7
   obtain ⟨c0_,c1_,c2_,c3_,c4_,c5_,c6_,c7_,c8_,c9_,c10_,c11_,c12_,c13_,c14_⟩ := cells_15 D2.out.h1
   unfold Oper.wp
   go_simp
   exact HK.out _ _ (Below.refl _ _) rfl (fun _ _ _ _ _ h => by omega)
  ·cases hd
  ·cases hd
 case rs1 =>
  intro listed a W hb hf hl hp hr K' hK
  have HB := aS hb
  have l9 := hl ⟨9,.data⟩ (by simp) rfl
  have l3 := hl ⟨3,.data⟩ (by simp) rfl
  have l10 := hl ⟨10,.phase⟩ (by simp) rfl
  have HP := aS hp
  obtain ⟨B,h9,hB,hc9⟩ := hp 9 (by omega) l9
  obtain ⟨C,h10,hC,hc10⟩ := hp 10 (by omega) l10
  have h3 : a.eval (.tmp 38) = .agg #[.int .i64 s.st,.int .i64 s.ver,.slice p.A1 s.l.length p.c1,.slice p.Am s.ms.length p.cm,.slice p.Ar s.rs.length p.cr,.slice p.Ae s.echo.length p.ce,.slice p.Ac s.cs.length p.cc] := hp 3 (by omega) l3
  have hne : C ≠ B := fun h => by
   have := hr 9 10 (by omega) (by omega) (by omega) l9 l10 (.inl ⟨rfl,rfl⟩)
   exact this (by rw [h9,h10,h])
  have HC := aS hc9
  have HC2 := aS hc10
  have HKK := aS hK
  have H9 := aS h9
  have H10 := aS h10
  obtain ⟨x0,x1,x2,x3,x4,x5,x6⟩ := cells_7 hc9
  obtain ⟨f0,f1,f2,f3,f4,f5,f6⟩ := froz_7 hc9
  replace h9 : a.eval (.tmp 11) = .pointer (some ⟨B,0,none⟩) := h9
  clear hp hr hl hf hb hK hc9 hc10 h10 l9 l3 l10 D HS HT HK
  simp only [Act.eval,Array.getD_eq_getD_getElem?] at h9 h3
  unfold Oper.wp
  go_simp
  obtain ⟨n9,nb,nf⟩ := put7 HC.out hB (.int .i64 s.st) (.int .i64 s.ver) (.slice p.A1 s.l.length p.c1) (.slice p.Am s.ms.length p.cm) (.slice p.Ar s.rs.length p.cr) (.slice p.Ae s.echo.length p.ce) (.slice p.Ac s.cs.length p.cc)
  refine HKK.out _ nb (fun i hi hli => ?_)
  rcases (show i = 0 ∨ i = 1 ∨ i = 2 ∨ i = 3 ∨ i = 4 ∨ i = 5 ∨ i = 6 ∨ i = 7 ∨ i = 8 ∨ i = 9 ∨ i = 10 by omega) with rfl | rfl | rfl | rfl | rfl | rfl | rfl | rfl | rfl | rfl | rfl
  ·exact HP.out 0 (by omega) hli
  ·exact HP.out 1 (by omega) hli
  ·exact HP.out 2 (by omega) hli
  ·exact HP.out 3 (by omega) hli
  ·exact HP.out 4 (by omega) hli
  ·exact HP.out 5 (by omega) hli
  ·exact HP.out 6 (by omega) hli
  ·exact HP.out 7 (by omega) hli
  ·exact HP.out 8 (by omega) hli
  ·exact ⟨B,H9.out,hB,n9⟩
  ·exact ⟨C,H10.out,hC,nf C _ HC2.out hne⟩
 case rs2 =>
  intro a W hb hf hp hr
  obtain ⟨C,h9,hC,hc9⟩ := hp 9 (by omega)
  obtain ⟨B,h10,hB,hc10⟩ := hp 10 (by omega)
  have h8 : a.eval (.tmp 43) = .agg #[.int .i64 t.st,.int .i64 t.ver,.slice q.A1 t.l.length q.c1,.slice q.Am t.ms.length q.cm,.slice q.Ar t.rs.length q.cr,.slice q.Ae t.echo.length q.ce,.slice q.Ac t.cs.length q.cc] := hp 8 (by omega)
  have hne : C ≠ B := fun h => by
   have := hr 9 10 (by omega) (by omega) (by omega) (.inl ⟨rfl,rfl⟩)
   exact this (by rw [h9,h10,h])
  have he := hf.eq
  have v0 := hp 0 (by omega)
  have v1 := hp 1 (by omega)
  have v2 := hp 2 (by omega)
  have v3 := hp 3 (by omega)
  have v4 := hp 4 (by omega)
  have v5 := hp 5 (by omega)
  have v6 := hp 6 (by omega)
  have v7 := hp 7 (by omega)
  have v8 := hp 8 (by omega)
  replace he : putL _ [(35,a.eval (.tmp 35)),(36,a.eval (.tmp 36)),(37,a.eval (.tmp 37)),(38,a.eval (.tmp 38)),(39,a.eval (.tmp 39)),(40,a.eval (.tmp 40)),(41,a.eval (.tmp 41)),(42,a.eval (.tmp 42)),(43,a.eval (.tmp 43)),(11,a.eval (.tmp 11)),(12,a.eval (.tmp 12))] = a := he
  replace h9 : a.eval (.tmp 11) = .pointer (some ⟨C,0,none⟩) := h9
  replace h10 : a.eval (.tmp 12) = .pointer (some ⟨B,0,none⟩) := h10
  rw [h9,h10,h8,show a.eval (.tmp 38) = _ from v3] at he
  clear hp hr v0 v1 v2 v3 v4 v5 v6 v7 v8 h8 h9 h10 hf
  generalize a.eval (.tmp 35) = z35 at he
  generalize a.eval (.tmp 36) = z36 at he
  generalize a.eval (.tmp 37) = z37 at he
  generalize a.eval (.tmp 39) = z39 at he
  generalize a.eval (.tmp 40) = z40 at he
  generalize a.eval (.tmp 41) = z41 at he
  generalize a.eval (.tmp 42) = z42 at he
  simp only [putL,Act.put,sA,sB,sC] at he
  subst he
  obtain ⟨x0,x1,x2,x3,x4,x5,x6⟩ := cells_7 hc10
  obtain ⟨f0,f1,f2,f3,f4,f5,f6⟩ := froz_7 hc10
  have HN : ∃ W',W' = (((((((W.setCell ⟨B,0,none⟩ (.int .i64 t.st)).setCell ⟨B,1,none⟩ (.int .i64 t.ver)).setCell ⟨B,2,none⟩ (.slice q.A1 t.l.length q.c1)).setCell ⟨B,3,none⟩ (.slice q.Am t.ms.length q.cm)).setCell ⟨B,4,none⟩ (.slice q.Ar t.rs.length q.cr)).setCell ⟨B,5,none⟩ (.slice q.Ae t.echo.length q.ce)).setCell ⟨B,6,none⟩ (.slice q.Ac t.cs.length q.cc)) ∧ Aside0 (W'.heap[C]? = some (.cells #[.int .i64 s.st,.int .i64 s.ver,.slice p.A1 s.l.length p.c1,.slice p.Am s.ms.length p.cm,.slice p.Ar s.rs.length p.cr,.slice p.Ae s.echo.length p.ce,.slice p.Ac s.cs.length p.cc] 32 (0,0))) ∧ Aside0 (W'.heap[B]? = some (.cells #[.int .i64 t.st,.int .i64 t.ver,.slice q.A1 t.l.length q.c1,.slice q.Am t.ms.length q.cm,.slice q.Ar t.rs.length q.cr,.slice q.Ae t.echo.length q.ce,.slice q.Ac t.cs.length q.cc] 32 (0,0))) ∧ Aside0 (Box1 w W' (.cells #[.int .i64 t.st,.int .i64 t.ver,.slice q.A1 t.l.length q.c1,.slice q.Am t.ms.length q.cm,.slice q.Ar t.rs.length q.cr,.slice q.Ae t.echo.length q.ce,.slice q.Ac t.cs.length q.cc,.int .i64 s.st,.int .i64 s.ver,.slice p.A1 s.l.length p.c1,.slice p.Am s.ms.length p.cm,.slice p.Ar s.rs.length p.cr,.slice p.Ae s.echo.length p.ce,.slice p.Ac s.cs.length p.cc,.int .i64 most] 35)) := by
   obtain ⟨n9,nb,nf⟩ := put7 hc10 hB (.int .i64 t.st) (.int .i64 t.ver) (.slice q.A1 t.l.length q.c1) (.slice q.Am t.ms.length q.cm) (.slice q.Ar t.rs.length q.cr) (.slice q.Ae t.echo.length q.ce) (.slice q.Ac t.cs.length q.cc)
   exact ⟨_,rfl,⟨nf C _ hc9 hne⟩,⟨n9⟩,⟨D.out.step (hb.trans nb)⟩⟩
  obtain ⟨W',hW,HC9,HC10,D9⟩ := HN
  clear hc9 hc10 hb D hsr
  unfold Oper.wp
  go_simp
  rw [← hW]
  clear hW x0 x1 x2 x3 x4 x5 x6 f0 f1 f2 f3 f4 f5 f6
  clear hC hB hne
  obtain ⟨y0,y1,y2,y3,y4,y5,y6⟩ := cells_7 HC9.out
  go_wp2_with (first | (go_at_call 10;refine (HDE.out _ D9.out.below).mono ?_;rintro e w2 ⟨⟨A',c',rfl,hc',hr'⟩,hb2⟩;have HR' := aS hr';have HC' := aS hc';have HB2 := aS hb2;clear hr' hc' hb2 y0 y1 y2 y3 y4 y5 y6;rcases (Decidable.em (ec = 0)).symm with u | u <;> (first | (have b0 : (ec != 0) = true := bne_iff_ne.mpr u;have hO := HO.out;rw [if_pos u] at hO;clear HO u HDM;have HO := aS hO;clear hO) | (subst u;have HM := aS (HDM.out rfl);clear HDM;have HTR : Aside0 (∀ W A' c',Below w.heap.size w W → Kd.C k63 W A' xs.length xs → xs.length ≤ c' → Calls prog 11 #[.agg #[.slice p.Am s.ms.length p.cm,.slice p.Ar s.rs.length p.cr],.agg #[.int .i64 s.st,.int .i64 s.ver,.slice p.A1 s.l.length p.c1],.agg #[.int .i64 t.st,.int .i64 t.ver,.slice q.A1 t.l.length q.c1],.agg #[.string m,.slice A' xs.length c']] W fun e w' => (∃ A2 c2,e = .returned (.tuple #[.agg #[.string (transS s.ms s.rs t.l m xs).1.1,.slice A2 (transS s.ms s.rs t.l m xs).1.2.length c2],.agg #[.int .i64 (transS s.ms s.rs t.l m xs).2.1,.int .i64 (transS s.ms s.rs t.l m xs).2.2]]) ∧ (transS s.ms s.rs t.l m xs).1.2.length ≤ c2 ∧ Kd.C k63 w' A2 (transS s.ms s.rs t.l m xs).1.2.length (transS s.ms s.rs t.l m xs).1.2 ∧ MsgAt w' (.slice A2 (transS s.ms s.rs t.l m xs).1.2.length c2) (transS s.ms s.rs t.l m xs).1.2) ∧ Below W.heap.size W w') := ⟨fun W A' c' hb hr hc => xlate_Translate.at p.Am p.cm s.ms p.Ar p.cr s.rs s.st s.ver p.A1 p.c1 s.l t.st t.ver q.A1 q.c1 t.l m A' c' xs W (fun W2 hb2 => r38 (HS.out.step (b_s hb hb2)) (HT.out.step (b_s hb hb2)) HK.out.2.2.2) HM.out HS.out.n1 HT.out.n1 (by have := HK.out.2.2.2.2.2.1;omega) (by have := HK.out.2.2.2.2.2.2.2.2.1;omega) HXL.out (HS.out.step hb).rm HS.out.hm (HS.out.step hb).rr HS.out.hr (HS.out.step hb).r1 HS.out.h1 (HT.out.step hb).r1 HT.out.h1 hr hc (trans_hap HK.out.2.2.2 HM.out)⟩;have HTM : Aside0 ((transS s.ms s.rs t.l m xs).2.1 = 0 → msgOk t.st t.ver t.l (transS s.ms s.rs t.l m xs).1.1 (transS s.ms s.rs t.l m xs).1.2 = true) := ⟨fun h => transS_ok HK.out.2.2.2 HM.out h⟩;have hO := HO.out;rw [if_neg (by exact fun h => h rfl)] at hO;clear HO;generalize transS s.ms s.rs t.l m xs = x at HTR HTM hO;obtain ⟨⟨m2,xs2⟩,tc,tf⟩ := x;simp only at HTR HTM hO;have HO := aS hO;clear hO;obtain ⟨y0,y1,y2,y3,y4,y5,y6⟩ := cells_7 (k_B (k_B HC9.out HB2.out) (b_l (b_l (Below.refl _ _) (.cells #[.string m,.slice A' xs.length c'] 42)) (.cells #[.int .i64 0,.int .i64 ef] 45)));obtain ⟨n0,n1,n2,n3,n4,n5,n6⟩ := cells_7 (k_B (k_B HC10.out HB2.out) (b_l (b_l (Below.refl _ _) (.cells #[.string m,.slice A' xs.length c'] 42)) (.cells #[.int .i64 0,.int .i64 ef] 45)))))) | (go_at_call 11;refine (HTR.out _ A' c' ((D9.out.step HB2.out).step (bA _ _)).below (c_B HR'.out (bA _ _)) HC'.out).mono ?_;rintro e w3 ⟨⟨A2,c2,rfl,hc2,hr2,hm2⟩,hb3⟩;have HR2 := aS hr2;have HC2 := aS hc2;have HA2 := aS hm2;clear hm2;have E := aS ((Box2.start w2 (.cells #[.string m,.slice A' xs.length c'] 42) (.cells #[.int .i64 0,.int .i64 ef] 45)).step hb3);have HB3 := aS (((D9.out.step HB2.out).step (bA _ _)).step hb3);clear hr2 hc2 hb3 y0 y1 y2 y3 y4 y5 y6 n0 n1 n2 n3 n4 n5 n6;obtain ⟨f0,f1⟩ := froz_2a E.out.h2 (.cells #[.string m2,.slice A2 xs2.length c2] 42);obtain ⟨y0,y1⟩ := cells_2 (blk_alloc E.out.h2 (.cells #[.string m2,.slice A2 xs2.length c2] 42));obtain ⟨w0_,w1_⟩ := cells_2 (blk_alloc E.out.h1 (.cells #[.string m2,.slice A2 xs2.length c2] 42));rcases (Decidable.em (tc = 0)).symm with u | u <;> (first | (have b1 : (tc != 0) = true := bne_iff_ne.mpr u;have hO := HO.out;rw [if_pos u] at hO;clear HO u HTM;have HO := aS hO;clear hO) | (subst u;have HM2 := aS (HTM.out rfl);have hO := HO.out;rw [if_neg (by exact fun h => h rfl)] at hO;clear HO HTM;have HML : Aside0 (∀ {W : World} {A2 : Option Addr} {c2 : Nat},MsgAt W (.slice A2 xs2.length c2) xs2 → Kd.C k63 W A2 xs2.length xs2) := ⟨fun h => by obtain ⟨A',c',e',_,hC⟩ := h.reads (by have := msgOk_len HM2.out;omega);cases e';exact hC⟩;have HEN : Aside0 (∀ W A2 c2,Below w.heap.size w W → Kd.C k63 W A2 xs2.length xs2 → xs2.length ≤ c2 → Calls prog 12 #[.agg #[.int .i64 t.st,.int .i64 t.ver,.slice q.A1 t.l.length q.c1],.agg #[.string m2,.slice A2 xs2.length c2]] W fun e w' => e = .returned (.tuple #[.string (encS t.st t.l m2 xs2),.agg #[.int .i64 0,.int .i64 0]]) ∧ Below W.heap.size W w') := ⟨fun W A2 c2 hb hr hc => wire_Encode.at t.st t.ver q.A1 q.c1 t.l m2 A2 c2 xs2 W HT.out.n1 (HT.out.step hb).r1 HT.out.h1 (by have := msgOk_len HM2.out;omega) hr hc HM2.out⟩;generalize encS t.st t.l m2 xs2 = bb at HEN hO;have HO := aS hO;clear hO;obtain ⟨n0,n1,n2,n3,n4,n5,n6⟩ := cells_7 (k_B (k_B HC10.out HB2.out) (((b_s E.out.below (b_l (Below.refl _ _) (.cells #[.string m2,.slice A2 xs2.length c2] 42))).setCell (p := ⟨w2.heap.size + 1,0,none⟩) (by show w2.heap.size ≤ w2.heap.size + 1;omega) (.int .i64 0)).setCell (p := ⟨w2.heap.size + 1,1,none⟩) (by show w2.heap.size ≤ w2.heap.size + 1;omega) (.int .i64 tf)));obtain ⟨x0_,x1_⟩ := cells_2 (far ⟨w2.heap.size + 1,1,none⟩ (.int .i64 tf) (far ⟨w2.heap.size + 1,0,none⟩ (.int .i64 0) (blk_new w3 (.cells #[.string m2,.slice A2 xs2.length c2] 42)) (by show w3.heap.size ≠ w2.heap.size + 1;have := blk_lt E.out.h2;omega)) (by show w3.heap.size ≠ w2.heap.size + 1;have := blk_lt E.out.h2;omega))))) | (go_at_call 12;refine (HEN.out _ A2 c2 ((D9.out.step HB2.out).step (((b_s E.out.below (b_l (Below.refl _ _) (.cells #[.string m2,.slice A2 xs2.length c2] 42))).setCell (p := ⟨w2.heap.size + 1,0,none⟩) (by show w2.heap.size ≤ w2.heap.size + 1;omega) (.int .i64 0)).setCell (p := ⟨w2.heap.size + 1,1,none⟩) (by show w2.heap.size ≤ w2.heap.size + 1;omega) (.int .i64 tf))).below ((HML.out (((HA2.out.step (b_l (Below.refl _ _) (.cells #[.string m2,.slice A2 xs2.length c2] 42))).far (blk_alloc E.out.h2 (.cells #[.string m2,.slice A2 xs2.length c2] 42)) (by decide) 0 (.int .i64 0)).far (blk_put (blk_alloc E.out.h2 (.cells #[.string m2,.slice A2 xs2.length c2] 42)) 0 _ rfl) (by decide) 1 (.int .i64 tf)))) HC2.out).mono ?_;rintro e w4 ⟨rfl,hb4⟩;have HB4 := aS (((D9.out.step HB2.out).step (((b_s E.out.below (b_l (Below.refl _ _) (.cells #[.string m2,.slice A2 xs2.length c2] 42))).setCell (p := ⟨w2.heap.size + 1,0,none⟩) (by show w2.heap.size ≤ w2.heap.size + 1;omega) (.int .i64 0)).setCell (p := ⟨w2.heap.size + 1,1,none⟩) (by show w2.heap.size ≤ w2.heap.size + 1;omega) (.int .i64 tf))).step hb4);have HW4 := aS (b_s (((b_s E.out.below (b_l (Below.refl _ _) (.cells #[.string m2,.slice A2 xs2.length c2] 42))).setCell (p := ⟨w2.heap.size + 1,0,none⟩) (by show w2.heap.size ≤ w2.heap.size + 1;omega) (.int .i64 0)).setCell (p := ⟨w2.heap.size + 1,1,none⟩) (by show w2.heap.size ≤ w2.heap.size + 1;omega) (.int .i64 tf)) hb4);have m0_ := cells_2a (k_B (far _ _ (far _ _ (blk_alloc E.out.h1 (.cells #[.string m2,.slice A2 xs2.length c2] 42)) (by show w2.heap.size ≠ w2.heap.size + 1;omega)) (by show w2.heap.size ≠ w2.heap.size + 1;omega)) hb4);clear hb4 y0 y1 w0_ w1_ f0 f1 x0_ x1_ n0 n1 n2 n3 n4 n5 n6;have hmost : ∀ o_,(w4.alloc o_).cell? ⟨w.heap.size,14,none⟩ = some (.int .i64 most) := fun o_ => blk_cell (blk_alloc HB4.out.h1 o_) 14;rcases Decidable.em (most < (bb.size : Int)) with u | u <;> (first | (have b2 : decide (most < (bb.size : Int)) = true := d_T u;have hO := HO.out;rw [if_pos u] at hO;clear HO u;have HO := aS hO;clear hO) | (have b2 : decide (most < (bb.size : Int)) = false := d_F u;have hO := HO.out;rw [if_neg u] at hO;clear HO u;have HO := aS hO;clear hO))) | (go_at_call 31;first | (refine (route_answer.at s p most m A' c' xs 5 129 C w.heap.size _ (blk_alloc (k_B (k_B HC9.out HB2.out) HW4.out) _) (blk_cell (blk_alloc HB4.out.h1 _) 14) (HS.out.step (b_l HB4.out.below _)) hle hlc (by have := HXL.out;omega) (c_B HR'.out (b_l HW4.out _)) HC'.out (HMO.out 5)).mono ?_;rintro e w6 ⟨rfl,hb6⟩;have HB6 := aS (b_s (b_l HB4.out.below _) hb6);clear hb6) | (refine (route_answer.at s p most m A' c' xs tc tf C w.heap.size _ (k_B (k_B HC9.out HB2.out) (((b_s E.out.below (bO _)).setCell (p := ⟨w2.heap.size + 1,0,none⟩) (by show w2.heap.size ≤ w2.heap.size + 1;omega) _).setCell (p := ⟨w2.heap.size + 1,1,none⟩) (by show w2.heap.size ≤ w2.heap.size + 1;omega) _)) (blk_cell ((D9.out.step HB2.out).step (((b_s E.out.below (bO _)).setCell (p := ⟨w2.heap.size + 1,0,none⟩) (by show w2.heap.size ≤ w2.heap.size + 1;omega) _).setCell (p := ⟨w2.heap.size + 1,1,none⟩) (by show w2.heap.size ≤ w2.heap.size + 1;omega) _)).h1 14) (HS.out.step ((D9.out.step HB2.out).step (((b_s E.out.below (bO _)).setCell (p := ⟨w2.heap.size + 1,0,none⟩) (by show w2.heap.size ≤ w2.heap.size + 1;omega) _).setCell (p := ⟨w2.heap.size + 1,1,none⟩) (by show w2.heap.size ≤ w2.heap.size + 1;omega) _)).below) hle hlc (by have := HXL.out;omega) (c_B HR'.out (((b_s E.out.below (bO _)).setCell (p := ⟨w2.heap.size + 1,0,none⟩) (by show w2.heap.size ≤ w2.heap.size + 1;omega) _).setCell (p := ⟨w2.heap.size + 1,1,none⟩) (by show w2.heap.size ≤ w2.heap.size + 1;omega) _)) HC'.out (HMO.out tc)).mono ?_;rintro e w5 ⟨rfl,hb5⟩;have HB5 := aS (b_s ((D9.out.step HB2.out).step (((b_s E.out.below (bO _)).setCell (p := ⟨w2.heap.size + 1,0,none⟩) (by show w2.heap.size ≤ w2.heap.size + 1;omega) _).setCell (p := ⟨w2.heap.size + 1,1,none⟩) (by show w2.heap.size ≤ w2.heap.size + 1;omega) _)).below hb5);clear hb5) | (refine (route_answer.at s p most m A' c' xs ec ef C w.heap.size _ (k_B (k_B HC9.out HB2.out) (bA _ _)) (blk_cell ((D9.out.step HB2.out).step (bA _ _)).h1 14) (HS.out.step ((D9.out.step HB2.out).step (bA _ _)).below) hle hlc (by have := HXL.out;omega) (c_B HR'.out (bA _ _)) HC'.out (HMO.out ec)).mono ?_;rintro e w3 ⟨rfl,hb3⟩;have HB3 := aS (b_s ((D9.out.step HB2.out).step (bA _ _)).below hb3);clear hb3)))
  all_goals go_ret2
  all_goals have hO := HO.out
  all_goals subst hO
  all_goals first | exact ⟨rfl,HB6.out⟩ | exact ⟨rfl,HB5.out⟩ | exact ⟨rfl,HB3.out⟩ | exact ⟨rfl,b_l HB4.out.below _⟩
end
section
attribute [local go_sem] wr1_7 wr0_7
set_option maxHeartbeats 4000000 in
theorem groatref24_Built.at (w : World) :
  Calls prog 26 #[] w fun e w' => (∃ p q : Ad,e = .returned (.agg #[.int .i64 bs0.st,.int .i64 bs0.ver,.slice p.A1 bs0.l.length p.c1,.slice p.Am bs0.ms.length p.cm,.slice p.Ar bs0.rs.length p.cr,.slice p.Ae bs0.echo.length p.ce,.slice p.Ac bs0.cs.length p.cc,.int .i64 bs1.st,.int .i64 bs1.ver,.slice q.A1 bs1.l.length q.c1,.slice q.Am bs1.ms.length q.cm,.slice q.Ar bs1.rs.length q.cr,.slice q.Ae bs1.echo.length q.ce,.slice q.Ac bs1.cs.length q.cc,.int .i64 4096]) ∧ SdAt w' bs0 p ∧ SdAt w' bs1 q) ∧ Below w.heap.size w w' := by
 have hu35 := underlying35
 have hu33 := underlying33
 have hu32 := underlying32
 have hu28 := underlying28
 have hu24 := underlying24
 have hu94 := underlying94
 go_enter func26,ntmps26
 go_wp2_with (first | (go_at_call 70;(with_reducible refine (types_at _ _ _ ?h1 ?h2).mono ?_);(case h1 => exact types_C (alloc2 w (.cells #[.int .i64 0,.int .i64 0,.slice none 0 0,.slice none 0 0,.slice none 0 0,.slice none 0 0,.slice none 0 0,.int .i64 0,.int .i64 0,.slice none 0 0,.slice none 0 0,.slice none 0 0,.slice none 0 0,.slice none 0 0,.int .i64 0] 35) _));(case h2 => exact Nat.le_refl _);rintro e w1 ⟨At,ct,rfl,hct,hF,hb⟩;have D := aS (Box1.start w (.cells #[.int .i64 0,.int .i64 0,.slice none 0 0,.slice none 0 0,.slice none 0 0,.slice none 0 0,.slice none 0 0,.int .i64 0,.int .i64 0,.slice none 0 0,.slice none 0 0,.slice none 0 0,.slice none 0 0,.slice none 0 0,.int .i64 0] 35));have D_ := aS (D.out.step (b_s (bO _) hb));have HCt := aS hct;have HF_ := aS (hF (fun k => k ≠ w.heap.size) (fun k hk => Nat.ne_of_gt (Nat.lt_of_lt_of_le (blk_lt (Box1.step D.out (bO _)).h1) hk)));clear D hF hb hct;have D := D_;have HF := HF_;clear D_ HF_) | (go_at_call 70;(with_reducible refine (entry_at _ _ _ ?h1 ?h2).mono ?_);(case h1 => exact entry_C (blk_new w1 _));(case h2 => exact Nat.le_refl _);rintro e w2 ⟨Ae,ce,rfl,hc,hF,hb⟩;have HCe := aS hc;clear hc;have D_ := aS (D.out.step (b_s (bO _) hb));have HF_ := aS (Foot.and (Foot.below HF.out (b_s (bO _) hb)) (hF (fun k => k ≠ w.heap.size) (fun k hk => Nat.ne_of_gt (Nat.lt_of_lt_of_le (blk_lt (Box1.step D.out (bO _)).h1) hk))));clear D HF hF hb;have D := D_;have HF := HF_;clear D_ HF_) | (go_at_call 70;(with_reducible refine (act_at _ _ _ ?h1 ?h2).mono ?_);(case h1 => exact act_C (blk_new w2 _));(case h2 => exact Nat.le_refl _);rintro e w3 ⟨Aa,ca,rfl,hc,hF,hb⟩;have HCa := aS hc;clear hc;have D_ := aS (D.out.step (b_s (bO _) hb));have HF_ := aS (Foot.and (Foot.below HF.out (b_s (bO _) hb)) (hF (fun k => k ≠ w.heap.size) (fun k hk => Nat.ne_of_gt (Nat.lt_of_lt_of_le (blk_lt (Box1.step D.out (bO _)).h1) hk))));clear D HF hF hb;have D := D_;have HF := HF_;clear D_ HF_) | (have X5 := HC5;clear X5;go_at_call 62;refine (kept_at 30 keptP 21 lens.2.2.1 kept_eq _).mono ?_;rintro e w6 ⟨Aj,cj,rfl,hN,hb⟩;have D_ := aS (D.out.step hb);have HN := aS (Kd.N_lower (Kd.N_mono (ok' := (fun k => k ≠ w.heap.size)) hN (fun k hk => Nat.ne_of_gt (Nat.lt_of_lt_of_le (blk_lt (Box1.step D.out (Below.refl _ _)).h1) hk))) (Nat.le_of_lt (blk_lt (Box1.step D.out (Below.refl _ _)).h1)));have HF_ := aS (Foot.elder HF.out (Kd.N_base hN) hb);clear D HF hN hb;have D := D_;have HF := HF_;clear D_ HF_) | (go_at_call 62;refine (kept_at 30 keptP 21 lens.2.2.1 kept_eq _).mono ?_;rintro e w4 ⟨Ak,ck,rfl,hN,hb⟩;have D_ := aS (D.out.step (b_s (bO _) hb));have HN := aS (Kd.N_lower (Kd.N_mono (ok' := (fun k => k ≠ w.heap.size)) hN (fun k hk => Nat.ne_of_gt (Nat.lt_of_lt_of_le (blk_lt (Box1.step D.out (bO _)).h1) hk))) (Nat.le_of_lt (blk_lt (Box1.step D.out (bO _)).h1)));have HF_ := aS (Foot.elder (Foot.and (Foot.below HF.out (bO _)) (echo_F (blk_new w3 _) (Nat.ne_of_gt (blk_lt D.out.h1)))) (Kd.N_base hN) hb);clear D HF hN hb;have D := D_;have HF := HF_;clear D_ HF_) | ((with_reducible refine gate_builtin (b := .append) (xs := #[.tmp 15,.tmp 26]) rfl ?_);at_builtin;refine Kd.N_append_rows k94 (w0 := w) w.heap.size rfl (.tmp 15) (.tmp 26) 26 94 (.agg #[(.int .i64 0),(.int .i64 0),(.int .i64 0),(.string ⟨#[]⟩),(.slice none 0 0)]) 64 rfl underlying26 info94 rfl (by decide) (by omega) (.slice Ak 21 ck) keptP there8 (some ⟨w4.heap.size,0,none⟩) 8 8 (fun k => k ≠ w.heap.size) (fun k => k ≠ w.heap.size ∧ some k ≠ (Value.slice Ak 21 ck).ownBlock) rfl rfl (Kd.N_alloc HN.out _) (there8_F (blk_new w4 _) ⟨Nat.ne_of_gt (blk_lt D.out.h1),fun e => absurd (Kd.N_lt HN.out _ e.symm) (Nat.lt_irrefl _)⟩ HCe.out (Foot.below (Foot.imp HF.out (fun _ h => h.1.1.2)) (bO _)) HCa.out (Foot.below (Foot.imp HF.out (fun _ h => h.1.2)) (bO _))) (fun _ h => h) (fun k hk => Nat.ne_of_gt (Nat.lt_of_lt_of_le (blk_lt (blk_alloc D.out.h1 _)) hk)) (b_l D.out.below _) (Nat.le_of_lt (blk_lt (blk_alloc D.out.h1 _))) (by rw [lens.2.2.1];decide) ?_;intro v w5 hn hb hg hat;obtain ⟨A5,c5,hv⟩ := Kd.N_slice hn;rw [len_there8] at hv;subst hv;have HC5 := aS (Kd.N_reads' hn).2.1;have D_ : Aside0 (Box1 w w5 (.cells #[.int .i64 0,.int .i64 0,.slice none 0 0,.slice none 0 0,.slice none 0 0,.slice none 0 0,.slice none 0 0,.int .i64 0,.int .i64 0,.slice none 0 0,.slice none 0 0,.slice none 0 0,.slice none 0 0,.slice none 0 0,.int .i64 0] 35)) := ⟨⟨(hg.block _ (blk_lt (blk_alloc D.out.h1 _)) (Kd.N_away HN.out (fun k hk => hk))).trans (blk_alloc D.out.h1 _),hb⟩⟩;have HF_ := aS (Foot.and (Foot.mono (Foot.step (Foot.below HF.out (bO _)) (fun k ho hlt => hg.block k hlt ho.2)) (fun k hk => hk.1)) (Kd.N_F hn));clear D HF HN hn hb hg hat;have D := D_;have HF := HF_;clear D_ HF_) | (go_at_call 71;(with_reducible refine (entryQ_at _ _ _ ?h1 ?h2).mono ?_);(case h1 => exact HF.out.now.1.1.1.2);(case h2 => exact HCe.out);rintro e w7 ⟨Aq,cq,rfl,hc,hF,hb⟩;have HCq := aS hc;clear hc;have D_ := aS (D.out.step hb);have HF_ := aS (Foot.and (Foot.below HF.out hb) (hF (fun k => k ≠ w.heap.size ∧ some k ≠ (Value.slice Aj 21 cj).ownBlock) (fun k hk => ⟨Nat.ne_of_gt (Nat.lt_of_lt_of_le (blk_lt D.out.h1) hk),fun e => absurd (Kd.N_lt HN.out _ e.symm) (Nat.not_lt.mpr hk)⟩)));have HN_ := aS (Kd.N_below HN.out hb);clear HN;have HN := HN_;clear HN_;clear D HF hF hb;have D := D_;have HF := HF_;clear D_ HF_) | (go_at_call 71;(with_reducible refine (actQ_at _ _ _ ?h1 ?h2).mono ?_);(case h1 => exact HF.out.now.1.1.1.2);(case h2 => exact HCa.out);rintro e w8 ⟨Ab,cb,rfl,hc,hF,hb⟩;have HCb := aS hc;clear hc;have D_ := aS (D.out.step hb);have HF_ := aS (Foot.and (Foot.below HF.out hb) (hF (fun k => k ≠ w.heap.size ∧ some k ≠ (Value.slice Aj 21 cj).ownBlock) (fun k hk => ⟨Nat.ne_of_gt (Nat.lt_of_lt_of_le (blk_lt D.out.h1) hk),fun e => absurd (Kd.N_lt HN.out _ e.symm) (Nat.not_lt.mpr hk)⟩)));have HN_ := aS (Kd.N_below HN.out hb);clear HN;have HN := HN_;clear HN_;clear D HF hF hb;have D := D_;have HF := HF_;clear D_ HF_) | ((with_reducible refine gate_builtin (b := .append) (xs := #[.tmp 28,.tmp 38]) rfl ?_);at_builtin;refine Kd.N_append_rows k94 (w0 := w) w.heap.size rfl (.tmp 28) (.tmp 38) 26 94 (.agg #[(.int .i64 0),(.int .i64 0),(.int .i64 0),(.string ⟨#[]⟩),(.slice none 0 0)]) 64 rfl underlying26 info94 rfl (by decide) (by omega) (.slice Aj 21 cj) keptP back5 (some ⟨w8.heap.size,0,none⟩) 5 5 (fun k => k ≠ w.heap.size) (fun k => k ≠ w.heap.size ∧ some k ≠ (Value.slice Aj 21 cj).ownBlock) rfl rfl (Kd.N_alloc HN.out _) (back5_F (blk_new w8 _) ⟨Nat.ne_of_gt (blk_lt D.out.h1),fun e => absurd (Kd.N_lt HN.out _ e.symm) (Nat.lt_irrefl _)⟩ HCq.out (Foot.below (Foot.imp HF.out (fun _ h => h.1.2)) (bO _)) HCb.out (Foot.below (Foot.imp HF.out (fun _ h => h.2)) (bO _))) (fun _ h => h) (fun k hk => Nat.ne_of_gt (Nat.lt_of_lt_of_le (blk_lt (blk_alloc D.out.h1 _)) hk)) (b_l D.out.below _) (Nat.le_of_lt (blk_lt (blk_alloc D.out.h1 _))) (by rw [lens.2.2.1];decide) ?_;intro v w9 hn hb hg hat;obtain ⟨A9,c9,hv⟩ := Kd.N_slice hn;rw [len_back5] at hv;subst hv;have HC9 := aS (Kd.N_reads' hn).2.1;have D_ : Aside0 (Box1 w w9 (.cells #[.int .i64 0,.int .i64 0,.slice none 0 0,.slice none 0 0,.slice none 0 0,.slice none 0 0,.slice none 0 0,.int .i64 0,.int .i64 0,.slice none 0 0,.slice none 0 0,.slice none 0 0,.slice none 0 0,.slice none 0 0,.int .i64 0] 35)) := ⟨⟨(hg.block _ (blk_lt (blk_alloc D.out.h1 _)) (Kd.N_away HN.out (fun k hk => hk))).trans (blk_alloc D.out.h1 _),hb⟩⟩;have HF_ := aS (Foot.and (Foot.mono (Foot.step (Foot.below HF.out (bO _)) (fun k ho hlt => hg.block k hlt ho.2)) (fun k hk => hk.1)) (Kd.N_F hn));clear D HF HN hn hb hg hat;have D := D_;have HF := HF_;clear D_ HF_) | (go_at_call 25;(fail_if_success have X := HC0);refine (schema_at 40 0 1 0 schA 28 lens.2.2.2.1 schA_eq _).mono ?_;rintro e w10 ⟨A0,c0,rfl,hc,hF,hb⟩;have HC0 := aS hc;clear hc;have HW : Aside0 (Below w9.heap.size w9 (w9.alloc (.cells #[.int .i64 0,.int .i64 0,.slice none 0 0,.slice none 0 0,.slice none 0 0,.slice none 0 0,.slice none 0 0,.int .i64 0,.int .i64 0,.slice none 0 0,.slice none 0 0,.slice none 0 0,.slice none 0 0,.slice none 0 0,.int .i64 4096] 35))) := ⟨b_l (Below.refl _ _) _⟩;have HB : Aside0 ((w9.alloc (.cells #[.int .i64 0,.int .i64 0,.slice none 0 0,.slice none 0 0,.slice none 0 0,.slice none 0 0,.slice none 0 0,.int .i64 0,.int .i64 0,.slice none 0 0,.slice none 0 0,.slice none 0 0,.slice none 0 0,.slice none 0 0,.int .i64 4096] 35)).heap[w9.heap.size]? = some (.cells #[.int .i64 0,.int .i64 0,.slice none 0 0,.slice none 0 0,.slice none 0 0,.slice none 0 0,.slice none 0 0,.int .i64 0,.int .i64 0,.slice none 0 0,.slice none 0 0,.slice none 0 0,.slice none 0 0,.slice none 0 0,.int .i64 4096] 35 (0,0))) := ⟨blk_new w9 _⟩;have HLT := aS (blk_lt D.out.h1);have D_ := aS ((D.out.step HW.out).step hb);have HB_ : Aside0 (w10.heap[w9.heap.size]? = some (.cells #[.int .i64 0,.int .i64 0,.slice none 0 0,.slice none 0 0,.slice none 0 0,.slice none 0 0,.slice none 0 0,.int .i64 0,.int .i64 0,.slice none 0 0,.slice none 0 0,.slice none 0 0,.slice none 0 0,.slice none 0 0,.int .i64 4096] 35 (0,0))) := ⟨k_B HB.out hb⟩;have HF_ := aS (Foot.and (Foot.below (Foot.mono (Foot.old HF.out HW.out) (fun k hk => ⟨hk.1,Nat.ne_of_lt hk.2⟩)) hb) (hF (fun k => k ≠ w.heap.size ∧ k ≠ w9.heap.size) (fun k hk => ⟨Nat.ne_of_gt (Nat.lt_of_lt_of_le (blk_lt (D.out.step HW.out).h1) hk),Nat.ne_of_gt (Nat.lt_of_lt_of_le (blk_lt HB.out) hk)⟩)));clear HB HW;have HB := HB_;clear HB_;clear D HF hF hb;have D := D_;have HF := HF_;clear D_ HF_) | (go_at_call 72;(fail_if_success have X := HC1c);refine (codes_at ⟨#[57,54]⟩ ⟨#[51,48]⟩ ⟨#[49,50]⟩ _).mono ?_;rintro e w11 ⟨A1c,c1c,rfl,hc,hF,hb⟩;have HC1c := aS hc;clear hc;have D_ := aS (D.out.step hb);have HF_ := aS (Foot.and (Foot.below HF.out hb) (hF (fun k => k ≠ w.heap.size ∧ k ≠ w9.heap.size) (fun k hk => ⟨Nat.ne_of_gt (Nat.lt_of_lt_of_le (blk_lt D.out.h1) hk),Nat.ne_of_gt (Nat.lt_of_lt_of_le (blk_lt HB.out) hk)⟩)));have HB_ := aS (k_B HB.out hb);clear HB;have HB := HB_;clear HB_;clear D HF hF hb;have D := D_;have HF := HF_;clear D_ HF_;obtain ⟨g0_,g1_,g2_,g3_,g4_,g5_,g6_,g7_,g8_,g9_,g10_,g11_,g12_,g13_,g14_⟩ := cells_15 HB.out;have f0_ := froz_n HB.out 0;have f1_ := froz_n HB.out 1;have f2_ := froz_n HB.out 2;have f3_ := froz_n HB.out 3;have f4_ := froz_n HB.out 4;have f5_ := froz_n HB.out 5;have f6_ := froz_n HB.out 6) | (go_at_call 25;have X2 := HC1c;clear X2;refine (schema_at 40 1 2 1 schB 26 lens.2.2.2.2 schB_eq _).mono ?_;rintro e w12 ⟨A2,c2,rfl,hc,hF,hb⟩;clear g0_ g1_ g2_ g3_ g4_ g5_ g6_ g7_ g8_ g9_ g10_ g11_ g12_ g13_ g14_ f0_ f1_ f2_ f3_ f4_ f5_ f6_;have HC2 := aS hc;clear hc;have HB2 : Aside0 ((putAll w11 w9.heap.size 0 [.int .i64 1,.int .i64 0,.slice A0 28 c0,.slice At 12 ct,.slice A5 29 c5,.slice (some ⟨w3.heap.size,0,none⟩) 11 11,.slice A1c 6 c1c]).heap[w9.heap.size]? = some (.cells (setA #[.int .i64 0,.int .i64 0,.slice none 0 0,.slice none 0 0,.slice none 0 0,.slice none 0 0,.slice none 0 0,.int .i64 0,.int .i64 0,.slice none 0 0,.slice none 0 0,.slice none 0 0,.slice none 0 0,.slice none 0 0,.int .i64 4096] 0 [.int .i64 1,.int .i64 0,.slice A0 28 c0,.slice At 12 ct,.slice A5 29 c5,.slice (some ⟨w3.heap.size,0,none⟩) 11 11,.slice A1c 6 c1c]) 35 (0,0))) := ⟨putAll_self HB.out 0⟩;have HG : Aside0 (w.heap.size < w9.heap.size) := ⟨HLT.out⟩;have D2 : Aside0 (Box1 w (putAll w11 w9.heap.size 0 [.int .i64 1,.int .i64 0,.slice A0 28 c0,.slice At 12 ct,.slice A5 29 c5,.slice (some ⟨w3.heap.size,0,none⟩) 11 11,.slice A1c 6 c1c]) (.cells #[.int .i64 0,.int .i64 0,.slice none 0 0,.slice none 0 0,.slice none 0 0,.slice none 0 0,.slice none 0 0,.int .i64 0,.int .i64 0,.slice none 0 0,.slice none 0 0,.slice none 0 0,.slice none 0 0,.slice none 0 0,.int .i64 0] 35)) := ⟨⟨(putAll_heap (Nat.ne_of_lt HG.out) _ _ _).trans D.out.h1,putAll_below (Nat.le_of_lt HG.out) _ _ D.out.below⟩⟩;have D_ := aS (D2.out.step hb);have HB_ : Aside0 (w12.heap[w9.heap.size]? = some (.cells #[.int .i64 1,.int .i64 0,.slice A0 28 c0,.slice At 12 ct,.slice A5 29 c5,.slice (some ⟨w3.heap.size,0,none⟩) 11 11,.slice A1c 6 c1c,.int .i64 0,.int .i64 0,.slice none 0 0,.slice none 0 0,.slice none 0 0,.slice none 0 0,.slice none 0 0,.int .i64 4096] 35 (0,0))) := ⟨k_B HB2.out hb⟩;have HF_ := aS (Foot.and (Foot.below (W := (putAll w11 w9.heap.size 0 [.int .i64 1,.int .i64 0,.slice A0 28 c0,.slice At 12 ct,.slice A5 29 c5,.slice (some ⟨w3.heap.size,0,none⟩) 11 11,.slice A1c 6 c1c])) (Foot.step HF.out (fun k ho _ => putAll_heap ho.2 _ _ _)) hb) (hF (fun k => k ≠ w.heap.size ∧ k ≠ w9.heap.size) (fun k hk => ⟨Nat.ne_of_gt (Nat.lt_of_lt_of_le (blk_lt D2.out.h1) hk),Nat.ne_of_gt (Nat.lt_of_lt_of_le (blk_lt HB2.out) hk)⟩)));clear HB HB2 D2 HG;have HB := HB_;clear HB_;clear D HF hF hb;have D := D_;have HF := HF_;clear D_ HF_) | (go_at_call 71;(with_reducible refine (typesQ_at _ _ _ ?h1 ?h2).mono ?_);(case h1 => exact HF.out.now.1.1.1.1.1.1.1.1.1.1);(case h2 => exact HCt.out);rintro e w13 ⟨Au,cu,rfl,hc,hF,hb⟩;have HCu := aS hc;clear hc;have D_ := aS (D.out.step hb);have HF_ := aS (Foot.and (Foot.below HF.out hb) (hF (fun k => k ≠ w.heap.size ∧ k ≠ w9.heap.size) (fun k hk => ⟨Nat.ne_of_gt (Nat.lt_of_lt_of_le (blk_lt D.out.h1) hk),Nat.ne_of_gt (Nat.lt_of_lt_of_le (blk_lt HB.out) hk)⟩)));have HB_ := aS (k_B HB.out hb);clear HB;have HB := HB_;clear HB_;clear D HF hF hb;have D := D_;have HF := HF_;clear D_ HF_) | ((with_reducible refine gate_builtin (b := .append) (xs := #[.tmp 55,.tmp 56]) rfl ?_);at_builtin;refine Kd.N_append_rows (Kd.int .i64) (w0 := w) w.heap.size rfl (.tmp 55) (.tmp 56) 29 3 (.int .i64 0) 8 rfl underlying29 info3 rfl (by decide) (by omega) (.slice (some ⟨w13.heap.size,0,none⟩) 0 0) [] echoL (some ⟨w3.heap.size,0,none⟩) 11 11 (fun k => k ≠ w.heap.size ∧ k ≠ w9.heap.size) (fun k => (k ≠ w.heap.size ∧ k ≠ w9.heap.size) ∧ some k ≠ (Value.slice (some ⟨w13.heap.size,0,none⟩) 0 0).ownBlock) rfl rfl (empty_N w13 _ _ (Nat.le_of_lt (blk_lt D.out.h1)) ⟨Nat.ne_of_gt (blk_lt D.out.h1),Nat.ne_of_gt (blk_lt HB.out)⟩) (Foot.imp (Foot.elder (v := .slice (some ⟨w13.heap.size,0,none⟩) 0 0) HF.out (fun k hk => Nat.le_of_eq (Option.some.inj hk)) (bO _)) (fun _ h => h.1.1.1.1.1.1.1.1.2)) (fun _ h => h) (fun k hk => ⟨Nat.ne_of_gt (Nat.lt_of_lt_of_le (blk_lt (blk_alloc D.out.h1 _)) hk),Nat.ne_of_gt (Nat.lt_of_lt_of_le (blk_lt (blk_alloc HB.out _)) hk)⟩) (b_l D.out.below _) (Nat.le_of_lt (blk_lt (blk_alloc D.out.h1 _))) (by decide) ?_;intro v w14 hn hb hg hat;rw [List.nil_append] at hn;obtain ⟨A14,c14,hv⟩ := Kd.N_slice hn;rw [show echoL.length = 11 from rfl] at hv;subst hv;have HC14 := aS (Kd.N_reads' hn).2.1;have HE : Aside0 (∀ g,g < w13.heap.size → some g ≠ (Value.slice (some ⟨w13.heap.size,0,none⟩) 0 0).ownBlock) := ⟨fun g hg e => absurd (Option.some.inj e) (Nat.ne_of_lt hg)⟩;have D_ : Aside0 (Box1 w w14 (.cells #[.int .i64 0,.int .i64 0,.slice none 0 0,.slice none 0 0,.slice none 0 0,.slice none 0 0,.slice none 0 0,.int .i64 0,.int .i64 0,.slice none 0 0,.slice none 0 0,.slice none 0 0,.slice none 0 0,.slice none 0 0,.int .i64 0] 35)) := ⟨⟨(hg.block _ (blk_lt (blk_alloc D.out.h1 _)) (HE.out _ (blk_lt D.out.h1))).trans (blk_alloc D.out.h1 _),hb⟩⟩;have HB_ := aS ((hg.block _ (blk_lt (blk_alloc HB.out _)) (HE.out _ (blk_lt HB.out))).trans (blk_alloc HB.out _));have HF_ := aS (Foot.and (Foot.mono (Foot.step (Foot.elder (v := .slice (some ⟨w13.heap.size,0,none⟩) 0 0) HF.out (fun k hk => Nat.le_of_eq (Option.some.inj hk)) (bO _)) (fun k ho hlt => hg.block k hlt ho.2)) (fun k hk => hk.1)) (Kd.N_F hn));clear D HF HB HE hn hb hg hat;have D := D_;have HF := HF_;have HB := HB_;clear D_ HF_ HB_))
 go_at_call 72;have X2 := HC14;clear X2;refine (codes_at ⟨#[57,48,57]⟩ ⟨#[57,48,52]⟩ ⟨#[57,48,50]⟩ _).mono ?_;rintro e w15 ⟨A15,c15,rfl,hc,hF,hb⟩;have HC15 := aS hc;clear hc;have D_ := aS (D.out.step hb);have HF_ := aS (Foot.and (Foot.below HF.out hb) (hF (fun k => k ≠ w.heap.size ∧ k ≠ w9.heap.size) (fun k hk => ⟨Nat.ne_of_gt (Nat.lt_of_lt_of_le (blk_lt D.out.h1) hk),Nat.ne_of_gt (Nat.lt_of_lt_of_le (blk_lt HB.out) hk)⟩)));have HB_ := aS (k_B HB.out hb);clear HB;have HB := HB_;clear HB_;clear D HF hF hb;have D := D_;have HF := HF_;clear D_ HF_;obtain ⟨g0_,g1_,g2_,g3_,g4_,g5_,g6_,g7_,g8_,g9_,g10_,g11_,g12_,g13_,g14_⟩ := cells_15 HB.out;have f7_ := froz_n HB.out 7;have f8_ := froz_n HB.out 8;have f9_ := froz_n HB.out 9;have f10_ := froz_n HB.out 10;have f11_ := froz_n HB.out 11;have f12_ := froz_n HB.out 12;have f13_ := froz_n HB.out 13
 simp only []
 iterate 14 (first | go_values | go_skip | go_guarded | go_step | go_upon)
 have HN : ∃ W,W = (((((((w15.setCell ⟨w9.heap.size,7,none⟩ (.int .i64 2)).setCell ⟨w9.heap.size,8,none⟩ (.int .i64 1)).setCell ⟨w9.heap.size,9,none⟩ (.slice A2 26 c2)).setCell ⟨w9.heap.size,10,none⟩ (.slice Au 12 cu)).setCell ⟨w9.heap.size,11,none⟩ (.slice A9 26 c9)).setCell ⟨w9.heap.size,12,none⟩ (.slice A14 11 c14)).setCell ⟨w9.heap.size,13,none⟩ (.slice A15 6 c15)) ∧ Aside0 (W.heap[w9.heap.size]? = some (.cells #[.int .i64 1,.int .i64 0,.slice A0 28 c0,.slice At 12 ct,.slice A5 29 c5,.slice (some ⟨w3.heap.size,0,none⟩) 11 11,.slice A1c 6 c1c,.int .i64 2,.int .i64 1,.slice A2 26 c2,.slice Au 12 cu,.slice A9 26 c9,.slice A14 11 c14,.slice A15 6 c15,.int .i64 4096] 35 (0,0))) ∧ Aside0 (Box1 w W (.cells #[.int .i64 0,.int .i64 0,.slice none 0 0,.slice none 0 0,.slice none 0 0,.slice none 0 0,.slice none 0 0,.int .i64 0,.int .i64 0,.slice none 0 0,.slice none 0 0,.slice none 0 0,.slice none 0 0,.slice none 0 0,.int .i64 0] 35)) ∧ Aside0 (Foot (fun W => (((((((((((((k66.C W At 12 typesP ∧ k66.C W Ae 3 entryP) ∧ k66.C W Aa 7 actP) ∧ Kd.C (Kd.int .i64) W (some ⟨w3.heap.size,0,none⟩) 11 echoL) ∧ k94.C W A5 29 (keptP ++ there8)) ∧ k66.C W Aq 3 entryQ) ∧ k66.C W Ab 7 actQ) ∧ k94.C W A9 26 (keptP ++ back5)) ∧ k87.C W A0 28 schA) ∧ k129.C W A1c 6 (codesP ⟨#[57,54]⟩ ⟨#[51,48]⟩ ⟨#[49,50]⟩)) ∧ k87.C W A2 26 schB) ∧ k66.C W Au 12 typesQ) ∧ Kd.C (Kd.int .i64) W A14 11 echoL) ∧ k129.C W A15 6 (codesP ⟨#[57,48,57]⟩ ⟨#[57,48,52]⟩ ⟨#[57,48,50]⟩))) W (fun k => k ≠ w.heap.size ∧ k ≠ w9.heap.size)) :=
  ⟨_,rfl,⟨putAll_self (us := [.int .i64 2,.int .i64 1,.slice A2 26 c2,.slice Au 12 cu,.slice A9 26 c9,.slice A14 11 c14,.slice A15 6 c15]) HB.out 7⟩,⟨⟨(putAll_heap (Nat.ne_of_lt HLT.out) [.int .i64 2,.int .i64 1,.slice A2 26 c2,.slice Au 12 cu,.slice A9 26 c9,.slice A14 11 c14,.slice A15 6 c15] _ _).trans D.out.h1,putAll_below (Nat.le_of_lt HLT.out) [.int .i64 2,.int .i64 1,.slice A2 26 c2,.slice Au 12 cu,.slice A9 26 c9,.slice A14 11 c14,.slice A15 6 c15] _ D.out.below⟩⟩,⟨Foot.step HF.out (fun k ho _ => putAll_heap ho.2 [.int .i64 2,.int .i64 1,.slice A2 26 c2,.slice Au 12 cu,.slice A9 26 c9,.slice A14 11 c14,.slice A15 6 c15] _ 7)⟩⟩
 obtain ⟨W,hW,HB2,D2,HF2⟩ := HN
 rw [← hW]
 clear hW D HF HB
 clear g0_ g1_ g2_ g3_ g4_ g5_ g6_ g7_ g8_ g9_ g10_ g11_ g12_ g13_ g14_ f7_ f8_ f9_ f10_ f11_ f12_ f13_
 obtain ⟨g0_,g1_,g2_,g3_,g4_,g5_,g6_,g7_,g8_,g9_,g10_,g11_,g12_,g13_,g14_⟩ := cells_15 HB2.out
 obtain ⟨h0_,h1_,h2_,h3_,h4_,h5_,h6_,h7_,h8_,h9_,h10_,h11_,h12_,h13_,h14_⟩ := cells_15 D2.out.h1
 have e0_ := froz_n D2.out.h1 0
 have e1_ := froz_n D2.out.h1 1
 have e2_ := froz_n D2.out.h1 2
 have e3_ := froz_n D2.out.h1 3
 have e4_ := froz_n D2.out.h1 4
 have e5_ := froz_n D2.out.h1 5
 have e6_ := froz_n D2.out.h1 6
 have e7_ := froz_n D2.out.h1 7
 have e8_ := froz_n D2.out.h1 8
 have e9_ := froz_n D2.out.h1 9
 have e10_ := froz_n D2.out.h1 10
 have e11_ := froz_n D2.out.h1 11
 have e12_ := froz_n D2.out.h1 12
 have e13_ := froz_n D2.out.h1 13
 have e14_ := froz_n D2.out.h1 14
 go_wp2
 obtain ⟨q1,⟨q2,q3⟩,q4⟩ := blt_end D2.out HF2.out HC0.out HCt.out HC5.out HC1c.out HC2.out HCu.out HC9.out HC14.out HC15.out (putAll_15 _ _ _ _ _ _ _ _ _ _ _ _ _ _ _ _ _).symm
 refine bodyPost_ret (results_cell_row rfl _ _ w.heap.size 35 _ (0,0) _ rfl q1 hu35 rfl (by kernel_rfl)) rfl ?_
 exact ⟨⟨⟨A0,c0,At,ct,A5,c5,some ⟨w3.heap.size,0,none⟩,11,A1c,c1c⟩,⟨A2,c2,Au,cu,A9,c9,A14,c14,A15,c15⟩,bs_val ⟨A0,c0,At,ct,A5,c5,some ⟨w3.heap.size,0,none⟩,11,A1c,c1c⟩ ⟨A2,c2,Au,cu,A9,c9,A14,c14,A15,c15⟩,q2,q3⟩,q4⟩
end
theorem live_enc (A : Option Addr) (c : Nat) (A2 : Option Addr) (W : World) (hr : Kd.C k87 W A schA.length schA) (hc : schA.length ≤ c) (h2 : Kd.C k63 W A2 1 [⟨11,⟨#[48,48,48,48,48,49]⟩⟩]) :
  Calls prog 12 #[.agg #[.int .i64 1,.int .i64 0,.slice A schA.length c],.agg #[.string ⟨#[48,56,48,48]⟩,.slice A2 1 1]] W fun e w' => e = .returned (.tuple #[.string ping,.agg #[.int .i64 0,.int .i64 0]]) ∧ Below W.heap.size W w' := by
 have h := wire_Encode.at 1 0 A c schA ⟨#[48,56,48,48]⟩ A2 1 [⟨11,⟨#[48,48,48,48,48,49]⟩⟩] W (by decide +kernel) hr hc (by decide) h2 (Nat.le_refl _) msg_ping
 rw [enc_ping] at h
 exact h
theorem live_dec (A : Option Addr) (c : Nat) (W : World) (hr : Kd.C k87 W A schA.length schA) (hc : schA.length ≤ c) :
  Calls prog 10 #[.agg #[.int .i64 1,.int .i64 0,.slice A schA.length c],.string ping] W fun e w' => (∃ A' c',e = .returned (.tuple #[.agg #[.string ⟨#[48,56,48,48]⟩,.slice A' 1 c'],.agg #[.int .i64 0,.int .i64 0]])) ∧ Below W.heap.size W w' := by
 have h := strict_Decode.at 1 0 A c schA ping W (by decide +kernel) hr hc sdR_bs0.1 (by decide +kernel)
 rw [dec_ping] at h
 refine h.mono ?_
 rintro e w' ⟨⟨A',c',rfl,_⟩,hb⟩
 exact ⟨⟨A',c',rfl⟩,hb⟩
theorem live_out (b : ByteArray) (p q : Ad) (W : World) (h1 : SdAt W bs0 p) (h2 : SdAt W bs1 q) (hb : b.size ≤ 100000) :
  Calls prog 9 #[.agg #[.int .i64 bs0.st,.int .i64 bs0.ver,.slice p.A1 bs0.l.length p.c1,.slice p.Am bs0.ms.length p.cm,.slice p.Ar bs0.rs.length p.cr,.slice p.Ae bs0.echo.length p.ce,.slice p.Ac bs0.cs.length p.cc,.int .i64 bs1.st,.int .i64 bs1.ver,.slice q.A1 bs1.l.length q.c1,.slice q.Am bs1.ms.length q.cm,.slice q.Ar bs1.rs.length q.cr,.slice q.Ae bs1.echo.length q.ce,.slice q.Ac bs1.cs.length q.cc,.int .i64 4096],.int .i64 0,.string b] W fun e w' => e = .returned (.tuple #[.int .i64 (outS bs0 bs1 4096 b).1,.string (outS bs0 bs1 4096 b).2]) ∧ Below W.heap.size W w' :=
 route_Outcome_0.at bs0 bs1 p q 4096 b W h1 h2 cfgK_bs hb (sideOk_of sdR_bs0) (by decide +kernel) (by decide +kernel) (Nat.le_trans (decG_len sdR_bs0.1) (by decide))
theorem live_out1 (p q : Ad) (W : World) (h1 : SdAt W bs0 p) (h2 : SdAt W bs1 q) :
  Calls prog 9 #[.agg #[.int .i64 bs0.st,.int .i64 bs0.ver,.slice p.A1 bs0.l.length p.c1,.slice p.Am bs0.ms.length p.cm,.slice p.Ar bs0.rs.length p.cr,.slice p.Ae bs0.echo.length p.ce,.slice p.Ac bs0.cs.length p.cc,.int .i64 bs1.st,.int .i64 bs1.ver,.slice q.A1 bs1.l.length q.c1,.slice q.Am bs1.ms.length q.cm,.slice q.Ar bs1.rs.length q.cr,.slice q.Ae bs1.echo.length q.ce,.slice q.Ac bs1.cs.length q.cc,.int .i64 4096],.int .i64 0,.string ping] W fun e w' => (∃ r : ByteArray,e = .returned (.tuple #[.int .i64 1,.string r]) ∧ r.size = 15) ∧ Below W.heap.size W w' := by
 have h := live_out ping p q W h1 h2 (by decide +kernel)
 refine h.mono ?_
 rintro e w' ⟨rfl,hb⟩
 exact ⟨⟨_,by rw [out_ping.1],out_ping.2⟩,hb⟩
theorem live_out2 (p q : Ad) (W : World) (h1 : SdAt W bs0 p) (h2 : SdAt W bs1 q) :
  Calls prog 9 #[.agg #[.int .i64 bs0.st,.int .i64 bs0.ver,.slice p.A1 bs0.l.length p.c1,.slice p.Am bs0.ms.length p.cm,.slice p.Ar bs0.rs.length p.cr,.slice p.Ae bs0.echo.length p.ce,.slice p.Ac bs0.cs.length p.cc,.int .i64 bs1.st,.int .i64 bs1.ver,.slice q.A1 bs1.l.length q.c1,.slice q.Am bs1.ms.length q.cm,.slice q.Ar bs1.rs.length q.cr,.slice q.Ae bs1.echo.length q.ce,.slice q.Ac bs1.cs.length q.cc,.int .i64 4096],.int .i64 0,.string (ping ++ ⟨#[48]⟩)] W fun e w' => e = .returned (.tuple #[.int .i64 2,.string ping0]) ∧ Below W.heap.size W w' := by
 have h := live_out (ping ++ ⟨#[48]⟩) p q W h1 h2 (by decide +kernel)
 rw [out_ping0.1,out_ping0.2] at h
 exact h
theorem ping_eq : (ping == ⟨#[48,56,48,48,48,48,50,48,48,48,48,48,48,48,48,48,48,48,48,48,48,48,48,48,48,49]⟩) = true := by decide +kernel
theorem ping0_eq : (ping0 == ⟨#[48,56,49,48,48,48,50,48,48,48,48,48,48,50,48,48,48,48,48,48,48,48,48,48,48,49,51,48]⟩) = true := by decide +kernel
theorem ping_eq2 : (ping.toList == [48,56,48,48,48,48,50,48,48,48,48,48,48,48,48,48,48,48,48,48,48,48,48,48,48,49]) = true := by decide +kernel
theorem ping_size : ping.size = 26 := by decide +kernel
theorem ping0_eq2 : (ping0.toList == [48,56,49,48,48,48,50,48,48,48,48,48,48,50,48,48,48,48,48,48,48,48,48,48,48,49,51,48]) = true := by decide +kernel
set_option maxHeartbeats 4000000 in
theorem groattop_live.at (w : World) : Calls prog 6 #[] w fun e w' => e = .returned (.bool true) ∧ Below w.heap.size w w' := by
 have hu24 := underlying24
 have hu42 := underlying42
 have hu45 := underlying45
 have hu63 := underlying63
 have hp1 := ping_eq
 have hp2 := ping0_eq
 have hp3 := ping0_eq2
 have hp4 := ping_eq2
 have hp5 := ping_size
 go_enter func6,ntmps6
 go_wp2_with (first | (go_at_call 25;refine (schema_at 40 0 1 0 schA schA.length rfl schA_eq _).mono ?_;rintro e w1 ⟨A0,c0,rfl,hc,hF,hb⟩;have HC0 := aS hc;have HF0 := aS (hF (fun _ => True) (fun _ _ => trivial));have HB := aS hb;clear hc hF hb) | (go_at_call 12;refine (live_enc A0 c0 (some ⟨w1.heap.size + 1,0,none⟩) _ (c_B (Kd.F_now HF0.out) (b_l (b_l (Below.refl w1.heap.size w1) _) _)) HC0.out (flat63_C (xs := [⟨11,⟨#[48,48,48,48,48,49]⟩⟩]) (by decide) (alloc2 w1 _ _))).mono ?_;rintro e w2 ⟨rfl,hb⟩;have D := aS ((Box1.start w1 (.cells #[.int .i64 1,.int .i64 0,.slice A0 schA.length c0] 24)).step (b_s (bO _) hb));have HF0_ := aS (Foot.below HF0.out D.out.below);have HB_ := aS (b_s HB.out D.out.below);clear HF0 HB hb;have HF0 := HF0_;have HB := HB_;clear HF0_ HB_;have ys := cells_3a D.out.h1) | (go_at_call 10;refine (live_dec A0 c0 _ (c_B (Kd.F_now HF0.out) (bO _)) HC0.out).mono ?_;rintro e w3 ⟨⟨A3,c3,rfl⟩,hb⟩;have E3 := aS ((Box1.start w2 (.cells #[.int .i64 0,.int .i64 0] 45)).step hb);have HB_ := aS (b_s HB.out E3.out.below);clear HB hb ys D;have HB := HB_;clear HB_) | (have X9 := HX9;clear X9;go_at_call 26;refine (groatref24_Built.at _).mono ?_;rintro e w6 ⟨⟨p2,q2,rfl,h1,h2⟩,hb⟩;have HY := aS hb;have H1 := aS h1;have H2 := aS h2;clear h1 h2 hb) | (go_at_call 26;refine (groatref24_Built.at _).mono ?_;rintro e w4 ⟨⟨p,q,rfl,h1,h2⟩,hb⟩;have E45 := aS ((Box2.start w3 (.cells #[.string ⟨#[48,56,48,48]⟩,.slice A3 1 c3] 42) (.cells #[.int .i64 0,.int .i64 0] 45)).step hb);have E3_ := aS (E3.out.step E45.out.below);have HB_ := aS (b_s HB.out E45.out.below);have H1 := aS h1;have H2 := aS h2;clear h1 h2 hb HB E3;have HB := HB_;have E3 := E3_;clear HB_ E3_) | (have X9 := HY;clear X9;go_at_call 9;refine (live_out2 p2 q2 _ H1.out H2.out).mono ?_;rintro e w7 ⟨rfl,hb⟩;have HZ := aS (b_s HY.out hb);clear HY hb;have E45_ := aS (E45.out.step HZ.out);have E3_ := aS (E3.out.step HZ.out);have HB_ := aS (b_s HB.out HZ.out);clear HB E3 E45;have HB := HB_;have E3 := E3_;have E45 := E45_;clear HB_ E3_ E45_;obtain ⟨g0,g1⟩ := cells_2 E3.out.h1;obtain ⟨g2,g3⟩ := cells_2 E45.out.h1;obtain ⟨g4,g5⟩ := cells_2 E45.out.h2;have h15 : ((r.size : Int) == 15) = true := by rw [HX9.out];rfl) | (go_at_call 9;refine (live_out1 p q _ H1.out H2.out).mono ?_;rintro e w5 ⟨⟨r,rfl,hr⟩,hb⟩;have HX9 := aS hr;have E45_ := aS (E45.out.step hb);have E3_ := aS (E3.out.step hb);have HB_ := aS (b_s HB.out hb);clear H1 H2 hr hb HB E3 E45;have HB := HB_;have E3 := E3_;have E45 := E45_;clear HB_ E3_ E45_))
 go_ret
 exact ⟨rfl,HB.out⟩
end Go.Proofs.YtgbmnpgaddhfpaaGreatDoor.T
