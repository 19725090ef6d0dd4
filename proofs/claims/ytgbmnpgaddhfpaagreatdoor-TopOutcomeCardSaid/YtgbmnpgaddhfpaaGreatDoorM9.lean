/- Walks and plain laws beneath the law TopOutcome. No conditions but what each statement names. -/
import Derived.Test.YtgbmnpgaddhfpaaGreatDoorM7
set_option linter.unusedVariables false
set_option linter.unusedSimpArgs false
namespace Go.Proofs.YtgbmnpgaddhfpaaGreatDoor.T
open Go.RowKit Go.Proofs.YtgbmnpgaddhfpaaGreatDoorW.PrintWords Go.Proofs.YtgbmnpgaddhfpaaGreatDoorW.PrintLast Go.Proofs.YtgbmnpgaddhfpaaGreatDoorW.PrintMore
attribute [local go_sem] max2_int min2_int max_two min_two
open Go.Proofs.YtgbmnpgaddhfpaaGreatDoor.G
open Tryz
set_option maxRecDepth 100000
section
section
variable {P : Program} {md : Region.Mode} {ops : Array Oper} {Q : Exit → Act → World → Prop}
theorem getD_tf {listed : Array Bool} {i : Nat} (h : listed.getD i true = false) : ¬ listed.getD i false = true := by
 intro h'
 by_cases c : i < listed.size
 ·simp [c] at h h'
  rw [h] at h'
  cases h'
 ·simp [c] at h
theorem wpAny_mid (k : Nat) (L D : Nat → Bool) (kz : Nat) (hkz : k ≤ kz ∧ kz < ops.size ∧ L kz = false) (dst : Nat → Tmp) (post : Nat → Value → World → Prop) (R : Nat → Nat → Value → Value → Prop) (a0 : Act) (w0 : World)
  (hsym : ∀ i j u v,R i j u v → R j i v u) (hst : ∀ i u w w',post i u w → Below w.heap.size w w' → post i u w')
  (hlow : ∀ i o,i < k → ops[i]? = some o → o.guard = none ∧ o.dst = some (dst i) ∧ ∀ e ∈ o.after,Region.binds md e = true → e.on < i)
  (hgrow : ∀ i o,i < k → ops[i]? = some o → D i = false → ∀ (a : Act) (w : World),Below w0.heap.size w0 w → Fr k dst a0 a → (∀ e ∈ o.after,Region.binds md e = true → post e.on (a.eval (.tmp (dst e.on))) w) → ∀ K' : Act → World → Prop,(∀ u w',Below w.heap.size w w' → post i u w' → (∀ j v,j < k → j ≠ i → post j v w → R i j u v) → K' (a.put (some (dst i)) u) w') → o.wp P a w K' Q)
  (hinj : ∀ i j,i < k → j < k → dst i = dst j → i = j) (hsz : ∀ i,i < k → dst i < a0.tmps.size)
  (hmid : ∀ (listed : Array Bool) (a : Act) (w : World) (fuel i0 : Nat),listed.size = ops.size → (∀ j,k ≤ j → listed.getD j false = L j) → (∀ i o,i < k → ops[i]? = some o → listed.getD i false = true → ∀ e ∈ o.after,Region.binds md e = true → listed.getD e.on false = true) → listed.toList.count false ≤ fuel + 1 → Fr k dst a0 a → Below w0.heap.size w0 w → (∀ i,i < k → listed.getD i false = true → post i (a.eval (.tmp (dst i))) w) → (∀ i j,i < k → j < k → j ≠ i → listed.getD i false = true → listed.getD j false = true → R i j (a.eval (.tmp (dst i))) (a.eval (.tmp (dst j)))) → k ≤ i0 → i0 ∈ Region.ready md ops listed → ¬ (∀ j,j < k → listed.getD j false = true) → wpOp P ops Q i0 (wpAny P md ops Q fuel (listed.setIfInBounds i0 true)) a w)
  (htail : ∀ listed a w fuel,listed.size = ops.size → (∀ j,k ≤ j → listed.getD j false = L j) → (∀ j,j < k → listed.getD j false = true) → listed.toList.count false ≤ fuel → Fr k dst a0 a → Below w0.heap.size w0 w → (∀ i,i < k → post i (a.eval (.tmp (dst i))) w) → (∀ i j,i < k → j < k → j ≠ i → R i j (a.eval (.tmp (dst i))) (a.eval (.tmp (dst j)))) → wpAny P md ops Q fuel listed a w) :
  ∀ fuel listed a w,listed.size = ops.size → (∀ i,i < k → D i = true → listed.getD i false = true) → (∀ j,k ≤ j → listed.getD j false = L j) → (∀ i o,i < k → ops[i]? = some o → listed.getD i false = true → ∀ e ∈ o.after,Region.binds md e = true → listed.getD e.on false = true) →
   listed.toList.count false ≤ fuel → Fr k dst a0 a → Below w0.heap.size w0 w → (∀ i,i < k → listed.getD i false = true → post i (a.eval (.tmp (dst i))) w) → (∀ i j,i < k → j < k → j ≠ i → listed.getD i false = true → listed.getD j false = true → R i j (a.eval (.tmp (dst i))) (a.eval (.tmp (dst j)))) → wpAny P md ops Q fuel listed a w := by
 intro fuel
 induction fuel with
 | zero =>
  intro listed a w hs hD hl hc hn hf hb hp hrr
  have h1 := (hl kz hkz.1).trans hkz.2.2
  have hk := hkz.2.1
  have h2 : 0 < listed.toList.count false := List.count_pos_iff.2 (by
   have h3 : kz < listed.size := by omega
   have h4 : listed[kz] = false := by simpa [h3] using h1
   rw [← h4]
   exact Array.getElem_mem_toList h3)
  omega
 | succ fuel ih =>
  intro listed a w hs hD hl hc hn hf hb hp hrr
  by_cases hall : ∀ j,j < k → listed.getD j false = true
  ·exact htail listed a w (fuel + 1) hs hl hall hn hf hb (fun i hi => hp i hi (hall i hi)) (fun i j hi hj hij => hrr i j hi hj hij (hall i hi) (hall j hj))
  have hk : k ≤ ops.size := by omega
  refine ⟨fun h0 => ?_,fun i hi => ?_⟩
  ·exfalso
   have key : ∀ n j,j < n → j < k → listed.getD j false = true := by
    intro n
    induction n with
    | zero => intro j h;omega
    | succ n ihn =>
     intro j hj hjk
     by_cases hj' : j < n
     ·exact ihn j hj' hjk
     obtain rfl : j = n := by omega
     cases hv : listed.getD j false with
     | true => rfl
     | false =>
      exfalso
      have hjs : j < ops.size := by omega
      have ho : ops[j]? = some ops[j] := Array.getElem?_eq_getElem hjs
      have hm : j ∈ Region.ready md ops listed := mem_ready.2 ⟨by
       have : j < listed.size := by omega
       simpa [this] using hv,ops[j],ho,fun e he hbd => by
       have := (hlow j _ hjk ho).2.2 e he hbd
       exact ihn e.on this (by omega)⟩
      rw [h0] at hm
      cases hm
   exact hall (fun j hj => key k j hj hj)
  ·rcases (Decidable.em (i < k)).symm with hik | hik
   ·exact hmid listed a w fuel i hs hl hc hn hf hb hp hrr (by omega) hi hall
   obtain ⟨h0,o,ho,hpre⟩ := mem_ready.1 hi
   have his : i < listed.size := by rw [hs];exact (Array.getElem?_eq_some_iff.1 ho).1
   obtain ⟨hg,hd,hlo⟩ := hlow i o hik ho
   have hw : wpOp P ops Q i (wpAny P md ops Q fuel (listed.setIfInBounds i true)) a w := by
    unfold wpOp
    rw [ho]
    simp only [Region.wanted,hg,if_true]
    refine .inl (hgrow i o hik ho (by cases hv : D i with | false => rfl | true => exact absurd (hD i hik hv) (getD_tf h0)) a w hb hf (fun e he hbd => hp e.on (by have := hlo e he hbd;omega) (hpre e he hbd)) _ (fun u w' hbw hpo hR => ?_))
    have ev : ∀ j,j < k → i ≠ j → (a.put (some (dst i)) u).eval (.tmp (dst j)) = a.eval (.tmp (dst j)) := fun j hj hji => by
     have h1 : dst i ≠ dst j := fun h => hji (hinj i j hik hj h)
     simp [Act.put,Act.eval,Array.getElem?_setIfInBounds_ne h1]
    have ei : (a.put (some (dst i)) u).eval (.tmp (dst i)) = u := by
     have h1 : dst i < a.tmps.size := by rw [hf.1];exact hsz i hik
     simp [Act.put,Act.eval,h1]
    refine ih _ _ _ (by simpa using hs) (fun j hj hd => getD_set_true (hD j hj hd)) (fun j hj => ?_) (fun j oj hj hoj hjl e he hbd => ?_) (by have := count_set his h0;omega) ?_ (hb.trans ⟨hbw.os,hbw.tape,hbw.output,hbw.size,fun q hq => hbw.block q (Nat.lt_of_lt_of_le hq hb.size)⟩) (fun j hj hjl => ?_) (fun j j' hj hj' hjj hjl hjl' => ?_)
    ·rw [getD_set_ne false (by omega)];exact hl j hj
    ·by_cases hji : i = j
     ·subst hji
      rw [ho] at hoj
      cases hoj
      exact getD_set_true (hpre e he hbd)
     ·rw [getD_set_ne false hji] at hjl
      exact getD_set_true (hc j oj hj hoj hjl e he hbd)
    ·obtain ⟨f1,f2,f3⟩ := hf
     refine ⟨by simpa [Act.put] using f1,f2,fun t ht => ?_⟩
     show (a.tmps.setIfInBounds (dst i) u)[t]? = _
     rw [Array.getElem?_setIfInBounds_ne (fun h => ht i hik h.symm)]
     exact f3 t ht
    ·by_cases hji : i = j
     ·subst hji
      rw [ei]
      exact hpo
     ·rw [getD_set_ne false hji] at hjl
      rw [ev j hj hji]
      exact hst _ _ _ _ (hp j hj hjl) hbw
    ·by_cases hji : i = j
     ·subst hji
      rw [ei,ev j' hj' (fun h => hjj h.symm)]
      rw [getD_set_ne false (fun h => hjj h.symm)] at hjl'
      exact hR j' _ hj' hjj (hp j' hj' hjl')
     ·by_cases hji' : i = j'
      ·subst hji'
       rw [ei,ev j hj hji]
       rw [getD_set_ne false hji] at hjl
       exact hsym _ _ _ _ (hR j _ hj (fun h => hji h.symm) (hp j hj hjl))
      ·rw [ev j hj hji,ev j' hj' hji']
       rw [getD_set_ne false hji] at hjl
       rw [getD_set_ne false hji'] at hjl'
       exact hrr j j' hj hj' hjj hjl hjl'
   exact hw
theorem getD_ft {listed : Array Bool} {i : Nat} (hi : i < listed.size) (h : listed.getD i false = false) : listed.getD i true = false := by
 simpa [hi] using h
theorem ready_none {listed : Array Bool} (hall : ∀ j,j < ops.size → listed.getD j false = true) : Region.ready md ops listed = [] := by
 refine List.eq_nil_iff_forall_not_mem.2 fun i hi => ?_
 obtain ⟨h0,o,ho,_⟩ := mem_ready.1 hi
 exact getD_tf h0 (hall i (Array.getElem?_eq_some_iff.1 ho).1)
theorem wpAny_done {listed : Array Bool} {a : Act} {w : World} (hall : ∀ j,j < ops.size → listed.getD j false = true) (hq : Q .normal a w) : ∀ fuel,wpAny P md ops Q fuel listed a w
 | 0 => ⟨ready_none hall,hq⟩
 | n + 1 => ⟨fun _ => hq,fun i hi => by rw [ready_none hall] at hi;cases hi⟩
theorem wpAny_split (k : Nat) (dst : Nat → Tmp) (post post2 : Nat → Value → World → Prop) (R : Nat → Nat → Value → Value → Prop) (a0 : Act) (w0 : World) (hk : ops.size = k + 2) (o1 o2 : Oper) (ho1 : ops[k]? = some o1) (ho2 : ops[k + 1]? = some o2)
  (hsym : ∀ i j u v,R i j u v → R j i v u) (hst : ∀ i u w w',post i u w → Below w.heap.size w w' → post i u w') (hst2 : ∀ i u w w',post2 i u w → Below w.heap.size w w' → post2 i u w')
  (hlow : ∀ i o,i < k → ops[i]? = some o → o.guard = none ∧ o.dst = some (dst i) ∧ ∀ e ∈ o.after,Region.binds md e = true → e.on < i)
  (hgrow : ∀ i o,i < k → ops[i]? = some o → ∀ (a : Act) (w : World),Below w0.heap.size w0 w → Fr k dst a0 a → (∀ e ∈ o.after,Region.binds md e = true → post e.on (a.eval (.tmp (dst e.on))) w) → ∀ K' : Act → World → Prop,(∀ u w',Below w.heap.size w w' → post i u w' → (∀ j v,j < k → j ≠ i → post j v w → R i j u v) → K' (a.put (some (dst i)) u) w') → o.wp P a w K' Q)
  (D1 : Nat → Bool) (hD1 : ∀ i,i < k → D1 i = true → ∃ e ∈ o1.after,Region.binds md e = true ∧ e.on = i)
  (hgrow2 : ∀ i o,i < k → ops[i]? = some o → D1 i = false → ∀ (a : Act) (w : World),Below w0.heap.size w0 w → Fr k dst a0 a → (∀ e ∈ o.after,Region.binds md e = true → post2 e.on (a.eval (.tmp (dst e.on))) w) → ∀ K' : Act → World → Prop,(∀ u w',Below w.heap.size w w' → post2 i u w' → (∀ j v,j < k → j ≠ i → post2 j v w → R i j u v) → K' (a.put (some (dst i)) u) w') → o.wp P a w K' Q)
  (hinj : ∀ i j,i < k → j < k → dst i = dst j → i = j) (hsz : ∀ i,i < k → dst i < a0.tmps.size)
  (hg1 : o1.guard = none) (hg2 : o2.guard = none) (he1 : ∀ e ∈ o1.after,Region.binds md e = true → e.on < k) (he2 : ∀ e ∈ o2.after,Region.binds md e = true → e.on < k + 1)
  (hneed : ∃ e ∈ o2.after,Region.binds md e = true ∧ e.on = k) (hall2 : ∀ j,j < k → ∃ e ∈ o2.after,Region.binds md e = true ∧ e.on = j)
  (hs1 : ∀ (listed : Array Bool) (a : Act) (w : World),Below w0.heap.size w0 w → Fr k dst a0 a → (∀ e ∈ o1.after,Region.binds md e = true → listed.getD e.on false = true) → (∀ i,i < k → listed.getD i false = true → post i (a.eval (.tmp (dst i))) w) → (∀ i j,i < k → j < k → j ≠ i → listed.getD i false = true → listed.getD j false = true → R i j (a.eval (.tmp (dst i))) (a.eval (.tmp (dst j)))) → ∀ K' : Act → World → Prop,(∀ w',Below w0.heap.size w w' → (∀ i,i < k → listed.getD i false = true → post2 i (a.eval (.tmp (dst i))) w') → K' a w') → o1.wp P a w K' Q)
  (hs2 : ∀ (a : Act) (w : World),Below w0.heap.size w0 w → Fr k dst a0 a → (∀ i,i < k → post2 i (a.eval (.tmp (dst i))) w) → (∀ i j,i < k → j < k → j ≠ i → R i j (a.eval (.tmp (dst i))) (a.eval (.tmp (dst j)))) → o2.wp P a w (fun a w => Q .normal a w) Q) :
  ∀ fuel a w,ops.size ≤ fuel → Fr k dst a0 a → Below w0.heap.size w0 w → wpAny P md ops Q fuel (Array.replicate ops.size false) a w := by
 have hB : ∀ {w w' : World},Below w0.heap.size w0 w → Below w0.heap.size w w' → Below w0.heap.size w0 w' := fun h1 h2 => h1.trans h2
 have hrel : ∀ {l : Array Bool} {i : Nat},l.size = ops.size → i < ops.size → i ≠ k → (l.setIfInBounds k true).getD i false = l.getD i false := fun _ _ h => getD_set_ne false (by omega)
 -- the second stage
 have S2 : ∀ fuel listed a w,listed.size = ops.size → (∀ j,k ≤ j → listed.getD j false = decide (j = k)) → (∀ i o,i < k → ops[i]? = some o → listed.getD i false = true → ∀ e ∈ o.after,Region.binds md e = true → listed.getD e.on false = true) → (∀ e ∈ o1.after,Region.binds md e = true → listed.getD e.on false = true) →
   listed.toList.count false ≤ fuel → Fr k dst a0 a → Below w0.heap.size w0 w → (∀ i,i < k → listed.getD i false = true → post2 i (a.eval (.tmp (dst i))) w) → (∀ i j,i < k → j < k → j ≠ i → listed.getD i false = true → listed.getD j false = true → R i j (a.eval (.tmp (dst i))) (a.eval (.tmp (dst j)))) → wpAny P md ops Q fuel listed a w := by
  intro fuel listed a w hs hl hc h1 hn hf hb hp hr
  have hD : ∀ i,i < k → D1 i = true → listed.getD i false = true := fun i hi hd => by
   obtain ⟨e,he,hbd,hei⟩ := hD1 i hi hd
   rw [← hei]
   exact h1 e he hbd
  refine wpAny_mid k (fun j => decide (j = k)) D1 (k + 1) ⟨by omega,by omega,by simp⟩ dst post2 R a0 w0 hsym hst2 hlow hgrow2 hinj hsz ?_ ?_ fuel listed a w hs hD hl hc hn hf hb hp hr
  ·intro listed a w fuel i0 hs hl hc hn hf hb hp hr hi0 hi hna
   exfalso
   obtain ⟨h0,o,ho,hpre⟩ := mem_ready.1 hi
   have hio : i0 < ops.size := (Array.getElem?_eq_some_iff.1 ho).1
   rcases (show i0 = k ∨ i0 = k + 1 by omega) with h | h
   ·subst h
    exact getD_tf h0 ((hl _ (Nat.le_refl _)).trans (by simp))
   ·subst h
    rw [ho2] at ho
    cases ho
    refine hna (fun j hj => ?_)
    obtain ⟨e,he,hbd,hej⟩ := hall2 j hj
    rw [← hej]
    exact hpre e he hbd
  ·intro listed a w fuel hs hl hall hn hf hb hp hr
   have hk1 : listed.getD (k + 1) false = false := (hl _ (by omega)).trans (by simp)
   have hlk : listed.getD k false = true := (hl _ (Nat.le_refl _)).trans (by simp)
   have hmem : k + 1 ∈ Region.ready md ops listed := mem_ready.2 ⟨getD_ft (by omega) hk1,o2,ho2,fun e he hbd => by
    have := he2 e he hbd
    by_cases c : e.on < k
    ·exact hall _ c
    ·obtain h : e.on = k := by omega
     rw [h]
     exact hlk⟩
   cases fuel with
   | zero =>
    exfalso
    have h2 : 0 < listed.toList.count false := List.count_pos_iff.2 (by
     have h3 : k + 1 < listed.size := by omega
     have h4 : listed[k + 1] = false := by simpa [h3] using hk1
     rw [← h4]
     exact Array.getElem_mem_toList h3)
    omega
   | succ n =>
    refine ⟨fun h0 => ?_,fun i hi => ?_⟩
    ·rw [h0] at hmem
     cases hmem
    ·obtain ⟨h0,o,ho,hpre⟩ := mem_ready.1 hi
     have hio : i < ops.size := (Array.getElem?_eq_some_iff.1 ho).1
     have e : i = k + 1 := by
      rcases (show i < k ∨ i = k ∨ i = k + 1 by omega) with h | h | h
      ·exact absurd (hall _ h) (getD_tf h0)
      ·subst h
       exact absurd hlk (getD_tf h0)
      ·exact h
     subst e
     unfold wpOp
     rw [ho2]
     simp only [Region.wanted,hg2,if_true]
     refine .inl (Oper.wp_mono (fun a' w' hq => ?_) (hs2 a w hb hf hp hr))
     refine wpAny_done (fun j hj => ?_) hq n
     rcases (show j < k ∨ j = k ∨ j = k + 1 by omega) with h | h | h
     ·exact getD_set_true (hall _ h)
     ·subst h
      exact getD_set_true hlk
     ·subst h
      exact getD_set_self (by omega)
 have S1 : ∀ (listed : Array Bool) (a : Act) (w : World) (fuel i0 : Nat),listed.size = ops.size → (∀ j,k ≤ j → listed.getD j false = false) → (∀ i o,i < k → ops[i]? = some o → listed.getD i false = true → ∀ e ∈ o.after,Region.binds md e = true → listed.getD e.on false = true) → listed.toList.count false ≤ fuel + 1 → Fr k dst a0 a → Below w0.heap.size w0 w → (∀ i,i < k → listed.getD i false = true → post i (a.eval (.tmp (dst i))) w) → (∀ i j,i < k → j < k → j ≠ i → listed.getD i false = true → listed.getD j false = true → R i j (a.eval (.tmp (dst i))) (a.eval (.tmp (dst j)))) → k ≤ i0 → i0 ∈ Region.ready md ops listed → wpOp P ops Q i0 (wpAny P md ops Q fuel (listed.setIfInBounds i0 true)) a w := by
  intro listed a w fuel i0 hs hl hc hn hf hb hp hr hi0 hi
  obtain ⟨h0,o,ho,hpre⟩ := mem_ready.1 hi
  have hio : i0 < ops.size := (Array.getElem?_eq_some_iff.1 ho).1
  have e : i0 = k := by
   rcases (show i0 = k ∨ i0 = k + 1 by omega) with h | h
   ·exact h
   ·subst h
    rw [ho2] at ho
    cases ho
    obtain ⟨e,he,hbd,hek⟩ := hneed
    have := hpre e he hbd
    rw [hek,hl k (Nat.le_refl _)] at this
    cases this
  subst e
  rw [ho1] at ho
  cases ho
  unfold wpOp
  rw [ho1]
  simp only [Region.wanted,hg1,if_true]
  refine .inl (hs1 listed a w hb hf hpre hp hr _ (fun w' hbw hp2 => ?_))
  refine S2 _ _ _ _ (by simpa using hs) (fun j hj => ?_) (fun j oj hj hoj hjl e he hbd => ?_) (fun e he hbd => ?_) (by have := count_set (by omega) h0;omega) hf (hb.trans hbw) (fun j hj hjl => ?_) (fun j j' hj hj' hjj hjl hjl' => ?_)
  ·by_cases h : j = i0
   ·subst h
    rw [getD_set_self (by omega)]
    simp
   ·rw [getD_set_ne false (fun h' => h h'.symm),hl j hj]
    simp [h]
  ·rw [getD_set_ne false (by omega)] at hjl
   exact getD_set_true (hc j oj hj hoj hjl e he hbd)
  ·exact getD_set_true (hpre e he hbd)
  ·rw [getD_set_ne false (by omega)] at hjl
   exact hp2 j hj hjl
  ·rw [getD_set_ne false (by omega)] at hjl
   rw [getD_set_ne false (by omega)] at hjl'
   exact hr j j' hj hj' hjj hjl hjl'
 intro fuel a w hfl hf hb
 refine wpAny_mid k (fun _ => false) (fun _ => false) k ⟨Nat.le_refl _,by omega,rfl⟩ dst post R a0 w0 hsym hst hlow (fun i o hi ho _ => hgrow i o hi ho) hinj hsz (fun listed a w fuel i0 h1 h2 h3 h4 h5 h6 h7 h8 h9 h10 _ => S1 listed a w fuel i0 h1 h2 h3 h4 h5 h6 h7 h8 h9 h10) ?_ fuel _ a w (by simp) (fun _ _ h => by cases h) (fun j _ => ?_) (fun i o _ _ h => ?_) (by simpa using hfl) hf hb (fun i _ h => ?_) (fun i j _ _ _ h => ?_)
 ·intro listed a w fuel hs hl hall hn hf hb hp hr
  have hmem : k ∈ Region.ready md ops listed := mem_ready.2 ⟨getD_ft (by omega) (hl k (Nat.le_refl _)),o1,ho1,fun e he hbd => hall _ (he1 e he hbd)⟩
  cases fuel with
  | zero =>
   exfalso
   have h2 : 0 < listed.toList.count false := List.count_pos_iff.2 (by
    have h3 : k < listed.size := by omega
    have h4 : listed[k] = false := by simpa [h3] using hl k (Nat.le_refl _)
    rw [← h4]
    exact Array.getElem_mem_toList h3)
   omega
  | succ n =>
   refine ⟨fun h0 => ?_,fun i hi => ?_⟩
   ·rw [h0] at hmem
    cases hmem
   ·have hik : k ≤ i := by
     obtain ⟨h0,_⟩ := mem_ready.1 hi
     by_cases c : i < k
     ·exact absurd (hall _ c) (getD_tf h0)
     ·omega
    exact S1 listed a w n i hs hl (fun i' o' hi' ho' _ e he hbd => hall _ (by have := (hlow i' o' hi' ho').2.2 e he hbd;omega)) hn hf hb (fun i' hi' _ => hp i' hi') (fun i' j' hi' hj' hij _ _ => hr i' j' hi' hj' hij) hik hi
 ·simp only [Array.getD_eq_getD_getElem?,Array.getElem?_replicate];split <;> rfl
 all_goals
  exfalso
  have h' := h
  simp only [Array.getD_eq_getD_getElem?,Array.getElem?_replicate] at h'
  split at h' <;> exact absurd h' (by decide)
end
section
variable {P : Program} {ops : Array Oper} {Q : Exit → Act → World → Prop}
theorem region_split {id : Nat} {a0 : Act} {w0 : World} (hm : P.follows .mixedOrders = true) (h : ∀ w1,Below w0.heap.size w0 w1 → w1.heap.size = w0.heap.size → wpAny P .any ops Q ops.size (Array.replicate ops.size false) a0 w1) : (Code.region id ops true).wp P Q a0 w0 := by
 refine wp_region_any hm ?_
 exact h _ ⟨rfl,rfl,rfl,Nat.le_refl _,fun _ _ => rfl⟩ rfl
end
end
end Go.Proofs.YtgbmnpgaddhfpaaGreatDoor.T
