/- A map of bools that a call makes and asks ('if seen[x]'): what it holds is a Bool at each key; how it is made, asked and written. No conditions. -/
import Derived.Maps.Own
import Derived.Maps.Views
import Derived.Maps.OwnOps
import Derived.Maps.Keyed
import Derived.StringKeys
import Derived.WideKeyArgs
import Derived.WalkKit
import Derived.KernelRfl
import Derived.Test.YtebapdkfndlpgaaWWords
namespace Go.Proofs.Ytebapdkfndlpgaa.G
open Go.Maps Go.RowKit Go.Proofs.YtebapdkfndlpgaaW.PrintWords
/-- block b is a map of at most n entries; f: what stands at each key -/
def Seen (P : Program) (K E : TypeId) (w : World) (b n : Nat) (f : Lit → Bool) : Prop :=
  ∃ D : DataW Unit, w.ownsMap P K (plainElem P E) b n D ∧ IsMap D ∧ ∀ kl, D.atKey kl (.lit (.bool false)) = .lit (.bool (f kl))
open Classical in
/-- one key more -/
noncomputable def more (kl : Lit) (f : Lit → Bool) : Lit → Bool := fun l => if l = kl then true else f l
theorem more_same (kl : Lit) (f : Lit → Bool) : more kl f kl = true := if_pos rfl
theorem more_other {kl l : Lit} (f : Lit → Bool) (h : l ≠ kl) : more kl f l = f l := if_neg h
variable {P : Program} {K E : TypeId} {w w1 : World} {b n : Nat} {f : Lit → Bool}
theorem Seen.made (P : Program) (K E : TypeId) (w : World) : Seen P K E (w.alloc (.map #[] 0)) w.heap.size 0 (fun _ => false) :=
  ⟨.map [], World.ownsMap_made _ _ _ _, isMap_empty, fun _ => rfl⟩
theorem Seen.lt (h : Seen P K E w b n f) : b < w.heap.size := let ⟨_, h, _⟩ := h; h.lt
theorem Seen.below (h : Seen P K E w b n f) (hb : Below w.heap.size w w1) : Seen P K E w1 b n f := by
  obtain ⟨D, hown, hm, hf⟩ := h
  have hlt := hown.lt
  obtain ⟨es, clock, hbl, F, hs, hD⟩ := hown
  exact ⟨D, ⟨es, clock, (hb.block b hlt).trans hbl, F, hs, hD⟩, hm, hf⟩
theorem Seen.drew (h : Seen P K E w b n f) : Seen P K E w.drew b n f := h
theorem Seen.drewN (h : Seen P K E w b n f) (m : Nat) : Seen P K E (w.drewN m) b n f := h
theorem Seen.grown {row : Option Nat} (h : Seen P K E w b n f) (hg : w.grownBy w1 row) (hne : some b ≠ row) : Seen P K E w1 b n f := let ⟨D, h1, h2, h3⟩ := h; ⟨D, h1.kept hg hne, h2, h3⟩
theorem Seen.lookup (h : Seen P K E w b n f) (law : Keyed P K) {t : TypeId} (ht : P.underlying t = some (.map K E)) (he : P.underlying E = some .bool) (hz : (zeroValue E).run P w = .ok (.bool false) w) {key : Value} {kl : Lit}
    (hkey : keyOf P K key = some kl) : (Instr.lookup t (.map (some b)) key false).run P w = .ok (.bool (f kl)) w := by
  obtain ⟨D, hown, hm, hf⟩ := h
  obtain ⟨v, ps, hrun, hv⟩ := hown.lookup law ht hz (plainElem_bool he false) hkey
  rw [hf kl] at hv
  unfold plainElem at hv
  rw [he] at hv
  cases v <;> simp at hv
  rw [hrun, hv.1]
theorem Seen.put (h : Seen P K E w b n f) (law : Keyed P K) {t : TypeId} (ht : P.underlying t = some (.map K E)) (he : P.underlying E = some .bool) (hn : n < maxLen) {key : Value} {kl : Lit} (hkey : keyOf P K key = some kl) (hk : WideAt.IsKeyLit kl) :
    ∃ w', (Instr.mapUpdate t (.map (some b)) key (.bool true)).run P w = .ok () w' ∧ Seen P K E w' b (n + 1) (more kl f) ∧ w.grownBy w' (some b) := by
  obtain ⟨D, hown, hm, hf⟩ := h
  obtain ⟨w', hrun, hown', hg⟩ := hown.update law ht hn hkey (plainElem_bool he true)
  refine ⟨w', hrun, ⟨_, hown', hm.put _ _, fun l => ?_⟩, hg⟩
  by_cases hl : l = kl
  · subst hl
    rw [atKey_put_same hm hk, more_same]
  · rw [atKey_put_other hl, hf, more_other f hl]
/-- 'm[k]' at the operation, for the walk -/
theorem wp_seen_lookup {ops : Array Oper} {rest : List Oper} {o : Oper} {a : Act} {Q : Exit → Act → World → Prop} (W : World)
    (hg : o.guard = none) (m x : Operand) (t : TypeId) (hop : o.op = Op.lookup t m x false) (law : Keyed P K) (ht : P.underlying t = some (.map K E)) (he : P.underlying E = some .bool) (hz : (zeroValue E).run P W = .ok (.bool false) W) (b n : Nat) (f : Lit → Bool)
    (hm : a.eval m = .map (some b)) (hs : Seen P K E W b n f) (key : Value) (kl : Lit) (hx : a.eval x = key) (hkey : keyOf P K key = some kl) (v : Bool) (hv : f kl = v)
    (hK : wpList P ops Q rest (a.put o.dst (.bool v)) W) : wpList P ops Q (o :: rest) a W := by
  refine wpList_plain hg fun K' hK' => ?_
  have hrun := hs.lookup law ht he hz hkey
  rw [hv] at hrun
  unfold Oper.wp
  simp [execOp, hop, hm, hx, hrun, Result.andThen]
  exact hK' _ _ hK
/-- 'm[k] = true' at the operation, for the walk -/
theorem wp_seen_put {ops : Array Oper} {rest : List Oper} {o : Oper} {a : Act} {Q : Exit → Act → World → Prop} (W : World)
    (hg : o.guard = none) (m x v : Operand) (t : TypeId) (hop : o.op = Op.mapUpdate t m x v) (law : Keyed P K) (ht : P.underlying t = some (.map K E)) (he : P.underlying E = some .bool) (b n : Nat) (f : Lit → Bool)
    (hm : a.eval m = .map (some b)) (hs : Seen P K E W b n f) (hn : n < maxLen) (key : Value) (kl : Lit) (hx : a.eval x = key) (hv : a.eval v = .bool true) (hkey : keyOf P K key = some kl) (hk : WideAt.IsKeyLit kl)
    (hK : ∀ w', Seen P K E w' b (n + 1) (more kl f) → W.grownBy w' (some b) → wpList P ops Q rest (a.put o.dst undef) w') : wpList P ops Q (o :: rest) a W := by
  refine wpList_plain hg fun K' hK' => ?_
  obtain ⟨w', hrun, r1, r2⟩ := hs.put law ht he hn hkey hk
  unfold Oper.wp
  simp [execOp, hop, hm, hx, hv, hrun, Result.andThen]
  exact hK' _ _ (hK w' r1 r2)
end Go.Proofs.Ytebapdkfndlpgaa.G
