/- What an argument reads as, opened into the walk's own kinds: strings, whole numbers, bools, structs and slices of these, to any depth. No conditions. -/
import Derived.Deep.Slices
import Derived.ChangeSame
import Derived.ChangeArms
import Derived.WalkKit
import Derived.ProofKit
import Derived.Test.YtebapdkfndlpgaaWWords
namespace Go.Proofs.Ytebapdkfndlpgaa.G
open Go.RowKit Go.Proofs.YtebapdkfndlpgaaW.PrintWords
section
variable {α β γ : Type} {P : Program}
/-- whatever reads at type t is of kind k, and good -/
def Opens (P : Program) (t : TypeId) (k : Kd α) (good : α → Prop) : Prop :=
  ∀ (H : Type) (enc : TypeId × Value → H) (w : World) (base : Nat) (spare : Nat → Bool) (held : Bool) (fuel : Nat) (cs : List Value) (x : DataW H × List MemPlace),
    DataW.trod enc P w base spare held fuel t cs = some x → ∃ y, k.K w y cs ∧ good y
theorem Opens.imp {t : TypeId} {k : Kd α} {g g' : α → Prop} (h : Opens P t k g) (hg : ∀ y, g y → g' y) : Opens P t k g' := by
  intro H enc w base spare held fuel cs x hx
  obtain ⟨y, h1, h2⟩ := h H enc w base spare held fuel cs x hx
  exact ⟨y, h1, hg y h2⟩
theorem opens_string {t : TypeId} (ht : P.underlying t = some .string) : Opens P t Kd.string (fun s => s.size ≤ 9223372036854775807) := by
  intro H enc w base spare held fuel cs x hx
  obtain ⟨s, rfl, _, hs⟩ := DataW.trod_string ht hx
  exact ⟨s, rfl, by unfold maxLen at hs; omega⟩
theorem opens_int {t : TypeId} {q : IntKind} (ht : P.underlying t = some (.int q)) : Opens P t (Kd.int q) (fun n => (Lit.int q n).wf = true) := by
  intro H enc w base spare held fuel cs x hx
  obtain ⟨n, rfl, _, hw⟩ := DataW.trod_int ht hx
  exact ⟨n, rfl, hw⟩
theorem exists_list {p : Nat → α → Prop} : ∀ n : Nat, (∀ i, i < n → ∃ y, p i y) → ∃ xs : List α, xs.length = n ∧ ∀ (j : Nat) y, xs[j]? = some y → p j y
  | 0, _ => ⟨[], rfl, fun j y h => by simp at h⟩
  | n + 1, h => by
    obtain ⟨xs, hl, hx⟩ := exists_list n (fun i hi => h i (by omega))
    obtain ⟨y, hy⟩ := h n (by omega)
    refine ⟨xs ++ [y], by simp [hl], fun j z hz => ?_⟩
    by_cases hj : j < n
    · exact hx j z (by rwa [List.getElem?_append_left (by omega)] at hz)
    · rw [List.getElem?_append_right (by omega)] at hz
      have hj0 : j - xs.length = 0 := by
        have := (List.getElem?_eq_some_iff.1 hz).1
        simp at this
        omega
      rw [hj0] at hz
      simp only [List.getElem?_cons_zero, Option.some.injEq] at hz
      subst hz
      rw [show j = n by omega]
      exact hy
theorem opens_slice {t e : TypeId} {k : Kd α} {good : α → Prop} (ht : P.underlying t = some (.slice e)) (hC : P.cellsOf e = k.sz) (hk : Opens P e k good) : Opens P t (Kd.slice e k) (fun xs => ∀ y ∈ xs, good y) := by
  intro H enc w base spare held fuel cs x hx
  rcases Go.Deep.open_slice ht hx with ⟨rfl, _⟩ | ⟨a, len, cap, m, n, D, Pl, rfl, hb, hl, hm, hmm, _, hi⟩
  · exact ⟨[], ⟨none, 0, rfl, Nat.le_refl _, Kd.C_nil k w⟩, fun y hy => by simp at hy⟩
  · have hlm : len ≤ m := by rw [hmm]; split <;> omega
    have one : ∀ i, i < len → ∃ y, (∃ c, c.length = k.sz ∧ k.K w y c ∧ ∀ j u, c[j]? = some u → w.cell? (a.add (i * k.sz + j)) = some u) ∧ good y := by
      intro i hil
      obtain ⟨c, hc, ht'⟩ := hi i (by omega)
      obtain ⟨y, hy, hg⟩ := hk H enc w base spare held n c _ ht'
      obtain ⟨_, hcl, hat⟩ := World.cells?_some hc
      rw [hC] at hcl hat
      refine ⟨y, ⟨c, hcl, hy, fun j u hj => ?_⟩, hg⟩
      have hjl : j < k.sz := by have := (List.getElem?_eq_some_iff.1 hj).1; omega
      have h1 := hat j hjl
      rw [hj, Go.Deep.add_add] at h1
      exact h1
    obtain ⟨xs, hxl, hxs⟩ := exists_list len one
    refine ⟨xs, ⟨some a, cap, by rw [hxl], by omega, rfl, by rw [hxl]; unfold maxLen at hm; omega, fun _ => ⟨a, rfl, fun j p hj => (hxs j p hj).1⟩⟩, fun y hy => ?_⟩
    obtain ⟨j, hj⟩ := List.getElem?_of_mem hy
    exact (hxs j y hj).2
/-- some fields of a struct, one behind the other -/
def Piece (P : Program) (o n : Nat) (fs : List Field) (k : Kd α) (good : α → Prop) : Prop :=
  ∀ (H : Type) (enc : TypeId × Value → H) (w : World) (base : Nat) (spare : Nat → Bool) (held : Bool) (fuel : Nat) (cs : List Value),
    (∀ f ∈ fs, ∃ x, DataW.trod enc P w base spare held fuel f.type ((cs.drop f.offset).take (P.cellsOf f.type)) = some x) → ∃ y, k.K w y ((cs.drop o).take n) ∧ good y
theorem piece_one {f : Field} {k : Kd α} {g : α → Prop} {o n : Nat} (h : Opens P f.type k g) (ho : f.offset = o) (hn : P.cellsOf f.type = n) : Piece P o n [f] k g := by
  intro H enc w base spare held fuel cs hx
  obtain ⟨x, hx⟩ := hx f (List.mem_singleton.2 rfl)
  rw [← ho, ← hn]
  exact h H enc w base spare held fuel _ x hx
theorem piece_cons {f : Field} {fs : List Field} {k : Kd α} {k2 : Kd β} {g : α → Prop} {g2 : β → Prop} {o a b : Nat} (h : Opens P f.type k g) (ho : f.offset = o) (hn : P.cellsOf f.type = a) (h2 : Piece P (o + a) b fs k2 g2) :
    Piece P o (a + b) (f :: fs) (Kd.pair k k2) (fun y => g y.1 ∧ g2 y.2) := by
  intro H enc w base spare held fuel cs hx
  obtain ⟨x, hx0⟩ := hx f (List.mem_cons_self ..)
  obtain ⟨y, hy, gy⟩ := h H enc w base spare held fuel _ x hx0
  obtain ⟨z, hz, gz⟩ := h2 H enc w base spare held fuel cs (fun f' hf => hx f' (List.mem_cons_of_mem _ hf))
  refine ⟨(y, z), ⟨(cs.drop o).take a, (cs.drop (o + a)).take b, ?_, by rw [← ho, ← hn]; exact hy, hz⟩, gy, gz⟩
  rw [List.take_add, List.drop_drop]
theorem opens_struct {t : TypeId} {fs : Array Field} {k : Kd α} {good : α → Prop} {n : Nat} (f : β → α) (g : α → β) (hfg : ∀ y, f (g y) = y) (ht : P.underlying t = some (.struct fs)) (hn : P.cellsOf t = n) (h : Piece P 0 n fs.toList k good) :
    Opens P t (Kd.iso k f) (fun x => good (f x)) := by
  intro H enc w base spare held fuel cs x hx
  obtain ⟨xs, m, rfl, _, hlen, hxl, hf⟩ := DataW.trod_struct ht hx
  obtain ⟨y, hy, gy⟩ := h H enc w base spare held m cs (by
    intro f' hf'
    obtain ⟨i, hi⟩ := List.getElem?_of_mem hf'
    have hi' : fs[i]? = some f' := by simpa using hi
    have hil : i < xs.length := by rw [hxl]; exact (Array.getElem?_eq_some_iff.1 hi').1
    exact ⟨xs[i], by rw [hf i f' hi', List.getElem?_eq_getElem hil]⟩)
  rw [hn] at hlen
  refine ⟨g y, ?_, by show good (f (g y)); rw [hfg]; exact gy⟩
  show k.K w (f (g y)) cs
  rw [hfg]
  have e : (cs.drop 0).take n = cs := by rw [List.drop_zero, ← hlen, List.take_length]
  rwa [e] at hy
/-- an argument that is a slice -/
theorem open_arg {H : Type} {enc : TypeId × Value → H} {w : World} {base : Nat} {spare : Nat → Bool} {held : Bool} {t e : TypeId} {k : Kd α} {good : α → Prop} (h : Opens P t (Kd.slice e k) (fun xs => ∀ y ∈ xs, good y)) {A : Option Addr} {len cap : Nat} {d : DataW H} {p : List MemPlace}
    (hx : DataW.Trod enc P w base spare held t (.slice A len cap) d p) : ∃ xs : List α, xs.length = len ∧ len ≤ cap ∧ k.C w A xs.length xs ∧ ∀ y ∈ xs, good y := by
  obtain ⟨fuel, hf⟩ := hx
  obtain ⟨xs, ⟨A', c', he, hl, hC⟩, hg⟩ := h H enc w base spare held fuel _ _ hf
  have he' : [Value.slice A len cap] = [.slice A' xs.length c'] := by simpa [Value.cells] using he
  injection he' with he' _
  injection he' with e1 e2 e3
  subst e1; subst e3
  exact ⟨xs, e2.symm, by omega, hC, hg⟩
end
end Go.Proofs.Ytebapdkfndlpgaa.G
