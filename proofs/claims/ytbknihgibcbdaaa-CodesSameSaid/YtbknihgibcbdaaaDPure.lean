/- Layer 19 (codes): what the walked functions compute answers as the laws say; plain lists, no program in sight. No conditions but what each statement names. -/
import Derived.Test.YtbknihgibcbdaaaDx
import Derived.Test.YtbknihgibcbdaaaGWords
import Derived.Laws.Bits64
namespace Go.Proofs.Ytbknihgibcbdaaa.Pure
open Go.RowKit Go.Proofs.Ytbknihgibcbdaaa.D Go.Proofs.YtbknihgibcbdaaaW.PrintWords Go.Proofs.YtbknihgibcbdaaaW.PrintLast Go.Proofs.Ytbknihgibcbdaaa.G
/-! #### lists of pairs -/
def sw (p : S40) : S40 := ⟨p.f1, p.f0⟩
def key (p : S40) : List UInt8 := p.f0.data.toList
def ap : List S40 → ByteArray → ByteArray × Bool
  | [], _ => (⟨#[]⟩, false)
  | p :: ps, t => if p.f0.toList = t.toList then (p.f1, true) else ap ps t
def fd : List S40 → ByteArray → Int → Int
  | [], _, _ => -1
  | p :: ps, t, i => if p.f0.toList = t.toList then i else fd ps t (i + 1)
def big (p : S40) : Bool := decide ((p.f0.size : Int) > 1000) || decide ((p.f1.size : Int) > 1000)
def ck (l : List S40) : Int × Int := if (l.length : Int) > 256 then (5, 256) else codes_Check.go l [] 0
theorem toL_iff (s t : ByteArray) : s.toList = t.toList ↔ s.data.toList = t.data.toList := by rw [toL, toL]
theorem drop_at {l : List S40} {i : Nat} (h : i < l.length) : l.drop i = rd_T40 l i :: l.drop (i + 1) := rd_drop h
theorem drop_end {l : List S40} {i : Nat} (h : ¬ i < l.length) : l.drop i = [] := List.drop_of_length_le (by omega)
theorem inc {i n : Nat} (h : i < n) (hn : n ≤ 4398046511104) : wrap64 ((i : Int) + 1) = ((i + 1 : Nat) : Int) := by rw [w64 (by omega) (by omega)]; rfl
theorem apply_loop (t : ByteArray) (l : List S40) (hl : l.length ≤ 4398046511104) (d : Nat) : ∀ (k i : Nat), l.length - i = d → d < k → codes_Apply.l0 k t l (l.length : Int) (i : Int) = some (ap (l.drop i) t) := by
  induction d with
  | zero =>
    intro k i hd hk
    obtain ⟨k, rfl⟩ : ∃ m, k = m + 1 := ⟨k - 1, by omega⟩
    simp only [codes_Apply.l0]
    rw [if_neg (by omega), drop_end (by omega)]
    rfl
  | succ d ih =>
    intro k i hd hk
    obtain ⟨k, rfl⟩ : ∃ m, k = m + 1 := ⟨k - 1, by omega⟩
    simp only [codes_Apply.l0]
    rw [if_pos (by omega), if_pos (by omega), if_pos (by omega), drop_at (by omega), inc (n := l.length) (by omega) hl, ih k (i + 1) (by omega) (by omega)]
    simp only [ap]
    split <;> rfl
theorem apply_eq {l : List S40} (hl : l.length ≤ 4398046511104) (t : ByteArray) {k : Nat} (hk : l.length < k) : codes_Apply.f k l t = some (ap l t) := apply_loop t l hl l.length k 0 (by omega) hk
theorem turn_loop (l : List S40) (hl : l.length ≤ 4398046511104) (d : Nat) : ∀ (k i : Nat) (acc : List S40), l.length - i = d → d < k → acc.length = i → i ≤ l.length → codes_Turn.l0 k acc l (l.length : Int) (i : Int) = some (acc ++ (l.drop i).map sw) := by
  induction d with
  | zero =>
    intro k i acc hd hk ha hi
    obtain ⟨k, rfl⟩ : ∃ m, k = m + 1 := ⟨k - 1, by omega⟩
    simp only [codes_Turn.l0]
    rw [if_neg (by omega), drop_end (by omega)]
    simp
  | succ d ih =>
    intro k i acc hd hk ha hi
    obtain ⟨k, rfl⟩ : ∃ m, k = m + 1 := ⟨k - 1, by omega⟩
    simp only [codes_Turn.l0]
    rw [if_pos (by omega), if_pos (by omega), if_pos (by omega), if_pos (by omega), inc (n := l.length) (by omega) hl, ih k (i + 1) _ (by omega) (by omega) (by simp [ha]) (by omega), drop_at (l := l) (i := i) (by omega)]
    simp [sw]
theorem turn_eq {l : List S40} (hl : l.length ≤ 4398046511104) {k : Nat} (hk : l.length < k) : codes_Turn.f k l = some (l.map sw) := by
  unfold codes_Turn.f
  rw [if_pos hl]
  have := turn_loop l hl l.length k 0 [] (by omega) hk rfl (by omega)
  simpa using this
theorem rturn_loop (l : List S40) (hl : l.length ≤ 4398046511104) (d : Nat) : ∀ (k i : Nat) (acc : List S40), l.length - i = d → d < k → acc.length = i → i ≤ l.length → groatref19_Turn.l0 k l acc (i : Int) = some (acc ++ (l.drop i).map sw) := by
  induction d with
  | zero =>
    intro k i acc hd hk ha hi
    obtain ⟨k, rfl⟩ : ∃ m, k = m + 1 := ⟨k - 1, by omega⟩
    simp only [groatref19_Turn.l0]
    rw [if_neg (by omega), drop_end (by omega)]
    simp
  | succ d ih =>
    intro k i acc hd hk ha hi
    obtain ⟨k, rfl⟩ : ∃ m, k = m + 1 := ⟨k - 1, by omega⟩
    simp only [groatref19_Turn.l0]
    rw [if_pos (by omega), if_pos (by omega), if_pos (by omega), inc (n := l.length) (by omega) hl, ih k (i + 1) _ (by omega) (by omega) (by simp [ha]) (by omega), drop_at (l := l) (i := i) (by omega)]
    simp [sw]
theorem rturn_eq {l : List S40} (hl : l.length ≤ 4398046511104) {k : Nat} (hk : l.length < k) : groatref19_Turn.f k l = some (l.map sw) := by
  have := rturn_loop l hl l.length k 0 [] (by omega) hk rfl (by omega)
  simpa [groatref19_Turn.f] using this
theorem copy_eq {l : List S40} (hl : l.length < 4398046511104) : groatref19_Copy.f l = some l := by
  unfold groatref19_Copy.f
  rw [Option.bind_some, if_pos (by simpa using hl)]
  rfl
theorem great_loop (l : List S40) (hl : l.length ≤ 4398046511104) (d : Nat) : ∀ (k i : Nat), l.length - i = d → d < k → groatlaw19_great.l0 k l (l.length : Int) (i : Int) = some ((l.drop i).any big) := by
  induction d with
  | zero =>
    intro k i hd hk
    obtain ⟨k, rfl⟩ : ∃ m, k = m + 1 := ⟨k - 1, by omega⟩
    simp only [groatlaw19_great.l0]
    rw [if_neg (by omega), drop_end (by omega)]
    rfl
  | succ d ih =>
    intro k i hd hk
    obtain ⟨k, rfl⟩ : ∃ m, k = m + 1 := ⟨k - 1, by omega⟩
    simp only [groatlaw19_great.l0]
    rw [if_pos (by omega), if_pos (by omega), if_pos (by omega), inc (n := l.length) (by omega) hl, ih k (i + 1) (by omega) (by omega), drop_at (l := l) (i := i) (by omega), List.any_cons]
    unfold big
    by_cases h0 : ((rd_T40 l (i : Int)).f0.size : Int) > 1000
    · rw [if_pos h0, decide_eq_true h0]; rfl
    · rw [if_neg h0, decide_eq_false h0]
      by_cases h1 : ((rd_T40 l (i : Int)).f1.size : Int) > 1000
      · rw [if_pos h1, decide_eq_true h1]; rfl
      · rw [if_neg h1, decide_eq_false h1]; rfl
def great (l : List S40) : Bool := decide ((l.length : Int) > 400) || l.any big
theorem great_eq (l : List S40) {k : Nat} (hk : 401 < k) : groatlaw19_great.f k l = some (great l) := by
  unfold groatlaw19_great.f great
  by_cases h : (l.length : Int) > 400
  · rw [if_pos h, decide_eq_true h]; rfl
  · rw [if_neg h, decide_eq_false h]
    exact great_loop l (by omega) l.length k 0 (by omega) (by omega)
theorem find_loop (t : ByteArray) (l : List S40) (n : Nat) (hn : n ≤ l.length) (hl : l.length ≤ 4398046511104) (d : Nat) : ∀ (k i : Nat), n - i = d → d < k → groatref19_find.l0 k l (n : Int) t (i : Int) = some (fd ((l.take n).drop i) t i) := by
  induction d with
  | zero =>
    intro k i hd hk
    obtain ⟨k, rfl⟩ : ∃ m, k = m + 1 := ⟨k - 1, by omega⟩
    simp only [groatref19_find.l0]
    rw [if_neg (by omega), List.drop_of_length_le (by rw [List.length_take]; omega)]
    rfl
  | succ d ih =>
    intro k i hd hk
    obtain ⟨k, rfl⟩ : ∃ m, k = m + 1 := ⟨k - 1, by omega⟩
    have hdr : (l.take n).drop i = rd_T40 l i :: (l.take n).drop (i + 1) := by
      rw [List.drop_eq_getElem_cons (by rw [List.length_take]; omega)]
      simp [rd_T40, List.getD_eq_getElem?_getD, List.getElem?_eq_getElem (show i < l.length by omega)]
    simp only [groatref19_find.l0]
    rw [if_pos (by omega), if_pos (by omega), if_pos (by omega), hdr, inc (n := l.length) (by omega) hl, ih k (i + 1) (by omega) (by omega)]
    simp only [fd]
    split <;> rfl
theorem find_eq {l : List S40} {n : Nat} (hn : n ≤ l.length) (hl : l.length ≤ 4398046511104) (t : ByteArray) {k : Nat} (hk : n < k) : groatref19_find.f k l (n : Int) t = some (fd (l.take n) t 0) := by
  have := find_loop t l n hn hl n k 0 (by omega) hk
  simpa [groatref19_find.f] using this
theorem fd_mem (t : ByteArray) : ∀ (l : List S40) (i : Int), 0 ≤ i → (0 ≤ fd l t i ↔ t.data.toList ∈ l.map key)
  | [], i, h => by simp [fd]
  | p :: ps, i, h => by
    simp only [fd, List.map_cons, List.mem_cons]
    by_cases e : p.f0.toList = t.toList
    · rw [if_pos e]
      exact ⟨fun _ => .inl ((toL_iff _ _).1 e).symm, fun _ => h⟩
    · rw [if_neg e, fd_mem t ps (i + 1) (by omega)]
      refine ⟨.inr, fun h1 => h1.resolve_left (fun e1 => e ((toL_iff _ _).2 e1.symm))⟩
theorem go_seen (a b : List (List UInt8)) : ∀ (l : List S40) (i : Int), (∀ s, s ∈ a ↔ s ∈ b) → codes_Check.go l a i = codes_Check.go l b i := by
  intro l
  induction l generalizing a b with
  | nil => intro i _; rfl
  | cons p ps ih =>
    intro i h
    simp only [codes_Check.go]
    by_cases e : p.f0.data.toList ∈ a
    · rw [if_pos e, if_pos ((h _).1 e)]
    · rw [if_neg e, if_neg (fun c => e ((h _).2 c))]
      exact ih _ _ _ (fun s => by simp [h s])
theorem rcheck_loop (l : List S40) (hl : l.length ≤ 256) (d : Nat) : ∀ (k i : Nat), l.length - i = d → l.length + d < k → i ≤ l.length → groatref19_Check.l0 k l (i : Int) = some (codes_Check.go (l.drop i) ((l.take i).map key) i) := by
  induction d with
  | zero =>
    intro k i hd hk hi
    obtain ⟨k, rfl⟩ : ∃ m, k = m + 1 := ⟨k - 1, by omega⟩
    simp only [groatref19_Check.l0]
    rw [if_neg (by omega), drop_end (by omega)]
    rfl
  | succ d ih =>
    intro k i hd hk hi
    obtain ⟨k, rfl⟩ : ∃ m, k = m + 1 := ⟨k - 1, by omega⟩
    simp only [groatref19_Check.l0]
    rw [if_pos (by omega), if_pos (by omega), find_eq (by omega) (by omega) _ (by omega), Option.bind_some, inc (n := l.length) (by omega) (by omega), ih k (i + 1) (by omega) (by omega) (by omega), drop_at (l := l) (i := i) (by omega)]
    simp only [codes_Check.go]
    have hm := fd_mem (rd_T40 l (i : Int)).f0 (l.take i) 0 (Int.le_refl _)
    by_cases e : (rd_T40 l (i : Int)).f0.data.toList ∈ (l.take i).map key
    · rw [if_pos e, if_pos (hm.2 e)]
    · rw [if_neg e, if_neg (fun c => e (hm.1 c))]
      congr 1
      refine go_seen _ _ _ _ (fun s => ?_)
      have ht : l.take (i + 1) = l.take i ++ [rd_T40 l i] := by
        rw [List.take_succ_eq_append_getElem (by omega)]
        simp [rd_T40, List.getD_eq_getElem?_getD, List.getElem?_eq_getElem (show i < l.length by omega)]
      rw [ht]
      simp [key, or_comm]
theorem rcheck_eq {l : List S40} {k : Nat} (hk : 520 < k) : groatref19_Check.f k l = some (ck l) := by
  unfold groatref19_Check.f ck
  by_cases h : (l.length : Int) > 256
  · rw [if_pos h, if_pos h]
  · rw [if_neg h, if_neg h]
    have := rcheck_loop l (by omega) l.length k 0 (by omega) (by omega) (by omega)
    simpa using this
def fits (l : List S40) : Prop := ∀ p ∈ l, p.f0.size ≤ 9223372036854775807 ∧ p.f1.size ≤ 9223372036854775807
theorem fits_sw {l : List S40} (h : fits l) : fits (l.map sw) := by
  intro p hp
  obtain ⟨q, hq, rfl⟩ := List.mem_map.1 hp
  exact ⟨(h q hq).2, (h q hq).1⟩
theorem check_eq {l : List S40} (h : fits l) : codes_Check.f l = some (ck l) := by
  unfold codes_Check.f ck
  rw [if_pos (List.all_eq_true.2 fun p hp => decide_eq_true (h p hp).1)]
  split <;> rfl
def bij (l : List S40) : Bool := decide ((ck l).1 = 0 ∧ (ck (l.map sw)).1 = 0)
theorem bij_eq {l : List S40} (h : fits l) (hl : l.length ≤ 4398046511104) {k : Nat} (hk : l.length < k) : codes_Bijective.f k l = some (bij l) := by
  unfold codes_Bijective.f bij
  rw [check_eq h, Option.bind_some, turn_eq hl hk, Option.bind_some, check_eq (fits_sw h), Option.bind_some]
  by_cases h1 : (ck l).1 = 0
  · rw [if_pos h1]
    by_cases h2 : (ck (l.map sw)).1 = 0
    · rw [decide_eq_true ⟨h1, h2⟩, h2]; rfl
    · rw [decide_eq_false (fun c => h2 c.2), beq_eq_false_iff_ne.2 h2]
  · rw [if_neg h1, decide_eq_false (fun c => h1 c.1)]
theorem rbij_eq {l : List S40} (hl : l.length ≤ 4398046511104) {k : Nat} (hk : l.length < k) (hk2 : 520 < k) : groatref19_Bijective.f k l = some (bij l) := by
  unfold groatref19_Bijective.f bij
  rw [rcheck_eq hk2, Option.bind_some, rturn_eq hl hk, Option.bind_some, rcheck_eq hk2, Option.bind_some]
  by_cases h1 : (ck l).1 = 0
  · rw [if_pos h1]
    by_cases h2 : (ck (l.map sw)).1 = 0
    · rw [decide_eq_true ⟨h1, h2⟩, h2]; rfl
    · rw [decide_eq_false (fun c => h2 c.2), beq_eq_false_iff_ne.2 h2]
  · rw [if_neg h1, decide_eq_false (fun c => h1 c.1)]
theorem awake_at : groatlaw19_awake.f 5 = some true := by decide +kernel
theorem awake_eq {k : Nat} (hk : 5 ≤ k) : groatlaw19_awake.f k = some true := at_rounds groatlaw19_awake.mono hk awake_at
/-! #### the five laws -/
theorem CodesChecks (l : List S40) (h : fits l) : ∃ k, groatlaw19_CodesChecks.f k l = some true := by
  refine ⟨1000, ?_⟩
  unfold groatlaw19_CodesChecks.f
  rw [awake_eq (by omega), Option.bind_some, if_pos rfl, great_eq l (by omega), Option.bind_some]
  simp only [groatlaw19_CodesChecks.j0]
  cases hg : great l with
  | true => rw [if_pos rfl, awake_eq (by omega)]; rfl
  | false =>
    have hl : l.length ≤ 400 := by
      unfold great at hg
      simp only [Bool.or_eq_false_iff, decide_eq_false_iff_not] at hg
      omega
    rw [if_neg (by decide), copy_eq (by omega), Option.bind_some, check_eq h, Option.bind_some, rcheck_eq (by omega), Option.bind_some, if_pos rfl, if_pos rfl, Option.bind_some, bij_eq h (by omega) (by omega), Option.bind_some, rbij_eq (by omega) (by omega) (by omega), Option.bind_some, beq_iff_eq.2 rfl]
theorem great_small {l : List S40} (h : great l = false) : l.length ≤ 400 := by
  unfold great at h
  simp only [Bool.or_eq_false_iff, decide_eq_false_iff_not] at h
  omega
theorem fd_ap (t : ByteArray) : ∀ (l : List S40) (i : Int), (fd l t i = -1 ∧ ap l t = (⟨#[]⟩, false)) ∨ ∃ j : Nat, j < l.length ∧ fd l t i = i + j ∧ ap l t = ((rd_T40 l j).f1, true)
  | [], i => .inl ⟨rfl, rfl⟩
  | p :: ps, i => by
    simp only [fd, ap]
    by_cases e : p.f0.toList = t.toList
    · rw [if_pos e, if_pos e]
      exact .inr ⟨0, by simp, by simp, rfl⟩
    · rw [if_neg e, if_neg e]
      rcases fd_ap t ps (i + 1) with h | ⟨j, h1, h2, h3⟩
      · exact .inl h
      · refine .inr ⟨j + 1, by simpa using h1, by rw [h2]; omega, ?_⟩
        rw [h3]
        have : rd_T40 (p :: ps) ((j + 1 : Nat) : Int) = rd_T40 ps (j : Int) := by simp [rd_T40, show ((j : Int) + 1).toNat = j + 1 by omega]
        rw [this]
theorem rapply_eq {l : List S40} (hl : l.length ≤ 4398046511104) (t : ByteArray) {k : Nat} (hk : l.length < k) : groatref19_Apply.f k l t = some (ap l t) := by
  unfold groatref19_Apply.f
  rw [find_eq (Nat.le_refl _) hl t hk, Option.bind_some, List.take_length]
  rcases fd_ap t l 0 with ⟨h1, h2⟩ | ⟨j, h1, h2, h3⟩
  · rw [h1, h2, if_pos (by decide)]
  · rw [h2, h3, if_neg (by omega), if_pos (by omega), if_pos (by omega), Int.zero_add]
theorem CodesApply (l : List S40) (t : ByteArray) : ∃ k, groatlaw19_CodesApply.f k l t = some true := by
  refine ⟨1000, ?_⟩
  unfold groatlaw19_CodesApply.f
  rw [awake_eq (by omega), Option.bind_some, if_pos rfl, great_eq l (by omega), Option.bind_some]
  simp only [groatlaw19_CodesApply.j0]
  cases hg : great l with
  | true => rw [if_pos rfl, if_pos trivial, awake_eq (by omega)]; rfl
  | false =>
    have hl := great_small hg
    rw [if_neg (by decide)]
    by_cases ht : (t.size : Int) > 1000
    · rw [if_pos (decide_eq_true ht), awake_eq (by omega)]; rfl
    · rw [if_neg (by simpa using ht), copy_eq (by omega), Option.bind_some, apply_eq (by omega) _ (by omega), Option.bind_some, rapply_eq (by omega) _ (by omega), Option.bind_some, if_pos rfl, beq_iff_eq.2 rfl]
theorem same_loop (l : List S40) (hl : l.length ≤ 4398046511104) (d : Nat) : ∀ (k i : Nat), l.length - i = d → d < k → groatref19_Same.l0 k l l (i : Int) = some true := by
  induction d with
  | zero =>
    intro k i hd hk
    obtain ⟨k, rfl⟩ : ∃ m, k = m + 1 := ⟨k - 1, by omega⟩
    simp only [groatref19_Same.l0]
    rw [if_neg (by omega)]
  | succ d ih =>
    intro k i hd hk
    obtain ⟨k, rfl⟩ : ∃ m, k = m + 1 := ⟨k - 1, by omega⟩
    simp only [groatref19_Same.l0]
    rw [if_pos (by omega), if_pos (by omega), if_pos (by omega), if_neg (by simp), inc (n := l.length) (by omega) hl, ih k (i + 1) (by omega) (by omega)]
theorem same_eq {l : List S40} (hl : l.length ≤ 4398046511104) {k : Nat} (hk : l.length < k) : groatref19_Same.f k l l = some true := by
  unfold groatref19_Same.f
  rw [if_pos rfl]
  exact same_loop l hl l.length k 0 (by omega) hk
theorem sw_sw (l : List S40) : (l.map sw).map sw = l := by
  rw [List.map_map]
  conv => rhs; rw [← List.map_id l]
  rfl
theorem CodesTurns (l : List S40) : ∃ k, groatlaw19_CodesTurns.f k l = some true := by
  refine ⟨1000, ?_⟩
  unfold groatlaw19_CodesTurns.f
  rw [awake_eq (by omega), Option.bind_some, if_pos rfl, great_eq l (by omega), Option.bind_some]
  simp only [groatlaw19_CodesTurns.j0]
  cases hg : great l with
  | true => rw [if_pos rfl, awake_eq (by omega)]; rfl
  | false =>
    have hl := great_small hg
    have hm : (l.map sw).length = l.length := List.length_map ..
    rw [if_neg (by decide), copy_eq (by omega), Option.bind_some, turn_eq (by omega) (by omega), Option.bind_some, rturn_eq (by omega) (by omega), Option.bind_some, same_eq (by omega) (by omega), Option.bind_some, if_pos rfl,
      turn_eq (by omega) (by omega), Option.bind_some, sw_sw, same_eq (by omega) (by omega), Option.bind_some, if_pos rfl, Option.bind_some]
/-! a table: no key twice -/
theorem go_zero : ∀ (l : List S40) (seen : List (List UInt8)) (i : Int), (codes_Check.go l seen i).1 = 0 ↔ (l.map key).Nodup ∧ ∀ s ∈ l.map key, s ∉ seen
  | [], seen, i => by simp [codes_Check.go]
  | p :: ps, seen, i => by
    simp only [codes_Check.go, List.map_cons, List.nodup_cons, List.mem_cons, forall_eq_or_imp]
    by_cases e : p.f0.data.toList ∈ seen
    · rw [if_pos e]
      refine ⟨fun h => absurd h (by simp), fun h => absurd e h.2.1⟩
    · rw [if_neg e, go_zero ps _ (i + 1)]
      simp only [List.mem_cons, not_or]
      constructor
      · rintro ⟨h1, h2⟩
        exact ⟨⟨fun c => (h2 _ c).1 rfl, h1⟩, e, fun s hs => (h2 s hs).2⟩
      · rintro ⟨⟨h1, h2⟩, _, h3⟩
        exact ⟨h2, fun s hs => ⟨fun c => h1 (by rw [show key p = s from c.symm]; exact hs), h3 s hs⟩⟩
theorem ck_zero (l : List S40) : (ck l).1 = 0 ↔ l.length ≤ 256 ∧ (l.map key).Nodup := by
  unfold ck
  by_cases h : (l.length : Int) > 256
  · rw [if_pos h]
    exact ⟨fun c => absurd c (by decide), fun c => by omega⟩
  · rw [if_neg h, go_zero]
    simp
    omega
theorem ap_spec (t : ByteArray) : ∀ l : List S40, (∃ p ∈ l, p.f0 = t ∧ ap l t = (p.f1, true)) ∨ ((∀ p ∈ l, p.f0 ≠ t) ∧ ap l t = (⟨#[]⟩, false))
  | [] => .inr ⟨fun p hp => by simp at hp, rfl⟩
  | p :: ps => by
    simp only [ap]
    by_cases e : p.f0.toList = t.toList
    · rw [if_pos e]
      exact .inl ⟨p, List.mem_cons_self .., toL_inj e, rfl⟩
    · rw [if_neg e]
      rcases ap_spec t ps with ⟨q, hq, h1, h2⟩ | ⟨h1, h2⟩
      · exact .inl ⟨q, List.mem_cons_of_mem _ hq, h1, h2⟩
      · refine .inr ⟨fun q hq => ?_, h2⟩
        rcases List.mem_cons.1 hq with rfl | hq
        · exact fun c => e (by rw [c])
        · exact h1 q hq
theorem one_key {l : List S40} (h : (l.map key).Nodup) {p q : S40} (hp : p ∈ l) (hq : q ∈ l) (e : p.f0 = q.f0) : p = q := by
  induction l with
  | nil => cases hp
  | cons a l ih =>
    simp only [List.map_cons, List.nodup_cons] at h
    rcases List.mem_cons.1 hp with rfl | hp' <;> rcases List.mem_cons.1 hq with rfl | hq'
    · rfl
    · exact absurd (show key p ∈ l.map key from List.mem_map.2 ⟨q, hq', by unfold key; rw [e]⟩) h.1
    · exact absurd (show key q ∈ l.map key from List.mem_map.2 ⟨p, hp', by unfold key; rw [e]⟩) h.1
    · exact ih h.2 hp' hq'
theorem ap_mem {l : List S40} (h : (l.map key).Nodup) {p : S40} (hp : p ∈ l) : ap l p.f0 = (p.f1, true) := by
  rcases ap_spec p.f0 l with ⟨q, hq, h1, h2⟩ | ⟨h1, _⟩
  · rw [h2, one_key h hq hp h1]
  · exact absurd rfl (h1 p hp)
theorem back {l : List S40} (h2 : ((l.map sw).map key).Nodup) {t s : ByteArray} (ha : ap l t = (s, true)) : ap (l.map sw) s = (t, true) := by
  rcases ap_spec t l with ⟨p, hp, h3, h4⟩ | ⟨_, h4⟩
  · rw [h4] at ha
    injection ha with ha _
    have := ap_mem h2 (List.mem_map.2 ⟨p, hp, rfl⟩)
    rw [← ha, ← h3]
    exact this
  · rw [h4] at ha
    injection ha with _ ha
    cases ha
theorem CodesBack (l : List S40) (t : ByteArray) (h : fits l) : ∃ k, groatlaw19_CodesBack.f k l t = some true := by
  refine ⟨1000, ?_⟩
  unfold groatlaw19_CodesBack.f
  rw [awake_eq (by omega), Option.bind_some, if_pos rfl, great_eq l (by omega), Option.bind_some]
  simp only [groatlaw19_CodesBack.j0]
  cases hg : great l with
  | true => rw [if_pos rfl, if_pos trivial, awake_eq (by omega)]; rfl
  | false =>
    have hl := great_small hg
    have hm : (l.map sw).length = l.length := List.length_map ..
    rw [if_neg (by decide)]
    by_cases ht : (t.size : Int) > 1000
    · rw [if_pos ht, if_pos trivial, awake_eq (by omega)]; rfl
    rw [if_neg ht, bij_eq h (by omega) (by omega), Option.bind_some]
    cases hb : bij l with
    | false => rw [Bool.not_false, if_pos rfl, awake_eq (by omega)]; rfl
    | true =>
      have hz := of_decide_eq_true hb
      have n1 := ((ck_zero l).1 hz.1).2
      have n2 := ((ck_zero _).1 hz.2).2
      have fin : groatlaw19_CodesBack.j1 999 l t (l.map sw) = some true := by
        simp only [groatlaw19_CodesBack.j1]
        rw [apply_eq (by omega) _ (by omega), Option.bind_some]
        cases e : ap (l.map sw) t with
        | mk s b =>
          cases b with
          | true =>
            have hb := back (l := l.map sw) (by rw [sw_sw]; exact n1) e
            rw [sw_sw] at hb
            rw [if_pos rfl, apply_eq (by omega) _ (by omega), Option.bind_some, hb, if_pos rfl]
            simp
          | false =>
            rcases ap_spec t (l.map sw) with ⟨p, _, _, h4⟩ | ⟨_, h4⟩
            · rw [e] at h4; injection h4 with _ h4; cases h4
            · rw [e] at h4; injection h4 with h4 _; subst h4; rw [if_neg (show ¬ (false = true) by decide)]; simp [toL]
      rw [Bool.not_true, if_neg (by decide), turn_eq (by omega) (by omega), Option.bind_some, apply_eq (by omega) _ (by omega), Option.bind_some]
      cases e : ap l t with
      | mk s b =>
        cases b with
        | true =>
          rw [if_pos rfl, apply_eq (by omega) _ (by omega), Option.bind_some, back n2 e, if_pos rfl, if_pos rfl, fin]
        | false => rw [if_neg (show ¬ (false = true) by decide), fin]
theorem CodesSame (l : List S40) (t : ByteArray) (n : Int) (h : fits l) : ∃ k, groatlaw19_CodesSame.f k l t n = some true := by
  refine ⟨1000, ?_⟩
  unfold groatlaw19_CodesSame.f
  rw [check_eq h, Option.bind_some, awake_eq (by omega), Option.bind_some, if_pos rfl, great_eq l (by omega), Option.bind_some]
  simp only [groatlaw19_CodesSame.j0]
  cases hg : great l with
  | true => rw [if_pos rfl, if_pos trivial, awake_eq (by omega)]; rfl
  | false =>
    have hl := great_small hg
    rw [if_neg (by decide)]
    by_cases ht : (t.size : Int) > 1000
    · rw [if_pos ht, if_pos trivial, awake_eq (by omega)]; rfl
    rw [if_neg ht]
    by_cases hc : (ck l).1 = 0
    · rw [if_pos hc]
      by_cases h0 : (l.length : Int) = 0
      · rw [if_pos (beq_iff_eq.2 h0), awake_eq (by omega)]; rfl
      have nd := (ck_zero l).1 hc
      have ew : IntKind.u64.wrap (l.length : Int) = l.length := by rw [IntKind.wrap_u64]; omega
      obtain ⟨j, hj, ej⟩ : ∃ j : Nat, j < l.length ∧ wrap64 (Int.tmod (IntKind.u64.wrap n) (l.length : Int)) = (j : Int) := by
        have hn : 0 ≤ IntKind.u64.wrap n := by rw [IntKind.wrap_u64]; omega
        have h1 := Int.emod_nonneg (IntKind.u64.wrap n) h0
        have h2 := Int.emod_lt_of_pos (IntKind.u64.wrap n) (show (0 : Int) < l.length by omega)
        refine ⟨(IntKind.u64.wrap n % (l.length : Int)).toNat, by omega, ?_⟩
        rw [Int.tmod_eq_emod_of_nonneg hn, w64 (by omega) (by omega)]
        omega
      have mem : ∀ p, p ∈ l.drop j ++ l.take j ↔ p ∈ l := fun p => by
        rw [List.mem_append, or_comm, ← List.mem_append, List.take_append_drop]
      have hlen : (l.drop j ++ l.take j).length = l.length := by rw [List.length_append, List.length_drop, List.length_take]; omega
      have ndr : ((l.drop j ++ l.take j).map key).Nodup := by
        have hp : ((l.drop j ++ l.take j).map key).Perm (l.map key) := by
          refine List.Perm.map _ ?_
          have := List.perm_append_comm (l₁ := l.drop j) (l₂ := l.take j)
          rwa [List.take_append_drop] at this
        exact hp.nodup_iff.2 nd.2
      have hck : (ck (l.drop j ++ l.take j)).1 = 0 := (ck_zero _).2 ⟨by omega, ndr⟩
      have hap : ap (l.drop j ++ l.take j) t = ap l t := by
        rcases ap_spec t l with ⟨p, hp, h1, h2⟩ | ⟨h1, h2⟩
        · have := ap_mem ndr ((mem p).2 hp)
          rw [h1] at this
          rw [h2, this]
        · rcases ap_spec t (l.drop j ++ l.take j) with ⟨p, hp, h3, _⟩ | ⟨_, h4⟩
          · exact absurd h3 (h1 p ((mem p).1 hp))
          · rw [h2, h4]
      have hld : (l.drop j).length ≤ 400 := by rw [List.length_drop]; omega
      have hlt : (l.take j).length ≤ 400 := by rw [List.length_take]; omega
      rw [if_neg (by simpa using h0), ew, ej, if_neg h0, if_pos (by omega), if_pos (by omega), Int.toNat_natCast, copy_eq (by omega), Option.bind_some, Option.bind_some, if_pos (by omega), Option.bind_some, apply_eq (by omega) _ (by omega), Option.bind_some,
        apply_eq (by omega) _ (by omega), Option.bind_some, check_eq (fun p hp => h p ((mem p).1 hp)), Option.bind_some, hap, if_pos rfl, if_pos (beq_iff_eq.2 rfl), hck]
      rfl
    · rw [if_neg hc, if_pos trivial, awake_eq (by omega)]; rfl
end Go.Proofs.Ytbknihgibcbdaaa.Pure
