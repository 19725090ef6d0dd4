/- Walks of the functions that the laws of layer 19 (codes) reach: each call comes to the answer of its plain function, which stands beside it. No conditions. -/
import Derived.Test.YtbknihgibcbdaaaDx0
namespace Go.Proofs.Ytbknihgibcbdaaa.D
open Go.RowKit Go.Proofs.YtbknihgibcbdaaaW.PrintWords Go.Proofs.YtbknihgibcbdaaaW.PrintLast Go.Proofs.YtbknihgibcbdaaaW.PrintMore
attribute [local go_sem] max2_int min2_int max_two min_two max_three min_three max_four min_four   -- for this text's walks alone
set_option linter.unusedVariables false
set_option linter.unusedSimpArgs false

/-! ### codes_Check: function 10, by hand: a map is made, asked and written in a loop -/
def codes_Check.go : List S40 → List (List UInt8) → Int → Int × Int
  | [], _, _ => (0, 0)
  | p :: ps, seen, i => if p.f0.data.toList ∈ seen then (10, i) else codes_Check.go ps (p.f0.data.toList :: seen) (i + 1)
def codes_Check.f (l0 : List (S40)) : Option (Int × Int) := if l0.all (fun p => decide (p.f0.size ≤ 9223372036854775807)) = true then (if (l0.length : Int) > 256 then some (5, 256) else some (codes_Check.go l0 [] 0)) else none
theorem law9 : Go.Maps.Keyed Try.prog 9 := Go.Maps.string_keyed Try.underlying9
theorem zero4 (w : World) : (zeroValue 4).run Try.prog w = .ok (.bool false) w := by kernel_rfl
/-- which keys stand in the map: those of the texts seen -/
def Asked (P : Program) (K E : TypeId) (w : World) (b n : Nat) (seen : List (List UInt8)) : Prop := ∃ f : Lit → Bool, Go.Proofs.Ytbknihgibcbdaaa.G.Seen P K E w b n f ∧ ∀ s : List UInt8, f (.string s) = decide (s ∈ seen)
theorem Asked.below {P : Program} {K E : TypeId} {w w1 : World} {b n : Nat} {seen : List (List UInt8)} (h : Asked P K E w b n seen) (hb : Below w.heap.size w w1) : Asked P K E w1 b n seen := let ⟨f, h1, h2⟩ := h; ⟨f, h1.below hb, h2⟩
theorem Asked.made (P : Program) (K E : TypeId) (w : World) : Asked P K E (w.alloc (.map #[] 0)) w.heap.size 0 [] := ⟨_, Go.Proofs.Ytbknihgibcbdaaa.G.Seen.made P K E w, fun s => by simp⟩
theorem rd_drop {l : List S40} {i : Nat} (h : i < l.length) : l.drop i = rd_T40 l i :: l.drop (i + 1) := by
  rw [List.drop_eq_getElem_cons h]
  simp [rd_T40, List.getD_eq_getElem?_getD, List.getElem?_eq_getElem h]
theorem rd_all {l : List S40} (ha : l.all (fun p => decide (p.f0.size ≤ 9223372036854775807)) = true) {i : Nat} (h : i < l.length) : (rd_T40 l i).f0.size ≤ maxLen := by
  have h1 := List.all_eq_true.1 ha (l[i]) (List.getElem_mem h)
  have h2 : rd_T40 l i = l[i] := by simp [rd_T40, List.getD_eq_getElem?_getD, List.getElem?_eq_getElem h]
  rw [h2]
  unfold maxLen
  have := of_decide_eq_true h1
  omega
set_option maxHeartbeats 8000000 in
set_option maxRecDepth 100000 in
theorem codes_Check.calls (A0 : Option Addr) (c0 : Nat) (l0 : List (S40)) (r1 : Int) (r2 : Int) (w : World) (hr0 : Kd.C k40 w A0 l0.length l0) (hc0 : l0.length ≤ c0) (h : codes_Check.f l0 = some (r1, r2)) :
    Calls Try.prog 10 #[.slice A0 l0.length c0] w fun e w' => e = .returned (.tuple #[.int .i64 r1, .int .i64 r2]) ∧ Below w.heap.size w w' := by
  have hu40 := Try.underlying40
  have HR0 := Aside0.mk hr0
  have HC0 := Aside0.mk hc0
  clear hr0 hc0
  have HB := Aside0.mk (Below.refl w.heap.size w)
  have hmm := @run_makeMap Try.prog
  unfold codes_Check.f at h
  by_cases hall : l0.all (fun p => decide (p.f0.size ≤ 9223372036854775807)) = true
  · rw [if_pos hall] at h
    have HALL := Aside0.mk hall
    clear hall
    by_cases c1 : (l0.length : Int) > 256
    · rw [if_pos c1] at h
      simp only [Option.some.injEq, Prod.mk.injEq] at h
      obtain ⟨rfl, rfl⟩ := h
      have c1b : decide (256 < (l0.length : Int)) = true := decide_eq_true c1
      clear c1
      go_enter Try.func10, Try.ntmps10
      go_wp2
      go_ret2
      exact ⟨rfl, HB.out⟩
    · rw [if_neg c1] at h
      have H := Aside0.mk (Option.some.inj h)
      clear h
      have c1b : decide (256 < (l0.length : Int)) = false := decide_eq_false c1
      have HN : Aside0 (l0.length ≤ 256) := ⟨by omega⟩
      clear c1
      go_enter Try.func10, Try.ntmps10
      go_wp2
      have hmade := Aside0.mk (Asked.made Try.prog 9 4 w)
      have HB1 := Aside0.mk (below_alloc HB.out (.map #[] 0))
      go_loopg [13] l0.length (fun kq v13 w' => ∃ (x : Int) (seen : List (List UInt8)), v13 = .int .i64 x ∧ Aside0 (0 ≤ x ∧ x.toNat + kq = l0.length ∧ codes_Check.go (l0.drop x.toNat) seen x = (r1, r2)) ∧ Aside0 (Asked Try.prog 9 4 w' w.heap.size x.toNat seen) ∧ Aside0 (Below w.heap.size w w'))
      case atStart => exact ⟨0, [], rfl, ⟨Int.le_refl _, by simp, by simpa using H.out⟩, hmade, HB1⟩
      case round =>
        clear hmade HB1 hmm HB
        obtain ⟨x, seen, rfl, HI, HS, HB⟩ := hrel
        by_cases hi : x < (l0.length : Int)
        · have h0 := HI.out.1
          have hin : x.toNat < l0.length := by omega
          have hd := rd_drop hin
          have hk := rd_all HALL.out hin
          have ex : ((x.toNat : Nat) : Int) = x := by omega
          rw [ex] at hd hk
          have hgo := HI.out.2.2
          rw [hd] at hgo
          simp only [codes_Check.go] at hgo
          have HG := Aside0.mk hgo
          have HH := Aside0.mk hin
          have HW : Aside0 (wrap64 (x + 1) = x + 1) := ⟨by have := HN.out; unfold wrap64; omega⟩
          have HK := Aside0.mk (Go.WideMaps.keyOf_string_mk Try.underlying9 hk)
          clear hd ex hgo hk hin
          have hb : decide (x < (l0.length : Int)) = true := decide_eq_true hi
          have p101 : 0 ≤ (x : Int) := h0
          have q101 : (x : Int) < (l0.length : Int) := hi
          obtain ⟨ad101, e101, hx101_0, hx101_1⟩ := at_T40 HR0.out x p101 q101
          cases e101
          replace hx101_0 := (HB.out.cell (World.block_lt_of_cell? w _ hx101_0)).trans hx101_0
          replace hx101_1 := (HB.out.cell (World.block_lt_of_cell? w _ hx101_1)).trans hx101_1
          replace p101 := eq_true p101
          replace q101 := eq_true q101
          clear h0 hi
          obtain ⟨f, hf, hmem⟩ := HS.out
          have HF := Aside0.mk (fun o : Obj => hf.below (below_alloc (Below.refl _ _) o))
          have HM := Aside0.mk (hmem (rd_T40 l0 x).f0.data.toList)
          have HA := Aside0.mk hmem
          have hl := fun o : Obj => (HF.out o).lookup law9 Try.underlying41 Try.underlying4 (zero4 _) HK.out
          rw [HM.out] at hl
          clear hf hmem HS
          by_cases hin : (rd_T40 l0 x).f0.data.toList ∈ seen
          · rw [decide_eq_true hin] at hl
            have hr := HG.out
            rw [if_pos hin] at hr
            simp only [Prod.mk.injEq] at hr
            obtain ⟨rfl, rfl⟩ := hr
            clear hin
            go_wp2
            go_ret2
            exact ⟨rfl, below_alloc HB.out _⟩
          · rw [decide_eq_false hin] at hl
            have HR := Aside0.mk HG.out
            rw [if_neg hin] at HR
            clear hin HG
            have HX : Aside0 (x.toNat < maxLen) := ⟨by have := HH.out; have := HN.out; unfold maxLen; omega⟩
            go_wp2_with (at_mapUpdate; refine Go.Proofs.Ytbknihgibcbdaaa.G.wp_seen_put (P := Try.prog) (K := 9) (E := 4) _ rfl _ _ _ 41 rfl law9 Try.underlying41 Try.underlying4 _ x.toNat f rfl (HF.out _) HX.out _ _ rfl rfl HK.out trivial ?_; intro w1 hs1 hg1; have HS1 := Aside0.mk hs1; have HG1 := Aside0.mk hg1; clear hs1 hg1)
            go_roundg (gk - 1)
            case measure => have := HI.out.2.1; have := HH.out; omega
            case rel =>
              rw [HW.out]
              have e1 : (x + 1).toNat = x.toNat + 1 := by have := HI.out.1; omega
              refine ⟨x + 1, (rd_T40 l0 x).f0.data.toList :: seen, rfl, ⟨?_, ?_, ?_⟩, ⟨⟨Go.Proofs.Ytbknihgibcbdaaa.G.more (Lit.string (rd_T40 l0 x).f0.data.toList) f, ?_, ?_⟩⟩, ⟨?_⟩⟩
              · have := HI.out.1; omega
              · have := HI.out.1; have := HI.out.2.1; have := HH.out; omega
              · rw [e1]; exact HR.out
              · rw [e1]; exact HS1.out
              · intro s
                by_cases hs : s = (rd_T40 l0 x).f0.data.toList
                · subst hs
                  rw [Go.Proofs.Ytbknihgibcbdaaa.G.more_same]
                  simp
                · rw [Go.Proofs.Ytbknihgibcbdaaa.G.more_other _ (by intro e; cases e; exact hs rfl), HA.out]
                  simp [hs]
              · exact (below_alloc HB.out _).grown HG1.out (below_size (below_alloc HB.out _)) (fun k hk => by cases hk; exact Nat.le_refl _)
        · have h0 := HI.out.1
          have hd : l0.drop x.toNat = [] := List.drop_of_length_le (by omega)
          have hgo := HI.out.2.2
          rw [hd] at hgo
          simp only [codes_Check.go, Prod.mk.injEq] at hgo
          obtain ⟨rfl, rfl⟩ := hgo
          have hb : decide (x < (l0.length : Int)) = false := decide_eq_false hi
          clear hd hi h0
          go_wp2
          go_ret2
          exact ⟨rfl, HB.out⟩
  · rw [if_neg hall] at h
    exact absurd h (by simp)


/-! ### codes_Turn: function 17 -/
def codes_Turn.l0 : Nat → List (S40) → List (S40) → Int → Int → Option ((List (S40)))
  | 0, _, _, _, _ => none
  | k + 1, x3, x9, x10, x11 => if x11 < x10 then (if 0 ≤ x11 then (if x11 < (x9.length : Int) then (if x3.length < 4398046511104 then (codes_Turn.l0 k (x3 ++ [(⟨(rd_T40 x9 x11).f1, (rd_T40 x9 x11).f0⟩ : S40)]) x9 x10 (wrap64 (x11 + 1))) else (none)) else (none)) else (none)) else (some x3)
def codes_Turn.f (k : Nat) (l0 : List (S40)) : Option ((List (S40))) := if l0.length ≤ 4398046511104 then codes_Turn.l0 k (([] : List (S40))) l0 (l0.length : Int) 0 else none
theorem codes_Turn.mono_l : ∀ k, (∀ y0 y1 y2 y3, LeO (codes_Turn.l0 k y0 y1 y2 y3) (codes_Turn.l0 (k + 1) y0 y1 y2 y3))
  | 0 => fun _ _ _ _ r h => by simp [codes_Turn.l0] at h
  | k + 1 => by
    have ih0 := codes_Turn.mono_l k
    · intro y0 y1 y2 y3
      unfold codes_Turn.l0
      repeat' first
      | (with_reducible exact ih0 _ _ _ _)
      | (with_reducible exact LeO.refl _)
      | (with_reducible exact LeO.none _)
      | (with_reducible refine LeO.ite ?_ ?_)
      | (with_reducible refine LeO.bind ?_ (fun _ => ?_))
      | exact ih0 _ _ _ _
      | exact LeO.none _
      | refine LeO.ite ?_ ?_
      | refine LeO.bind ?_ (fun _ => ?_)
theorem codes_Turn.mono : ∀ a0 k, LeO (codes_Turn.f k a0) (codes_Turn.f (k + 1) a0) := by
  intro a0 k
  have ih0 := codes_Turn.mono_l k
  unfold codes_Turn.f
  repeat' first
      | (with_reducible exact ih0 _ _ _ _)
      | (with_reducible exact LeO.refl _)
      | (with_reducible exact LeO.none _)
      | (with_reducible refine LeO.ite ?_ ?_)
      | (with_reducible refine LeO.bind ?_ (fun _ => ?_))
      | exact ih0 _ _ _ _
      | exact LeO.none _
      | refine LeO.ite ?_ ?_
      | refine LeO.bind ?_ (fun _ => ?_)
set_option maxHeartbeats 8000000 in
set_option maxRecDepth 100000 in
theorem codes_Turn.calls (k : Nat) (A0 : Option Addr) (c0 : Nat) (l0 : List (S40)) (r : List (S40)) (w : World) (hr0 : Kd.C k40 w A0 l0.length l0) (hc0 : l0.length ≤ c0) (h : codes_Turn.f k l0 = some r) :
    Calls Try.prog 17 #[.slice A0 l0.length c0] w fun e w' => ∃ v0_ : Value, e = .returned (v0_) ∧ Kd.R k40 40 w' w.heap.size (fun _ => True) v0_ r ∧ Below w.heap.size w w' := by
  have hu40 := Try.underlying40
  have HR0 := Aside0.mk hr0
  have HC0 := Aside0.mk hc0
  clear hr0 hc0
  have HB := Aside0.mk (Below.refl w.heap.size w)
  have hL : l0.length ≤ 4398046511104 := by
    unfold codes_Turn.f at h
    by_cases hL : l0.length ≤ 4398046511104
    · exact hL
    · rw [if_neg hL] at h
      exact absurd h (by simp)
  have HL := Aside0.mk hL
  unfold codes_Turn.f at h
  rw [if_pos hL] at h
  clear hL
  have H : (codes_Turn.l0 k (([] : List (S40))) l0 (l0.length : Int) 0) = some r := h
  clear h
  obtain ⟨y101, hy101⟩ : ∃ y_ : List (S40), y_ = (([] : List (S40))) := ⟨_, rfl⟩
  replace H : (codes_Turn.l0 k y101 l0 (l0.length : Int) 0) = some r := by first | (rw [hy101]; with_reducible exact H) | (have H2_ := (Option.bind_some _ _).symm.trans H; rw [hy101]; with_reducible exact H2_) | (have H2_ := (Option.bind_some _ _).symm.trans H; with_reducible exact H2_) | with_reducible exact H | (rw [hy101]; exact H) | exact H
  have Ny101 := Aside0.mk hy101
  clear hy101
  have H' := Aside0.mk H
  clear H
  go_enter Try.func17, Try.ntmps17
  go_wp2_with (first | ((with_reducible refine gate_dst (N := 8) rfl ?_); refine Go.Proofs.Ytbknihgibcbdaaa.G.R_make0 k40 _ 40 ?hg (N := 8) ?hd 22 _ _ rfl l0.length rfl rfl Try.underlying22 _ 32 info40 rfl (by decide) (by decide) z40 (ok := fun _ => True) (okp := fun _ => True) ?hzero (fun _ hk => hk) trivial (by have := HL.out; omega) (Below.refl _ _) (Nat.le_refl _) ?_; (case hd => rfl); (case hg => rfl); (case hzero => exact k40_mkM _ _ _ z40); intro v102 w2 ho3 hb hg_ hnew_; clear hg_ hnew_; (first | rw [← Ny101.out] at ho3 | (simp only [Int.reduceToNat] at ho3; rw [← Ny101.out] at ho3)); have n0_ := Aside0.mk (Kd.R_lower ho3 (below_size (by repeat (first | (with_reducible first | exact HB.out | apply below_alloc | apply pw_below_drewN | apply below_drew1) | exact HB.out)))); have n1_ := Aside0.mk (below_step (by repeat (first | (with_reducible first | exact HB.out | apply below_alloc | apply pw_below_drewN | apply below_drew1) | exact HB.out)) hb); clear HB; have HO103 := n0_; have HB := n1_; clear n0_ n1_; clear hb ho3))
  go_loopg [3, 11] k (fun kq v3 v11 w' => ∃ (x3_1 : List (S40)) (x11_1 : Int), v11 = .int .i64 x11_1 ∧ Aside0 (codes_Turn.l0 kq x3_1 l0 (l0.length : Int) x11_1 = some r) ∧ Aside0 (kq ≤ k) ∧ Aside0 (Kd.R k40 40 w' w.heap.size (fun _ => True) v3 x3_1) ∧ Aside0 (Below w.heap.size w w'))
  case atStart => exact ⟨(y101), (0), (by first | rfl | (simp; done) | (simp [*]; done)), H', ⟨Nat.le_refl _⟩, ⟨by (with_reducible repeat (first | apply Kd.R_alloc | apply Kd.R_drewN | apply Kd.R_drew)); exact HO103.out⟩, ⟨by repeat (first | (with_reducible first | exact HB.out | apply below_alloc | apply pw_below_drewN | apply below_drew1) | exact HB.out)⟩⟩
  case round =>
    clear H'
    try clear c1
    try clear p2
    obtain ⟨x3_1, x11_1, rfl, HA, HK1, HO_3, HB⟩ := hrel
    cases gk with
    | zero => exact absurd HA.out (by simp [codes_Turn.l0])
    | succ k1 =>
      have H := HA.out
      clear HA
      simp only [codes_Turn.l0] at H
      by_cases c4 : x11_1 < (l0.length : Int)
      · rw [if_pos c4] at H
        have c4b0 : decide (x11_1 < (l0.length : Int)) = true := decide_eq_true c4
        clear c4
        by_cases c5 : 0 ≤ x11_1
        · rw [if_pos c5] at H
          have c5b0 : decide (0 ≤ x11_1) = true := decide_eq_true c5
          clear c5
          by_cases c6 : x11_1 < (l0.length : Int)
          · rw [if_pos c6] at H
            have c6b0 : decide (x11_1 < (l0.length : Int)) = true := decide_eq_true c6
            clear c6
            by_cases c7 : x3_1.length < 4398046511104
            · rw [if_pos c7] at H
              have LMc7 := Aside0.mk c7
              clear c7
              obtain ⟨y106, hy106⟩ : ∃ y_ : List (S40), y_ = (x3_1 ++ [(⟨(rd_T40 l0 x11_1).f1, (rd_T40 l0 x11_1).f0⟩ : S40)]) := ⟨_, rfl⟩
              replace H : (codes_Turn.l0 k1 y106 l0 (l0.length : Int) (wrap64 (x11_1 + 1))) = some r := by first | (rw [hy106]; with_reducible exact H) | (have H2_ := (Option.bind_some _ _).symm.trans H; rw [hy106]; with_reducible exact H2_) | (have H2_ := (Option.bind_some _ _).symm.trans H; with_reducible exact H2_) | with_reducible exact H | (rw [hy106]; exact H) | exact H
              have Ny106 := Aside0.mk hy106
              clear hy106
              have H' := Aside0.mk H
              clear H
              have p104 : 0 ≤ (x11_1 : Int) := of_decide_eq_true (by first | (with_reducible assumption) | assumption)
              have q104 : x11_1 < (l0.length : Int) := of_decide_eq_true (by first | (with_reducible assumption) | assumption)
              obtain ⟨ad104, e104, hx104_0, hx104_1⟩ := at_T40 HR0.out x11_1 p104 q104
              cases e104
              replace hx104_0 := (HB.out.cell (World.block_lt_of_cell? w _ hx104_0)).trans hx104_0
              replace hx104_1 := (HB.out.cell (World.block_lt_of_cell? w _ hx104_1)).trans hx104_1
              replace p104 := eq_true p104
              replace q104 := eq_true q104
              go_wp2_with (first | ((with_reducible refine gate_dst (N := 5) rfl ?_); refine box_event ?hg (N := 5) ?hd (cs := #[.string (⟨#[]⟩ : ByteArray), .string (⟨#[]⟩ : ByteArray)]) (t := 40) ?hr ?_; (case hd => rfl); (case hg => rfl); (case hr => first | (go_simp; done) | (go_simp; rfl)); intro gb105 hg w8 hbox hb; have n0_ := Aside0.mk (Kd.R_below (Kd.R_elderB (by (with_reducible repeat (first | apply Kd.R_alloc | apply Kd.R_drewN | apply Kd.R_drew)); exact HO_3.out) gb105 (Nat.le_of_eq hg.symm)) hb); have n1_ := Aside0.mk (below_step (by repeat (first | (with_reducible first | exact HB.out | apply below_alloc | apply pw_below_drewN | apply below_drew1) | exact HB.out)) hb); have n2_ := Aside0.mk (hbox); have n3_ := Aside0.mk ((by rw [hg]; exact (below_size (by repeat (first | (with_reducible first | exact HB.out | apply below_alloc | apply pw_below_drewN | apply below_drew1) | exact HB.out))) : w.heap.size ≤ gb105)); have n4_ := Aside0.mk ((by rw [hg]; exact (below_size (by repeat (first | (with_reducible first | exact HB.out | apply below_alloc | apply pw_below_drewN | apply below_drew1) | exact HB.out))) : w.heap.size ≤ gb105)); clear HO_3; clear HB; have HO_3 := n0_; have HB := n1_; have BK105 := n2_; have GW105 := n3_; have GE105 := n4_; clear n0_ n1_ n2_ n3_ n4_; clear hb hbox hg; have hcz9_0 : w8.cell? ⟨gb105, 0, none⟩ = some (.string (⟨#[]⟩ : ByteArray)) := (blk_cell BK105.out 0).trans rfl; have hcz9_1 : w8.cell? ⟨gb105, 1, none⟩ = some (.string (⟨#[]⟩ : ByteArray)) := (blk_cell BK105.out 1).trans rfl; have hfz9_0 := blk_frozen BK105.out 0; have hfz9_1 := blk_frozen BK105.out 1) | ((with_reducible refine gate_builtin (b := .append) (xs := #[.tmp 15, .tmp 21]) rfl ?_); at_builtin; refine Kd.R_append k40 (w0 := w) w.heap.size rfl (.tmp 15) (.tmp 21) 22 40 (.agg #[(.string ⟨#[]⟩), (.string ⟨#[]⟩)]) 32 rfl Try.underlying22 info40 rfl (by decide) (by omega) u3 x3_1 (⟨(rd_T40 l0 x11_1).f1, (rd_T40 l0 x11_1).f0⟩ : S40) [.string ((rd_T40 l0 x11_1).f1), .string ((rd_T40 l0 x11_1).f0)] (fun k_ => k_ ≠ gb105) (fun _ => False) rfl (by first | (go_simp; done) | (go_simp; rfl)) ?aP (fun _ hk => hk.elim) ?aF ?aO ?aB ?aS ?aL ?_; (case aP => exact k40_mkM _ _ _ (⟨(rd_T40 l0 x11_1).f1, (rd_T40 l0 x11_1).f0⟩ : S40)); (case aB => exact (by repeat (first | (with_reducible first | exact HB.out | apply below_alloc | apply pw_below_drewN | apply below_drew1 | refine below_set ?_ GE105.out) | exact HB.out))); (case aF => exact (fun k_ hk => Kd.freshB (g := gb105) (o := .cells #[.string ((rd_T40 l0 x11_1).f0), .string ((rd_T40 l0 x11_1).f1)] 40 (0, 0)) (by (with_reducible repeat (first | refine blk_drewN ?_ _ | refine blk_drew ?_ | refine blk_alloc ?_ _)); refine blk_put (cs := #[.string ((rd_T40 l0 x11_1).f0), .string (⟨#[]⟩ : ByteArray)]) ?_ 1 _ rfl; (with_reducible repeat (first | refine blk_drewN ?_ _ | refine blk_drew ?_ | refine blk_alloc ?_ _)); refine blk_put (cs := #[.string (⟨#[]⟩ : ByteArray), .string (⟨#[]⟩ : ByteArray)]) ?_ 0 _ rfl; (with_reducible repeat (first | refine blk_drewN ?_ _ | refine blk_drew ?_ | refine blk_alloc ?_ _)); exact BK105.out) k_ hk)); (case aO => exact (by (with_reducible repeat (first | apply Kd.R_alloc | apply Kd.R_drewN | apply Kd.R_drew)); exact Kd.R_mono (Kd.R_far (p := ⟨gb105, 1, none⟩) (Kd.R_far (p := ⟨gb105, 0, none⟩) (Kd.R_mono HO_3.out (fun k_ hk => (⟨hk, hk.2⟩ : _ ∧ k_ ≠ gb105))) (fun _ hk => hk.2) (.string ((rd_T40 l0 x11_1).f0))) (fun _ hk => hk.2) (.string ((rd_T40 l0 x11_1).f1))) (fun _ hk => hk.1.2))); (case aS => exact (below_size (by repeat (first | (with_reducible first | exact HB.out | apply below_alloc | apply pw_below_drewN | apply below_drew1 | refine below_set ?_ GE105.out) | exact HB.out)))); (case aL => have := LMc7.out; omega); intro v107 w10 ho hb hg hat; rw [← Ny106.out] at ho; have n0_ := Aside0.mk (blk_grown (g := gb105) (o := .cells #[.string ((rd_T40 l0 x11_1).f0), .string ((rd_T40 l0 x11_1).f1)] 40 (0, 0)) (by (with_reducible repeat (first | refine blk_drewN ?_ _ | refine blk_drew ?_ | refine blk_alloc ?_ _)); refine blk_put (cs := #[.string ((rd_T40 l0 x11_1).f0), .string (⟨#[]⟩ : ByteArray)]) ?_ 1 _ rfl; (with_reducible repeat (first | refine blk_drewN ?_ _ | refine blk_drew ?_ | refine blk_alloc ?_ _)); refine blk_put (cs := #[.string (⟨#[]⟩ : ByteArray), .string (⟨#[]⟩ : ByteArray)]) ?_ 0 _ rfl; (with_reducible repeat (first | refine blk_drewN ?_ _ | refine blk_drew ?_ | refine blk_alloc ?_ _)); exact BK105.out) hg (Kd.R_away HO_3.out (fun _ hk => hk.2))); have n1_ := Aside0.mk (hb); have n2_ := Aside0.mk (ho); clear BK105; clear HB; clear HO_3; have BK105 := n0_; have HB := n1_; have HO108 := n2_; clear n0_ n1_ n2_; clear ho hb hg hat))
              go_roundg k1
              case measure => have := HK1.out; omega
              case rel => exact ⟨(y106), (wrap64 (x11_1 + 1)), (by first | rfl | (simp; done) | (simp [*]; done)), H', ⟨by have := HK1.out; omega⟩, ⟨by (with_reducible repeat (first | apply Kd.R_alloc | apply Kd.R_drewN | apply Kd.R_drew)); exact Kd.R_mono HO108.out (fun _ hk => trivial)⟩, ⟨by repeat (first | (with_reducible first | exact HB.out | apply below_alloc | apply pw_below_drewN | apply below_drew1 | refine below_set ?_ GE105.out) | exact HB.out)⟩⟩
            · rw [if_neg c7] at H
              exact absurd H (by simp)
          · rw [if_neg c6] at H
            exact absurd H (by simp)
        · rw [if_neg c5] at H
          exact absurd H (by simp)
      · rw [if_neg c4] at H
        have c4b0 : decide (x11_1 < (l0.length : Int)) = false := decide_eq_false c4
        clear c4
        obtain rfl := Option.some.inj H
        go_wp2
        go_ret
        exact ⟨_, by first | rfl | (simp [errW_none, errW_some] <;> rfl) | (simp [*, errW_none, errW_some] <;> rfl), by (with_reducible repeat (first | apply Kd.R_alloc | apply Kd.R_drewN | apply Kd.R_drew)); exact HO_3.out, by repeat (first | (with_reducible first | exact HB.out | apply below_alloc | apply pw_below_drewN | apply below_drew1) | exact HB.out)⟩

/-! ### codes_Bijective: function 13 -/
def codes_Bijective.f (k : Nat) (l0 : List (S40)) : Option (Bool) := (codes_Check.f l0).bind fun bt109 => ((codes_Turn.f k l0).bind fun t111 => ((codes_Check.f t111).bind fun bt114 => (if bt109.1 = 0 then (some (bt114.1 == 0)) else (some false))))
theorem codes_Bijective.mono : ∀ a0 k, LeO (codes_Bijective.f k a0) (codes_Bijective.f (k + 1) a0) := by
  intro a0 k
  unfold codes_Bijective.f
  repeat' first
      | (with_reducible exact codes_Turn.mono _ _)
      | (with_reducible exact LeO.refl _)
      | (with_reducible exact LeO.none _)
      | (with_reducible refine LeO.ite ?_ ?_)
      | (with_reducible refine LeO.bind ?_ (fun _ => ?_))
      | exact codes_Turn.mono _ _
      | exact LeO.none _
      | refine LeO.ite ?_ ?_
      | refine LeO.bind ?_ (fun _ => ?_)
set_option maxHeartbeats 8000000 in
set_option maxRecDepth 100000 in
theorem codes_Bijective.calls (k : Nat) (A0 : Option Addr) (c0 : Nat) (l0 : List (S40)) (r : Bool) (w : World) (hr0 : Kd.C k40 w A0 l0.length l0) (hc0 : l0.length ≤ c0) (h : codes_Bijective.f k l0 = some r) :
    Calls Try.prog 13 #[.slice A0 l0.length c0] w fun e w' => e = .returned (.bool r) ∧ Below w.heap.size w w' := by
  have HR0 := Aside0.mk hr0
  have HC0 := Aside0.mk hc0
  clear hr0 hc0
  have HB := Aside0.mk (Below.refl w.heap.size w)
  have H : ((codes_Check.f l0).bind fun bt109 => ((codes_Turn.f k l0).bind fun t111 => ((codes_Check.f t111).bind fun bt114 => (if bt109.1 = 0 then (some (bt114.1 == 0)) else (some false))))) = some r := h
  clear h
  replace H := Option.bind_eq_some_iff.mp H
  obtain ⟨⟨t109, t110⟩, A20, H⟩ := H
  replace H : ((codes_Turn.f k l0).bind fun t111 => ((codes_Check.f t111).bind fun bt114 => (if t109 = 0 then (some (bt114.1 == 0)) else (some false)))) = some r := H
  have A2 := Aside0.mk A20
  clear A20
  replace H := Option.bind_eq_some_iff.mp H
  obtain ⟨t111, A30, H⟩ := H
  replace H : ((codes_Check.f t111).bind fun bt114 => (if t109 = 0 then (some (bt114.1 == 0)) else (some false))) = some r := H
  have A3 := Aside0.mk A30
  clear A30
  replace H := Option.bind_eq_some_iff.mp H
  obtain ⟨⟨t114, t115⟩, A40, H⟩ := H
  replace H : (if t109 = 0 then (some (t114 == 0)) else (some false)) = some r := H
  have A4 := Aside0.mk A40
  clear A40
  by_cases c5 : t109 = 0
  · rw [if_pos c5] at H
    have c5b0 : (t109 == 0) = true := beq_iff_eq.mpr c5
    have c5b1 : (t109 != 0) = false := bne_eq_false_iff_eq.mpr c5
    clear c5
    obtain rfl := Option.some.inj H
    go_enter Try.func13, Try.ntmps13
    go_wp2_with (first | ((with_reducible refine gate_callee (f := 10) rfl ?_); refine goesL_ (some 9) rfl rfl Try.func10 (by kernel_rfl) rfl #[.slice A0 l0.length c0] rfl (by (try simp only [List.map_toArray, List.map_cons, List.map_nil]); first | done | rfl | (simp only [List.length_drop, List.length_take]; rfl)) ?_; (with_reducible refine (codes_Check.calls _ _ l0 t109 t110 _ ?side1 ?side2 A2.out).mono ?_); (case side1 => repeat (first | exact HR0.out | (with_reducible refine Kd.C_alloc ?_ _) | (with_reducible refine Kd.C_drewN ?_ _) | (with_reducible refine Kd.C_drew ?_))); (case side2 => exact HC0.out); rintro e w6 ⟨rfl, hb⟩; refine ⟨_, rfl, ?_⟩; have n0_ := Aside0.mk (below_step (by repeat (first | (with_reducible first | exact HB.out | apply below_alloc | apply pw_below_drewN | apply below_drew1) | exact HB.out)) hb); clear HB; have HB := n0_; clear n0_; (try clear hb); (try clear hb2); (try clear hk); (try clear hi)) | ((with_reducible refine gate_callee (f := 17) rfl ?_); refine goesL_ (some 14) rfl rfl Try.func17 (by kernel_rfl) rfl #[.slice A0 l0.length c0] rfl (by (try simp only [List.map_toArray, List.map_cons, List.map_nil]); first | done | rfl | (simp only [List.length_drop, List.length_take]; rfl)) ?_; (with_reducible refine (codes_Turn.calls k _ _ l0 t111 _ ?side1 ?side2 A3.out).mono ?_); (case side1 => repeat (first | exact (Kd.C_below HR0.out HB.out) | (with_reducible refine Kd.C_alloc ?_ _) | (with_reducible refine Kd.C_drewN ?_ _) | (with_reducible refine Kd.C_drew ?_))); (case side2 => exact HC0.out); rintro e w7 ⟨v112, rfl, ho0, hb⟩; refine ⟨_, rfl, ?_⟩; have n0_ := Aside0.mk (Kd.R_lower ho0 (below_size (by repeat (first | (with_reducible first | exact HB.out | apply below_alloc | apply pw_below_drewN | apply below_drew1) | exact HB.out)))); have n1_ := Aside0.mk (below_step (by repeat (first | (with_reducible first | exact HB.out | apply below_alloc | apply pw_below_drewN | apply below_drew1) | exact HB.out)) hb); clear HB; have HO113 := n0_; have HB := n1_; clear n0_ n1_; (try clear hb); (try clear hb2); (try clear hk); (try clear hi); (try clear ho0); obtain ⟨Ao8, co8, eo8⟩ := Kd.R_slice HO113.out; subst eo8) | ((with_reducible refine gate_callee (f := 10) rfl ?_); refine goesL_ (some 15) rfl rfl Try.func10 (by kernel_rfl) rfl #[.slice Ao8 t111.length co8] rfl (by (try simp only [List.map_toArray, List.map_cons, List.map_nil]); first | done | rfl | (simp only [List.length_drop, List.length_take]; rfl)) ?_; (with_reducible refine (codes_Check.calls _ _ t111 t114 t115 _ ?side1 ?side2 A4.out).mono ?_); (case side1 => repeat (first | exact (Kd.R_reads' HO113.out).2.2 | (with_reducible refine Kd.C_alloc ?_ _) | (with_reducible refine Kd.C_drewN ?_ _) | (with_reducible refine Kd.C_drew ?_))); (case side2 => exact (Kd.R_reads' HO113.out).2.1); rintro e w9 ⟨rfl, hb⟩; refine ⟨_, rfl, ?_⟩; have n0_ := Aside0.mk (Kd.R_below (by (with_reducible repeat (first | apply Kd.R_alloc | apply Kd.R_drewN | apply Kd.R_drew)); exact HO113.out) hb); have n1_ := Aside0.mk (below_step (by repeat (first | (with_reducible first | exact HB.out | apply below_alloc | apply pw_below_drewN | apply below_drew1) | exact HB.out)) hb); clear HO113; clear HB; have HO113 := n0_; have HB := n1_; clear n0_ n1_; (try clear hb); (try clear hb2); (try clear hk); (try clear hi)))
    go_ret
    exact ⟨by first | rfl | (simp [errW_none, errW_some] <;> rfl) | (simp [*, errW_none, errW_some] <;> rfl), by repeat (first | (with_reducible first | exact HB.out | apply below_alloc | apply pw_below_drewN | apply below_drew1) | exact HB.out)⟩
  · rw [if_neg c5] at H
    have c5b0 : (t109 == 0) = false := beq_eq_false_iff_ne.mpr c5
    have c5b1 : (t109 != 0) = true := bne_iff_ne.mpr c5
    obtain rfl := Option.some.inj H
    go_enter Try.func13, Try.ntmps13
    go_wp2_with (first | ((with_reducible refine gate_callee (f := 10) rfl ?_); refine goesL_ (some 9) rfl rfl Try.func10 (by kernel_rfl) rfl #[.slice A0 l0.length c0] rfl (by (try simp only [List.map_toArray, List.map_cons, List.map_nil]); first | done | rfl | (simp only [List.length_drop, List.length_take]; rfl)) ?_; (with_reducible refine (codes_Check.calls _ _ l0 t109 t110 _ ?side1 ?side2 A2.out).mono ?_); (case side1 => repeat (first | exact HR0.out | (with_reducible refine Kd.C_alloc ?_ _) | (with_reducible refine Kd.C_drewN ?_ _) | (with_reducible refine Kd.C_drew ?_))); (case side2 => exact HC0.out); rintro e w10 ⟨rfl, hb⟩; refine ⟨_, rfl, ?_⟩; have n0_ := Aside0.mk (below_step (by repeat (first | (with_reducible first | exact HB.out | apply below_alloc | apply pw_below_drewN | apply below_drew1) | exact HB.out)) hb); clear HB; have HB := n0_; clear n0_; (try clear hb); (try clear hb2); (try clear hk); (try clear hi)) | ((with_reducible refine gate_callee (f := 17) rfl ?_); refine goesL_ (some 14) rfl rfl Try.func17 (by kernel_rfl) rfl #[.slice A0 l0.length c0] rfl (by (try simp only [List.map_toArray, List.map_cons, List.map_nil]); first | done | rfl | (simp only [List.length_drop, List.length_take]; rfl)) ?_; (with_reducible refine (codes_Turn.calls k _ _ l0 t111 _ ?side1 ?side2 A3.out).mono ?_); (case side1 => repeat (first | exact (Kd.C_below HR0.out HB.out) | (with_reducible refine Kd.C_alloc ?_ _) | (with_reducible refine Kd.C_drewN ?_ _) | (with_reducible refine Kd.C_drew ?_))); (case side2 => exact HC0.out); rintro e w11 ⟨v112, rfl, ho0, hb⟩; refine ⟨_, rfl, ?_⟩; have n0_ := Aside0.mk (Kd.R_lower ho0 (below_size (by repeat (first | (with_reducible first | exact HB.out | apply below_alloc | apply pw_below_drewN | apply below_drew1) | exact HB.out)))); have n1_ := Aside0.mk (below_step (by repeat (first | (with_reducible first | exact HB.out | apply below_alloc | apply pw_below_drewN | apply below_drew1) | exact HB.out)) hb); clear HB; have HO113 := n0_; have HB := n1_; clear n0_ n1_; (try clear hb); (try clear hb2); (try clear hk); (try clear hi); (try clear ho0); obtain ⟨Ao12, co12, eo12⟩ := Kd.R_slice HO113.out; subst eo12) | ((with_reducible refine gate_callee (f := 10) rfl ?_); refine goesL_ (some 15) rfl rfl Try.func10 (by kernel_rfl) rfl #[.slice Ao12 t111.length co12] rfl (by (try simp only [List.map_toArray, List.map_cons, List.map_nil]); first | done | rfl | (simp only [List.length_drop, List.length_take]; rfl)) ?_; (with_reducible refine (codes_Check.calls _ _ t111 t114 t115 _ ?side1 ?side2 A4.out).mono ?_); (case side1 => repeat (first | exact (Kd.R_reads' HO113.out).2.2 | (with_reducible refine Kd.C_alloc ?_ _) | (with_reducible refine Kd.C_drewN ?_ _) | (with_reducible refine Kd.C_drew ?_))); (case side2 => exact (Kd.R_reads' HO113.out).2.1); rintro e w13 ⟨rfl, hb⟩; refine ⟨_, rfl, ?_⟩; have n0_ := Aside0.mk (Kd.R_below (by (with_reducible repeat (first | apply Kd.R_alloc | apply Kd.R_drewN | apply Kd.R_drew)); exact HO113.out) hb); have n1_ := Aside0.mk (below_step (by repeat (first | (with_reducible first | exact HB.out | apply below_alloc | apply pw_below_drewN | apply below_drew1) | exact HB.out)) hb); clear HO113; clear HB; have HO113 := n0_; have HB := n1_; clear n0_ n1_; (try clear hb); (try clear hb2); (try clear hk); (try clear hi)))
    go_ret
    exact ⟨by first | rfl | (simp [errW_none, errW_some] <;> rfl) | (simp [*, errW_none, errW_some] <;> rfl), by repeat (first | (with_reducible first | exact HB.out | apply below_alloc | apply pw_below_drewN | apply below_drew1) | exact HB.out)⟩

/-! ### codes_Apply: function 15 -/
def codes_Apply.l0 : Nat → ByteArray → List (S40) → Int → Int → Option (ByteArray × Bool)
  | 0, _, _, _, _ => none
  | k + 1, x1, x8, x9, x10 => if x10 < x9 then (if 0 ≤ x10 then (if x10 < (x8.length : Int) then (if ((rd_T40 x8 x10).f0).toList = x1.toList then (some ((rd_T40 x8 x10).f1, true)) else (codes_Apply.l0 k x1 x8 x9 (wrap64 (x10 + 1)))) else (none)) else (none)) else (some ((⟨#[]⟩ : ByteArray), false))
def codes_Apply.f (k : Nat) (l0 : List (S40)) (a1 : ByteArray) : Option (ByteArray × Bool) := codes_Apply.l0 k a1 l0 (l0.length : Int) 0
theorem codes_Apply.mono_l : ∀ k, (∀ y0 y1 y2 y3, LeO (codes_Apply.l0 k y0 y1 y2 y3) (codes_Apply.l0 (k + 1) y0 y1 y2 y3))
  | 0 => fun _ _ _ _ r h => by simp [codes_Apply.l0] at h
  | k + 1 => by
    have ih0 := codes_Apply.mono_l k
    · intro y0 y1 y2 y3
      unfold codes_Apply.l0
      repeat' first
      | (with_reducible exact ih0 _ _ _ _)
      | (with_reducible exact LeO.refl _)
      | (with_reducible exact LeO.none _)
      | (with_reducible refine LeO.ite ?_ ?_)
      | (with_reducible refine LeO.bind ?_ (fun _ => ?_))
      | exact ih0 _ _ _ _
      | exact LeO.none _
      | refine LeO.ite ?_ ?_
      | refine LeO.bind ?_ (fun _ => ?_)
theorem codes_Apply.mono : ∀ a0 a1 k, LeO (codes_Apply.f k a0 a1) (codes_Apply.f (k + 1) a0 a1) := by
  intro a0 a1 k
  have ih0 := codes_Apply.mono_l k
  unfold codes_Apply.f
  repeat' first
      | (with_reducible exact ih0 _ _ _ _)
      | (with_reducible exact LeO.refl _)
      | (with_reducible exact LeO.none _)
      | (with_reducible refine LeO.ite ?_ ?_)
      | (with_reducible refine LeO.bind ?_ (fun _ => ?_))
      | exact ih0 _ _ _ _
      | exact LeO.none _
      | refine LeO.ite ?_ ?_
      | refine LeO.bind ?_ (fun _ => ?_)
set_option maxHeartbeats 8000000 in
set_option maxRecDepth 100000 in
theorem codes_Apply.calls (k : Nat) (A0 : Option Addr) (c0 : Nat) (l0 : List (S40)) (a1 : ByteArray) (r1 : ByteArray) (r2 : Bool) (w : World) (hr0 : Kd.C k40 w A0 l0.length l0) (hc0 : l0.length ≤ c0) (h : codes_Apply.f k l0 a1 = some (r1, r2)) :
    Calls Try.prog 15 #[.slice A0 l0.length c0, .string a1] w fun e w' => e = .returned (.tuple #[.string r1, .bool r2]) ∧ Below w.heap.size w w' := by
  have hu40 := Try.underlying40
  have HR0 := Aside0.mk hr0
  have HC0 := Aside0.mk hc0
  clear hr0 hc0
  have HB := Aside0.mk (Below.refl w.heap.size w)
  have H : (codes_Apply.l0 k a1 l0 (l0.length : Int) 0) = some (r1, r2) := h
  clear h
  have H' := Aside0.mk H
  clear H
  go_enter Try.func15, Try.ntmps15
  go_wp2
  go_loopg [10] k (fun kq v10 w' => ∃ (x10_1 : Int), v10 = .int .i64 x10_1 ∧ Aside0 (codes_Apply.l0 kq a1 l0 (l0.length : Int) x10_1 = some (r1, r2)) ∧ Aside0 (kq ≤ k) ∧ Aside0 (Below w.heap.size w w'))
  case atStart => exact ⟨(0), (by first | rfl | (simp; done) | (simp [*]; done)), H', ⟨Nat.le_refl _⟩, ⟨by repeat (first | (with_reducible first | exact HB.out | apply below_alloc | apply pw_below_drewN | apply below_drew1) | exact HB.out)⟩⟩
  case round =>
    clear H'
    try clear c1
    try clear p2
    obtain ⟨x10_1, rfl, HA, HK1, HB⟩ := hrel
    cases gk with
    | zero => exact absurd HA.out (by simp [codes_Apply.l0])
    | succ k1 =>
      have H := HA.out
      clear HA
      simp only [codes_Apply.l0] at H
      by_cases c3 : x10_1 < (l0.length : Int)
      · rw [if_pos c3] at H
        have c3b0 : decide (x10_1 < (l0.length : Int)) = true := decide_eq_true c3
        clear c3
        by_cases c4 : 0 ≤ x10_1
        · rw [if_pos c4] at H
          have c4b0 : decide (0 ≤ x10_1) = true := decide_eq_true c4
          clear c4
          by_cases c5 : x10_1 < (l0.length : Int)
          · rw [if_pos c5] at H
            have c5b0 : decide (x10_1 < (l0.length : Int)) = true := decide_eq_true c5
            clear c5
            by_cases c6 : ((rd_T40 l0 x10_1).f0).toList = a1.toList
            · rw [if_pos c6] at H
              have c6b0 : (((rd_T40 l0 x10_1).f0).toList == a1.toList) = true := beq_iff_eq.mpr c6
              have c6b1 : (((rd_T40 l0 x10_1).f0).toList != a1.toList) = false := bne_eq_false_iff_eq.mpr c6
              clear c6
              simp only [Option.some.injEq, Prod.mk.injEq] at H
              obtain ⟨rfl, rfl⟩ := H
              have p116 : 0 ≤ (x10_1 : Int) := of_decide_eq_true (by first | (with_reducible assumption) | assumption)
              have q116 : x10_1 < (l0.length : Int) := of_decide_eq_true (by first | (with_reducible assumption) | assumption)
              obtain ⟨ad116, e116, hx116_0, hx116_1⟩ := at_T40 HR0.out x10_1 p116 q116
              cases e116
              replace hx116_0 := (HB.out.cell (World.block_lt_of_cell? w _ hx116_0)).trans hx116_0
              replace hx116_1 := (HB.out.cell (World.block_lt_of_cell? w _ hx116_1)).trans hx116_1
              replace p116 := eq_true p116
              replace q116 := eq_true q116
              go_wp2_with (first | ((with_reducible refine gate_dst (N := 7) rfl ?_); refine box_event ?hg (N := 7) ?hd (cs := #[.string (⟨#[]⟩ : ByteArray), .string (⟨#[]⟩ : ByteArray)]) (t := 40) ?hr ?_; (case hd => rfl); (case hg => rfl); (case hr => first | (go_simp; done) | (go_simp; rfl)); intro gb117 hg w7 hbox hb; have n0_ := Aside0.mk (below_step (by repeat (first | (with_reducible first | exact HB.out | apply below_alloc | apply pw_below_drewN | apply below_drew1) | exact HB.out)) hb); have n1_ := Aside0.mk (hbox); have n2_ := Aside0.mk ((by rw [hg]; exact (below_size (by repeat (first | (with_reducible first | exact HB.out | apply below_alloc | apply pw_below_drewN | apply below_drew1) | exact HB.out))) : w.heap.size ≤ gb117)); have n3_ := Aside0.mk ((by rw [hg]; exact (below_size (by repeat (first | (with_reducible first | exact HB.out | apply below_alloc | apply pw_below_drewN | apply below_drew1) | exact HB.out))) : w.heap.size ≤ gb117)); clear HB; have HB := n0_; have BK117 := n1_; have GW117 := n2_; have GE117 := n3_; clear n0_ n1_ n2_ n3_; clear hb hbox hg; have hcz8_0 : w7.cell? ⟨gb117, 0, none⟩ = some (.string (⟨#[]⟩ : ByteArray)) := (blk_cell BK117.out 0).trans rfl; have hcz8_1 : w7.cell? ⟨gb117, 1, none⟩ = some (.string (⟨#[]⟩ : ByteArray)) := (blk_cell BK117.out 1).trans rfl; have hfz8_0 := blk_frozen BK117.out 0; have hfz8_1 := blk_frozen BK117.out 1))
              go_ret2
              exact ⟨by first | rfl | (simp [errW_none, errW_some] <;> rfl) | (simp [*, errW_none, errW_some] <;> rfl), by repeat (first | (with_reducible first | exact HB.out | apply below_alloc | apply pw_below_drewN | apply below_drew1 | refine below_set ?_ GE117.out) | exact HB.out)⟩
            · rw [if_neg c6] at H
              have c6b0 : (((rd_T40 l0 x10_1).f0).toList == a1.toList) = false := beq_eq_false_iff_ne.mpr c6
              have c6b1 : (((rd_T40 l0 x10_1).f0).toList != a1.toList) = true := bne_iff_ne.mpr c6
              have H' := Aside0.mk H
              clear H
              have p116 : 0 ≤ (x10_1 : Int) := of_decide_eq_true (by first | (with_reducible assumption) | assumption)
              have q116 : x10_1 < (l0.length : Int) := of_decide_eq_true (by first | (with_reducible assumption) | assumption)
              obtain ⟨ad116, e116, hx116_0, hx116_1⟩ := at_T40 HR0.out x10_1 p116 q116
              cases e116
              replace hx116_0 := (HB.out.cell (World.block_lt_of_cell? w _ hx116_0)).trans hx116_0
              replace hx116_1 := (HB.out.cell (World.block_lt_of_cell? w _ hx116_1)).trans hx116_1
              replace p116 := eq_true p116
              replace q116 := eq_true q116
              go_wp2_with (first | ((with_reducible refine gate_dst (N := 7) rfl ?_); refine box_event ?hg (N := 7) ?hd (cs := #[.string (⟨#[]⟩ : ByteArray), .string (⟨#[]⟩ : ByteArray)]) (t := 40) ?hr ?_; (case hd => rfl); (case hg => rfl); (case hr => first | (go_simp; done) | (go_simp; rfl)); intro gb117 hg w9 hbox hb; have n0_ := Aside0.mk (below_step (by repeat (first | (with_reducible first | exact HB.out | apply below_alloc | apply pw_below_drewN | apply below_drew1) | exact HB.out)) hb); have n1_ := Aside0.mk (hbox); have n2_ := Aside0.mk ((by rw [hg]; exact (below_size (by repeat (first | (with_reducible first | exact HB.out | apply below_alloc | apply pw_below_drewN | apply below_drew1) | exact HB.out))) : w.heap.size ≤ gb117)); have n3_ := Aside0.mk ((by rw [hg]; exact (below_size (by repeat (first | (with_reducible first | exact HB.out | apply below_alloc | apply pw_below_drewN | apply below_drew1) | exact HB.out))) : w.heap.size ≤ gb117)); clear HB; have HB := n0_; have BK117 := n1_; have GW117 := n2_; have GE117 := n3_; clear n0_ n1_ n2_ n3_; clear hb hbox hg; have hcz10_0 : w9.cell? ⟨gb117, 0, none⟩ = some (.string (⟨#[]⟩ : ByteArray)) := (blk_cell BK117.out 0).trans rfl; have hcz10_1 : w9.cell? ⟨gb117, 1, none⟩ = some (.string (⟨#[]⟩ : ByteArray)) := (blk_cell BK117.out 1).trans rfl; have hfz10_0 := blk_frozen BK117.out 0; have hfz10_1 := blk_frozen BK117.out 1))
              go_roundg k1
              case measure => have := HK1.out; omega
              case rel => exact ⟨(wrap64 (x10_1 + 1)), (by first | rfl | (simp; done) | (simp [*]; done)), H', ⟨by have := HK1.out; omega⟩, ⟨by repeat (first | (with_reducible first | exact HB.out | apply below_alloc | apply pw_below_drewN | apply below_drew1 | refine below_set ?_ GE117.out) | exact HB.out)⟩⟩
          · rw [if_neg c5] at H
            exact absurd H (by simp)
        · rw [if_neg c4] at H
          exact absurd H (by simp)
      · rw [if_neg c3] at H
        have c3b0 : decide (x10_1 < (l0.length : Int)) = false := decide_eq_false c3
        clear c3
        simp only [Option.some.injEq, Prod.mk.injEq] at H
        obtain ⟨rfl, rfl⟩ := H
        go_wp2
        go_ret2
        exact ⟨by first | rfl | (simp [errW_none, errW_some] <;> rfl) | (simp [*, errW_none, errW_some] <;> rfl), by repeat (first | (with_reducible first | exact HB.out | apply below_alloc | apply pw_below_drewN | apply below_drew1) | exact HB.out)⟩

/-! ### groatlaw19_awake: function 8 -/
def groatlaw19_awake.f (k : Nat)  : Option (Bool) := (some (([(⟨(⟨#[48, 48]⟩ : ByteArray), (⟨#[48, 48, 48]⟩ : ByteArray)⟩ : S40), (⟨(⟨#[48, 53]⟩ : ByteArray), (⟨#[49, 48, 48]⟩ : ByteArray)⟩ : S40)] : List (S40)) : List (S40))).bind fun y118 => ((codes_Apply.f k y118 (⟨#[48, 53]⟩ : ByteArray)).bind fun bt121 => ((codes_Apply.f k y118 (⟨#[48, 54]⟩ : ByteArray)).bind fun bt123 => ((codes_Turn.f k y118).bind fun t125 => ((codes_Apply.f k t125 (⟨#[49, 48, 48]⟩ : ByteArray)).bind fun bt128 => (if 0 < (y118.length : Int) then (if 1 < (y118.length : Int) then ((codes_Check.f (([(⟨(rd_T40 y118 0).f0, (rd_T40 y118 0).f1⟩ : S40), (⟨(rd_T40 y118 1).f0, (rd_T40 y118 1).f1⟩ : S40), (⟨(rd_T40 y118 0).f0, (rd_T40 y118 0).f1⟩ : S40)] : List (S40)))).bind fun bt136 => (if bt121.1.toList = ([49, 48, 48] : List UInt8) then (if bt121.2 = true then (if bt123.2 = true then (none) else (if bt128.1.toList = ([48, 53] : List UInt8) then (if bt128.2 = true then (if bt136.1 = 10 then (if bt136.2 = 2 then ((codes_Bijective.f k y118).bind fun t138 => (if t138 = true then ((codes_Bijective.f k (([(⟨(rd_T40 y118 0).f0, (rd_T40 y118 0).f1⟩ : S40), (⟨(⟨#[48, 49]⟩ : ByteArray), (⟨#[48, 48, 48]⟩ : ByteArray)⟩ : S40)] : List (S40)))).bind fun t143 => (if t143 = true then (none) else ((codes_Bijective.f k ([] : List (S40))).bind fun t144 => (some t144)))) else (none))) else (none)) else (none)) else (none)) else (none))) else (none)) else (none))) else (none)) else (none))))))
theorem groatlaw19_awake.mono : ∀ k, LeO (groatlaw19_awake.f k ) (groatlaw19_awake.f (k + 1) ) := by
  intro  k
  unfold groatlaw19_awake.f
  repeat' first
      | (with_reducible exact codes_Apply.mono _ _ _)
      | (with_reducible exact codes_Bijective.mono _ _)
      | (with_reducible exact codes_Turn.mono _ _)
      | (with_reducible exact LeO.refl _)
      | (with_reducible exact LeO.none _)
      | (with_reducible refine LeO.ite ?_ ?_)
      | (with_reducible refine LeO.bind ?_ (fun _ => ?_))
      | exact codes_Apply.mono _ _ _
      | exact codes_Bijective.mono _ _
      | exact codes_Turn.mono _ _
      | exact LeO.none _
      | refine LeO.ite ?_ ?_
      | refine LeO.bind ?_ (fun _ => ?_)
def groatlaw19_awake.T5 : Bool × List (List Nat × List Nat) := (true, [([], []), ([0], [0]), ([1], [1]), ([], []), ([3], [3]), ([4], [4]), ([], []), ([6], [6]), ([7], [7]), ([2, 5, 8], [2, 5, 8]), ([9], [9]), ([10], [10]), ([11], [11]), ([11], [11]), ([12, 10, 0, 1, 2, 3, 4, 5, 6, 7, 8, 9, 10, 11, 12], [12]), ([13, 14, 0, 1, 2, 3, 4, 5, 6, 7, 8, 9, 10, 11, 12, 13, 14], [13])])
def groatlaw19_awake.B5 : List Nat := [0, 1, 3, 0, 8, 24, 0, 64, 192, 511, 1023, 2047, 4095, 4095, 8191, 32767]
theorem groatlaw19_awake.tab5 : rtab .any (opsOf Try.f8 5) = groatlaw19_awake.T5 := by kernel_rfl
theorem groatlaw19_awake.bits5 : waitsOk groatlaw19_awake.T5.2 groatlaw19_awake.B5 = true := by kernel_rfl
set_option maxHeartbeats 8000000 in
set_option maxRecDepth 100000 in
theorem groatlaw19_awake.calls (k : Nat)  (r : Bool) (w : World) (h : groatlaw19_awake.f k  = some r) :
    Calls Try.prog 8 #[] w fun e w' => e = .returned (.bool r) ∧ Below w.heap.size w w' := by
  have hu40 := Try.underlying40
  have HB := Aside0.mk (Below.refl w.heap.size w)
  have H : ((some (([(⟨(⟨#[48, 48]⟩ : ByteArray), (⟨#[48, 48, 48]⟩ : ByteArray)⟩ : S40), (⟨(⟨#[48, 53]⟩ : ByteArray), (⟨#[49, 48, 48]⟩ : ByteArray)⟩ : S40)] : List (S40)) : List (S40))).bind fun y118 => ((codes_Apply.f k y118 (⟨#[48, 53]⟩ : ByteArray)).bind fun bt121 => ((codes_Apply.f k y118 (⟨#[48, 54]⟩ : ByteArray)).bind fun bt123 => ((codes_Turn.f k y118).bind fun t125 => ((codes_Apply.f k t125 (⟨#[49, 48, 48]⟩ : ByteArray)).bind fun bt128 => (if 0 < (y118.length : Int) then (if 1 < (y118.length : Int) then ((codes_Check.f (([(⟨(rd_T40 y118 0).f0, (rd_T40 y118 0).f1⟩ : S40), (⟨(rd_T40 y118 1).f0, (rd_T40 y118 1).f1⟩ : S40), (⟨(rd_T40 y118 0).f0, (rd_T40 y118 0).f1⟩ : S40)] : List (S40)))).bind fun bt136 => (if bt121.1.toList = ([49, 48, 48] : List UInt8) then (if bt121.2 = true then (if bt123.2 = true then (none) else (if bt128.1.toList = ([48, 53] : List UInt8) then (if bt128.2 = true then (if bt136.1 = 10 then (if bt136.2 = 2 then ((codes_Bijective.f k y118).bind fun t138 => (if t138 = true then ((codes_Bijective.f k (([(⟨(rd_T40 y118 0).f0, (rd_T40 y118 0).f1⟩ : S40), (⟨(⟨#[48, 49]⟩ : ByteArray), (⟨#[48, 48, 48]⟩ : ByteArray)⟩ : S40)] : List (S40)))).bind fun t143 => (if t143 = true then (none) else ((codes_Bijective.f k ([] : List (S40))).bind fun t144 => (some t144)))) else (none))) else (none)) else (none)) else (none)) else (none))) else (none)) else (none))) else (none)) else (none))))))) = some r := h
  clear h
  obtain ⟨y118, hy118⟩ : ∃ y_ : List (S40), y_ = (([(⟨(⟨#[48, 48]⟩ : ByteArray), (⟨#[48, 48, 48]⟩ : ByteArray)⟩ : S40), (⟨(⟨#[48, 53]⟩ : ByteArray), (⟨#[49, 48, 48]⟩ : ByteArray)⟩ : S40)] : List (S40))) := ⟨_, rfl⟩
  replace H : ((codes_Apply.f k y118 (⟨#[48, 53]⟩ : ByteArray)).bind fun bt121 => ((codes_Apply.f k y118 (⟨#[48, 54]⟩ : ByteArray)).bind fun bt123 => ((codes_Turn.f k y118).bind fun t125 => ((codes_Apply.f k t125 (⟨#[49, 48, 48]⟩ : ByteArray)).bind fun bt128 => (if 0 < (y118.length : Int) then (if 1 < (y118.length : Int) then ((codes_Check.f (([(⟨(rd_T40 y118 0).f0, (rd_T40 y118 0).f1⟩ : S40), (⟨(rd_T40 y118 1).f0, (rd_T40 y118 1).f1⟩ : S40), (⟨(rd_T40 y118 0).f0, (rd_T40 y118 0).f1⟩ : S40)] : List (S40)))).bind fun bt136 => (if bt121.1.toList = ([49, 48, 48] : List UInt8) then (if bt121.2 = true then (if bt123.2 = true then (none) else (if bt128.1.toList = ([48, 53] : List UInt8) then (if bt128.2 = true then (if bt136.1 = 10 then (if bt136.2 = 2 then ((codes_Bijective.f k y118).bind fun t138 => (if t138 = true then ((codes_Bijective.f k (([(⟨(rd_T40 y118 0).f0, (rd_T40 y118 0).f1⟩ : S40), (⟨(⟨#[48, 49]⟩ : ByteArray), (⟨#[48, 48, 48]⟩ : ByteArray)⟩ : S40)] : List (S40)))).bind fun t143 => (if t143 = true then (none) else ((codes_Bijective.f k ([] : List (S40))).bind fun t144 => (some t144)))) else (none))) else (none)) else (none)) else (none)) else (none))) else (none)) else (none))) else (none)) else (none)))))) = some r := by first | (rw [hy118]; with_reducible exact H) | (have H2_ := (Option.bind_some _ _).symm.trans H; rw [hy118]; with_reducible exact H2_) | (have H2_ := (Option.bind_some _ _).symm.trans H; with_reducible exact H2_) | with_reducible exact H | (rw [hy118]; exact H) | exact H
  have Ny118 := Aside0.mk hy118
  clear hy118
  replace H := Option.bind_eq_some_iff.mp H
  obtain ⟨⟨t121, t122⟩, A10, H⟩ := H
  replace H : ((codes_Apply.f k y118 (⟨#[48, 54]⟩ : ByteArray)).bind fun bt123 => ((codes_Turn.f k y118).bind fun t125 => ((codes_Apply.f k t125 (⟨#[49, 48, 48]⟩ : ByteArray)).bind fun bt128 => (if 0 < (y118.length : Int) then (if 1 < (y118.length : Int) then ((codes_Check.f (([(⟨(rd_T40 y118 0).f0, (rd_T40 y118 0).f1⟩ : S40), (⟨(rd_T40 y118 1).f0, (rd_T40 y118 1).f1⟩ : S40), (⟨(rd_T40 y118 0).f0, (rd_T40 y118 0).f1⟩ : S40)] : List (S40)))).bind fun bt136 => (if t121.toList = ([49, 48, 48] : List UInt8) then (if t122 = true then (if bt123.2 = true then (none) else (if bt128.1.toList = ([48, 53] : List UInt8) then (if bt128.2 = true then (if bt136.1 = 10 then (if bt136.2 = 2 then ((codes_Bijective.f k y118).bind fun t138 => (if t138 = true then ((codes_Bijective.f k (([(⟨(rd_T40 y118 0).f0, (rd_T40 y118 0).f1⟩ : S40), (⟨(⟨#[48, 49]⟩ : ByteArray), (⟨#[48, 48, 48]⟩ : ByteArray)⟩ : S40)] : List (S40)))).bind fun t143 => (if t143 = true then (none) else ((codes_Bijective.f k ([] : List (S40))).bind fun t144 => (some t144)))) else (none))) else (none)) else (none)) else (none)) else (none))) else (none)) else (none))) else (none)) else (none))))) = some r := H
  have A1 := Aside0.mk A10
  clear A10
  replace H := Option.bind_eq_some_iff.mp H
  obtain ⟨⟨t123, t124⟩, A20, H⟩ := H
  replace H : ((codes_Turn.f k y118).bind fun t125 => ((codes_Apply.f k t125 (⟨#[49, 48, 48]⟩ : ByteArray)).bind fun bt128 => (if 0 < (y118.length : Int) then (if 1 < (y118.length : Int) then ((codes_Check.f (([(⟨(rd_T40 y118 0).f0, (rd_T40 y118 0).f1⟩ : S40), (⟨(rd_T40 y118 1).f0, (rd_T40 y118 1).f1⟩ : S40), (⟨(rd_T40 y118 0).f0, (rd_T40 y118 0).f1⟩ : S40)] : List (S40)))).bind fun bt136 => (if t121.toList = ([49, 48, 48] : List UInt8) then (if t122 = true then (if t124 = true then (none) else (if bt128.1.toList = ([48, 53] : List UInt8) then (if bt128.2 = true then (if bt136.1 = 10 then (if bt136.2 = 2 then ((codes_Bijective.f k y118).bind fun t138 => (if t138 = true then ((codes_Bijective.f k (([(⟨(rd_T40 y118 0).f0, (rd_T40 y118 0).f1⟩ : S40), (⟨(⟨#[48, 49]⟩ : ByteArray), (⟨#[48, 48, 48]⟩ : ByteArray)⟩ : S40)] : List (S40)))).bind fun t143 => (if t143 = true then (none) else ((codes_Bijective.f k ([] : List (S40))).bind fun t144 => (some t144)))) else (none))) else (none)) else (none)) else (none)) else (none))) else (none)) else (none))) else (none)) else (none)))) = some r := H
  have A2 := Aside0.mk A20
  clear A20
  replace H := Option.bind_eq_some_iff.mp H
  obtain ⟨t125, A30, H⟩ := H
  replace H : ((codes_Apply.f k t125 (⟨#[49, 48, 48]⟩ : ByteArray)).bind fun bt128 => (if 0 < (y118.length : Int) then (if 1 < (y118.length : Int) then ((codes_Check.f (([(⟨(rd_T40 y118 0).f0, (rd_T40 y118 0).f1⟩ : S40), (⟨(rd_T40 y118 1).f0, (rd_T40 y118 1).f1⟩ : S40), (⟨(rd_T40 y118 0).f0, (rd_T40 y118 0).f1⟩ : S40)] : List (S40)))).bind fun bt136 => (if t121.toList = ([49, 48, 48] : List UInt8) then (if t122 = true then (if t124 = true then (none) else (if bt128.1.toList = ([48, 53] : List UInt8) then (if bt128.2 = true then (if bt136.1 = 10 then (if bt136.2 = 2 then ((codes_Bijective.f k y118).bind fun t138 => (if t138 = true then ((codes_Bijective.f k (([(⟨(rd_T40 y118 0).f0, (rd_T40 y118 0).f1⟩ : S40), (⟨(⟨#[48, 49]⟩ : ByteArray), (⟨#[48, 48, 48]⟩ : ByteArray)⟩ : S40)] : List (S40)))).bind fun t143 => (if t143 = true then (none) else ((codes_Bijective.f k ([] : List (S40))).bind fun t144 => (some t144)))) else (none))) else (none)) else (none)) else (none)) else (none))) else (none)) else (none))) else (none)) else (none))) = some r := H
  have A3 := Aside0.mk A30
  clear A30
  replace H := Option.bind_eq_some_iff.mp H
  obtain ⟨⟨t128, t129⟩, A40, H⟩ := H
  replace H : (if 0 < (y118.length : Int) then (if 1 < (y118.length : Int) then ((codes_Check.f (([(⟨(rd_T40 y118 0).f0, (rd_T40 y118 0).f1⟩ : S40), (⟨(rd_T40 y118 1).f0, (rd_T40 y118 1).f1⟩ : S40), (⟨(rd_T40 y118 0).f0, (rd_T40 y118 0).f1⟩ : S40)] : List (S40)))).bind fun bt136 => (if t121.toList = ([49, 48, 48] : List UInt8) then (if t122 = true then (if t124 = true then (none) else (if t128.toList = ([48, 53] : List UInt8) then (if t129 = true then (if bt136.1 = 10 then (if bt136.2 = 2 then ((codes_Bijective.f k y118).bind fun t138 => (if t138 = true then ((codes_Bijective.f k (([(⟨(rd_T40 y118 0).f0, (rd_T40 y118 0).f1⟩ : S40), (⟨(⟨#[48, 49]⟩ : ByteArray), (⟨#[48, 48, 48]⟩ : ByteArray)⟩ : S40)] : List (S40)))).bind fun t143 => (if t143 = true then (none) else ((codes_Bijective.f k ([] : List (S40))).bind fun t144 => (some t144)))) else (none))) else (none)) else (none)) else (none)) else (none))) else (none)) else (none))) else (none)) else (none)) = some r := H
  have A4 := Aside0.mk A40
  clear A40
  by_cases c5 : 0 < (y118.length : Int)
  · rw [if_pos c5] at H
    have c5b0 : decide (0 < (y118.length : Int)) = true := decide_eq_true c5
    have c5b1 : decide (0 < y118.length) = true := decide_eq_true (by omega)
    clear c5
    by_cases c6 : 1 < (y118.length : Int)
    · rw [if_pos c6] at H
      have c6b0 : decide (1 < (y118.length : Int)) = true := decide_eq_true c6
      have c6b1 : decide (1 < y118.length) = true := decide_eq_true (by omega)
      clear c6
      obtain ⟨y133, hy133⟩ : ∃ y_ : List (S40), y_ = (([(⟨(rd_T40 y118 0).f0, (rd_T40 y118 0).f1⟩ : S40), (⟨(rd_T40 y118 1).f0, (rd_T40 y118 1).f1⟩ : S40), (⟨(rd_T40 y118 0).f0, (rd_T40 y118 0).f1⟩ : S40)] : List (S40))) := ⟨_, rfl⟩
      replace H : ((codes_Check.f y133).bind fun bt136 => (if t121.toList = ([49, 48, 48] : List UInt8) then (if t122 = true then (if t124 = true then (none) else (if t128.toList = ([48, 53] : List UInt8) then (if t129 = true then (if bt136.1 = 10 then (if bt136.2 = 2 then ((codes_Bijective.f k y118).bind fun t138 => (if t138 = true then ((codes_Bijective.f k (([(⟨(rd_T40 y118 0).f0, (rd_T40 y118 0).f1⟩ : S40), (⟨(⟨#[48, 49]⟩ : ByteArray), (⟨#[48, 48, 48]⟩ : ByteArray)⟩ : S40)] : List (S40)))).bind fun t143 => (if t143 = true then (none) else ((codes_Bijective.f k ([] : List (S40))).bind fun t144 => (some t144)))) else (none))) else (none)) else (none)) else (none)) else (none))) else (none)) else (none))) = some r := by first | (rw [hy133]; with_reducible exact H) | (have H2_ := (Option.bind_some _ _).symm.trans H; rw [hy133]; with_reducible exact H2_) | (have H2_ := (Option.bind_some _ _).symm.trans H; with_reducible exact H2_) | with_reducible exact H | (rw [hy133]; exact H) | exact H
      have Ny133 := Aside0.mk hy133
      clear hy133
      replace H := Option.bind_eq_some_iff.mp H
      obtain ⟨⟨t136, t137⟩, A70, H⟩ := H
      replace H : (if t121.toList = ([49, 48, 48] : List UInt8) then (if t122 = true then (if t124 = true then (none) else (if t128.toList = ([48, 53] : List UInt8) then (if t129 = true then (if t136 = 10 then (if t137 = 2 then ((codes_Bijective.f k y118).bind fun t138 => (if t138 = true then ((codes_Bijective.f k (([(⟨(rd_T40 y118 0).f0, (rd_T40 y118 0).f1⟩ : S40), (⟨(⟨#[48, 49]⟩ : ByteArray), (⟨#[48, 48, 48]⟩ : ByteArray)⟩ : S40)] : List (S40)))).bind fun t143 => (if t143 = true then (none) else ((codes_Bijective.f k ([] : List (S40))).bind fun t144 => (some t144)))) else (none))) else (none)) else (none)) else (none)) else (none))) else (none)) else (none)) = some r := H
      have A7 := Aside0.mk A70
      clear A70
      by_cases c8 : t121.toList = ([49, 48, 48] : List UInt8)
      · rw [if_pos c8] at H
        have c8b0 : (t121.toList == ([49, 48, 48] : List UInt8)) = true := beq_iff_eq.mpr c8
        have c8b1 : (t121.toList != ([49, 48, 48] : List UInt8)) = false := bne_eq_false_iff_eq.mpr c8
        clear c8
        by_cases c9 : t122 = true
        · subst c9
          have H1 : (if t124 = true then (none) else (if t128.toList = ([48, 53] : List UInt8) then (if t129 = true then (if t136 = 10 then (if t137 = 2 then ((codes_Bijective.f k y118).bind fun t138 => (if t138 = true then ((codes_Bijective.f k (([(⟨(rd_T40 y118 0).f0, (rd_T40 y118 0).f1⟩ : S40), (⟨(⟨#[48, 49]⟩ : ByteArray), (⟨#[48, 48, 48]⟩ : ByteArray)⟩ : S40)] : List (S40)))).bind fun t143 => (if t143 = true then (none) else ((codes_Bijective.f k ([] : List (S40))).bind fun t144 => (some t144)))) else (none))) else (none)) else (none)) else (none)) else (none))) = some r := by rw [if_pos rfl] at H; exact H
          clear H
          have H := H1
          clear H1
          by_cases c10 : t124 = true
          · subst c10
            have H1 : (none) = some r := by rw [if_pos rfl] at H; exact H
            clear H
            have H := H1
            clear H1
            exact absurd H (by simp)
          · replace c10 := Bool.eq_false_iff.mpr c10
            subst c10
            have H1 : (if t128.toList = ([48, 53] : List UInt8) then (if t129 = true then (if t136 = 10 then (if t137 = 2 then ((codes_Bijective.f k y118).bind fun t138 => (if t138 = true then ((codes_Bijective.f k (([(⟨(rd_T40 y118 0).f0, (rd_T40 y118 0).f1⟩ : S40), (⟨(⟨#[48, 49]⟩ : ByteArray), (⟨#[48, 48, 48]⟩ : ByteArray)⟩ : S40)] : List (S40)))).bind fun t143 => (if t143 = true then (none) else ((codes_Bijective.f k ([] : List (S40))).bind fun t144 => (some t144)))) else (none))) else (none)) else (none)) else (none)) else (none)) = some r := by rw [if_neg (show ¬ (false = true) by decide)] at H; exact H
            clear H
            have H := H1
            clear H1
            by_cases c11 : t128.toList = ([48, 53] : List UInt8)
            · rw [if_pos c11] at H
              have c11b0 : (t128.toList == ([48, 53] : List UInt8)) = true := beq_iff_eq.mpr c11
              have c11b1 : (t128.toList != ([48, 53] : List UInt8)) = false := bne_eq_false_iff_eq.mpr c11
              clear c11
              by_cases c12 : t129 = true
              · subst c12
                have H1 : (if t136 = 10 then (if t137 = 2 then ((codes_Bijective.f k y118).bind fun t138 => (if t138 = true then ((codes_Bijective.f k (([(⟨(rd_T40 y118 0).f0, (rd_T40 y118 0).f1⟩ : S40), (⟨(⟨#[48, 49]⟩ : ByteArray), (⟨#[48, 48, 48]⟩ : ByteArray)⟩ : S40)] : List (S40)))).bind fun t143 => (if t143 = true then (none) else ((codes_Bijective.f k ([] : List (S40))).bind fun t144 => (some t144)))) else (none))) else (none)) else (none)) = some r := by rw [if_pos rfl] at H; exact H
                clear H
                have H := H1
                clear H1
                by_cases c13 : t136 = 10
                · rw [if_pos c13] at H
                  have c13b0 : (t136 == 10) = true := beq_iff_eq.mpr c13
                  have c13b1 : (t136 != 10) = false := bne_eq_false_iff_eq.mpr c13
                  clear c13
                  by_cases c14 : t137 = 2
                  · rw [if_pos c14] at H
                    have c14b0 : (t137 == 2) = true := beq_iff_eq.mpr c14
                    have c14b1 : (t137 != 2) = false := bne_eq_false_iff_eq.mpr c14
                    clear c14
                    replace H := Option.bind_eq_some_iff.mp H
                    obtain ⟨t138, A150, H⟩ := H
                    replace H : (if t138 = true then ((codes_Bijective.f k (([(⟨(rd_T40 y118 0).f0, (rd_T40 y118 0).f1⟩ : S40), (⟨(⟨#[48, 49]⟩ : ByteArray), (⟨#[48, 48, 48]⟩ : ByteArray)⟩ : S40)] : List (S40)))).bind fun t143 => (if t143 = true then (none) else ((codes_Bijective.f k ([] : List (S40))).bind fun t144 => (some t144)))) else (none)) = some r := H
                    have A15 := Aside0.mk A150
                    clear A150
                    by_cases c16 : t138 = true
                    · subst c16
                      have H1 : ((codes_Bijective.f k (([(⟨(rd_T40 y118 0).f0, (rd_T40 y118 0).f1⟩ : S40), (⟨(⟨#[48, 49]⟩ : ByteArray), (⟨#[48, 48, 48]⟩ : ByteArray)⟩ : S40)] : List (S40)))).bind fun t143 => (if t143 = true then (none) else ((codes_Bijective.f k ([] : List (S40))).bind fun t144 => (some t144)))) = some r := by rw [if_pos rfl] at H; exact H
                      clear H
                      have H := H1
                      clear H1
                      obtain ⟨y140, hy140⟩ : ∃ y_ : List (S40), y_ = (([(⟨(rd_T40 y118 0).f0, (rd_T40 y118 0).f1⟩ : S40), (⟨(⟨#[48, 49]⟩ : ByteArray), (⟨#[48, 48, 48]⟩ : ByteArray)⟩ : S40)] : List (S40))) := ⟨_, rfl⟩
                      replace H : ((codes_Bijective.f k y140).bind fun t143 => (if t143 = true then (none) else ((codes_Bijective.f k ([] : List (S40))).bind fun t144 => (some t144)))) = some r := by first | (rw [hy140]; with_reducible exact H) | (have H2_ := (Option.bind_some _ _).symm.trans H; rw [hy140]; with_reducible exact H2_) | (have H2_ := (Option.bind_some _ _).symm.trans H; with_reducible exact H2_) | with_reducible exact H | (rw [hy140]; exact H) | exact H
                      have Ny140 := Aside0.mk hy140
                      clear hy140
                      replace H := Option.bind_eq_some_iff.mp H
                      obtain ⟨t143, A170, H⟩ := H
                      replace H : (if t143 = true then (none) else ((codes_Bijective.f k ([] : List (S40))).bind fun t144 => (some t144))) = some r := H
                      have A17 := Aside0.mk A170
                      clear A170
                      by_cases c18 : t143 = true
                      · subst c18
                        have H1 : (none) = some r := by rw [if_pos rfl] at H; exact H
                        clear H
                        have H := H1
                        clear H1
                        exact absurd H (by simp)
                      · replace c18 := Bool.eq_false_iff.mpr c18
                        subst c18
                        have H1 : ((codes_Bijective.f k ([] : List (S40))).bind fun t144 => (some t144)) = some r := by rw [if_neg (show ¬ (false = true) by decide)] at H; exact H
                        clear H
                        have H := H1
                        clear H1
                        replace H := Option.bind_eq_some_iff.mp H
                        obtain ⟨t144, A190, H⟩ := H
                        replace H : (some t144) = some r := H
                        have A19 := Aside0.mk A190
                        clear A190
                        obtain rfl := Option.some.inj H
                        go_enter Try.func8, Try.ntmps8
                        try go_wp2_with (first | ((with_reducible refine gate_dst (N := 12) rfl ?_); (try (refine gate_guard (by rfl) ?_; dsimp only)); refine Kd.R_lit k40 _ 40 ?hg (N := 12) ?hd (xs := ([(⟨(⟨#[48, 48]⟩ : ByteArray), (⟨#[48, 48, 48]⟩ : ByteArray)⟩ : S40), (⟨(⟨#[48, 53]⟩ : ByteArray), (⟨#[49, 48, 48]⟩ : ByteArray)⟩ : S40)] : List (S40))) (inner := [.string (⟨#[48, 48]⟩ : ByteArray), .string (⟨#[48, 48, 48]⟩ : ByteArray), .string (⟨#[48, 53]⟩ : ByteArray), .string (⟨#[49, 48, 48]⟩ : ByteArray)]) (ok := fun _ => True) (okp := fun _ => True) ?hr ?hp (fun _ hk => hk) trivial (Below.refl _ _) (Nat.le_refl _) (by simp) ?_; (case hd => rfl); (case hg => rfl); (case hr => first | (go_simp; done) | (go_simp; rfl)); (case hp => exact (Reps.c2 (show Kd.M k40 _ _ _ (⟨(⟨#[48, 48]⟩ : ByteArray), (⟨#[48, 48, 48]⟩ : ByteArray)⟩ : S40) [.string (⟨#[48, 48]⟩ : ByteArray), .string (⟨#[48, 48, 48]⟩ : ByteArray)] from (k40_mkM _ _ _ (⟨(⟨#[48, 48]⟩ : ByteArray), (⟨#[48, 48, 48]⟩ : ByteArray)⟩ : S40) )) (Reps.c2 (show Kd.M k40 _ _ _ (⟨(⟨#[48, 53]⟩ : ByteArray), (⟨#[49, 48, 48]⟩ : ByteArray)⟩ : S40) [.string (⟨#[48, 53]⟩ : ByteArray), .string (⟨#[49, 48, 48]⟩ : ByteArray)] from (k40_mkM _ _ _ (⟨(⟨#[48, 53]⟩ : ByteArray), (⟨#[49, 48, 48]⟩ : ByteArray)⟩ : S40) )) (Reps.none _ _)))); intro v119 w20 ho21 hb hg_ hnew_; clear hg_ hnew_; (first | rw [← Ny118.out] at ho21 | (simp only [Int.reduceToNat] at ho21; rw [← Ny118.out] at ho21)); have n0_ := Aside0.mk (Kd.R_lower ho21 (below_size (by repeat (first | (with_reducible first | exact HB.out | apply below_alloc | apply pw_below_drewN | apply below_drew1) | exact HB.out)))); have n1_ := Aside0.mk (below_step (by repeat (first | (with_reducible first | exact HB.out | apply below_alloc | apply pw_below_drewN | apply below_drew1) | exact HB.out)) hb); clear HB; have HO120 := n0_; have HB := n1_; clear n0_ n1_; clear hb ho21; obtain ⟨Ao22, co22, eo22⟩ := Kd.R_slice HO120.out; subst eo22) | ((with_reducible refine gate_callee (f := 15) rfl ?_); refine goesL_ (some 15) rfl rfl Try.func15 (by kernel_rfl) rfl #[.slice Ao22 y118.length co22, .string (⟨#[48, 53]⟩ : ByteArray)] rfl (by (try simp only [List.map_toArray, List.map_cons, List.map_nil]); first | done | rfl | (simp only [List.length_drop, List.length_take]; rfl)) ?_; (with_reducible refine (codes_Apply.calls k _ _ y118 (⟨#[48, 53]⟩ : ByteArray) t121 true _ ?side1 ?side2 A1.out).mono ?_); (case side1 => repeat (first | exact (Kd.R_reads' HO120.out).2.2 | (with_reducible refine Kd.C_alloc ?_ _) | (with_reducible refine Kd.C_drewN ?_ _) | (with_reducible refine Kd.C_drew ?_))); (case side2 => exact (Kd.R_reads' HO120.out).2.1); rintro e w23 ⟨rfl, hb⟩; refine ⟨_, rfl, ?_⟩; have n0_ := Aside0.mk (Kd.R_below (by (with_reducible repeat (first | apply Kd.R_alloc | apply Kd.R_drewN | apply Kd.R_drew)); exact HO120.out) hb); have n1_ := Aside0.mk (below_step (by repeat (first | (with_reducible first | exact HB.out | apply below_alloc | apply pw_below_drewN | apply below_drew1) | exact HB.out)) hb); clear HO120; clear HB; have HO120 := n0_; have HB := n1_; clear n0_ n1_; (try clear hb); (try clear hb2); (try clear hk); (try clear hi)) | ((with_reducible refine gate_callee (f := 15) rfl ?_); refine goesL_ (some 20) rfl rfl Try.func15 (by kernel_rfl) rfl #[.slice Ao22 y118.length co22, .string (⟨#[48, 54]⟩ : ByteArray)] rfl (by (try simp only [List.map_toArray, List.map_cons, List.map_nil]); first | done | rfl | (simp only [List.length_drop, List.length_take]; rfl)) ?_; (with_reducible refine (codes_Apply.calls k _ _ y118 (⟨#[48, 54]⟩ : ByteArray) t123 false _ ?side1 ?side2 A2.out).mono ?_); (case side1 => repeat (first | exact (Kd.R_reads' HO120.out).2.2 | (with_reducible refine Kd.C_alloc ?_ _) | (with_reducible refine Kd.C_drewN ?_ _) | (with_reducible refine Kd.C_drew ?_))); (case side2 => exact (Kd.R_reads' HO120.out).2.1); rintro e w24 ⟨rfl, hb⟩; refine ⟨_, rfl, ?_⟩; have n0_ := Aside0.mk (Kd.R_below (by (with_reducible repeat (first | apply Kd.R_alloc | apply Kd.R_drewN | apply Kd.R_drew)); exact HO120.out) hb); have n1_ := Aside0.mk (below_step (by repeat (first | (with_reducible first | exact HB.out | apply below_alloc | apply pw_below_drewN | apply below_drew1) | exact HB.out)) hb); clear HO120; clear HB; have HO120 := n0_; have HB := n1_; clear n0_ n1_; (try clear hb); (try clear hb2); (try clear hk); (try clear hi)) | ((with_reducible refine gate_callee (f := 17) rfl ?_); refine goesL_ (some 25) rfl rfl Try.func17 (by kernel_rfl) rfl #[.slice Ao22 y118.length co22] rfl (by (try simp only [List.map_toArray, List.map_cons, List.map_nil]); first | done | rfl | (simp only [List.length_drop, List.length_take]; rfl)) ?_; (with_reducible refine (codes_Turn.calls k _ _ y118 t125 _ ?side1 ?side2 A3.out).mono ?_); (case side1 => repeat (first | exact (Kd.R_reads' HO120.out).2.2 | (with_reducible refine Kd.C_alloc ?_ _) | (with_reducible refine Kd.C_drewN ?_ _) | (with_reducible refine Kd.C_drew ?_))); (case side2 => exact (Kd.R_reads' HO120.out).2.1); rintro e w25 ⟨v126, rfl, ho0, hb⟩; refine ⟨_, rfl, ?_⟩; have n0_ := Aside0.mk (Kd.R_elder' (by (with_reducible repeat (first | apply Kd.R_alloc | apply Kd.R_drewN | apply Kd.R_drew)); exact HO120.out) (Kd.R_base ho0) hb); have n1_ := Aside0.mk (Kd.R_lower (Kd.R_new' ho0 (Kd.R_lt (by (with_reducible repeat (first | apply Kd.R_alloc | apply Kd.R_drewN | apply Kd.R_drew)); exact HO120.out))) (below_size (by repeat (first | (with_reducible first | exact HB.out | apply below_alloc | apply pw_below_drewN | apply below_drew1) | exact HB.out)))); have n2_ := Aside0.mk (below_step (by repeat (first | (with_reducible first | exact HB.out | apply below_alloc | apply pw_below_drewN | apply below_drew1) | exact HB.out)) hb); clear HO120; clear HB; have HO120 := n0_; have HO127 := n1_; have HB := n2_; clear n0_ n1_ n2_; (try clear hb); (try clear hb2); (try clear hk); (try clear hi); (try clear ho0); obtain ⟨Ao26, co26, eo26⟩ := Kd.R_slice HO127.out; subst eo26) | ((with_reducible refine gate_callee (f := 15) rfl ?_); refine goesL_ (some 26) rfl rfl Try.func15 (by kernel_rfl) rfl #[.slice Ao26 t125.length co26, .string (⟨#[49, 48, 48]⟩ : ByteArray)] rfl (by (try simp only [List.map_toArray, List.map_cons, List.map_nil]); first | done | rfl | (simp only [List.length_drop, List.length_take]; rfl)) ?_; (with_reducible refine (codes_Apply.calls k _ _ t125 (⟨#[49, 48, 48]⟩ : ByteArray) t128 true _ ?side1 ?side2 A4.out).mono ?_); (case side1 => repeat (first | exact (Kd.R_reads' HO127.out).2.2 | (with_reducible refine Kd.C_alloc ?_ _) | (with_reducible refine Kd.C_drewN ?_ _) | (with_reducible refine Kd.C_drew ?_))); (case side2 => exact (Kd.R_reads' HO127.out).2.1); rintro e w27 ⟨rfl, hb⟩; refine ⟨_, rfl, ?_⟩; have n0_ := Aside0.mk (Kd.R_below (by (with_reducible repeat (first | apply Kd.R_alloc | apply Kd.R_drewN | apply Kd.R_drew)); exact HO120.out) hb); have n1_ := Aside0.mk (Kd.R_below (by (with_reducible repeat (first | apply Kd.R_alloc | apply Kd.R_drewN | apply Kd.R_drew)); exact HO127.out) hb); have n2_ := Aside0.mk (below_step (by repeat (first | (with_reducible first | exact HB.out | apply below_alloc | apply pw_below_drewN | apply below_drew1) | exact HB.out)) hb); clear HO120; clear HO127; clear HB; have HO120 := n0_; have HO127 := n1_; have HB := n2_; clear n0_ n1_ n2_; (try clear hb); (try clear hb2); (try clear hk); (try clear hi)))
                        have n0_ := Aside0.mk (Kd.R_drew HO120.out)
                        have n1_ := Aside0.mk (Kd.R_drew HO127.out)
                        have n2_ := Aside0.mk (below_drew1 HB.out)
                        clear HO120
                        clear HO127
                        clear HB
                        have HO120 := n0_
                        have HO127 := n1_
                        have HB := n2_
                        clear n0_ n1_ n2_
                        have p130 : 0 ≤ (0 : Int) := (by omega)
                        have q130 : 0 < (y118.length : Int) := of_decide_eq_true (by first | (with_reducible assumption) | assumption)
                        obtain ⟨ad130, e130, hx130_0, hx130_1⟩ := at_T40 (Kd.R_reads' HO120.out).2.2 0 p130 q130
                        cases e130
                        have qi130 : (0 < y118.length) = True := eq_true (by omega)
                        (try rw [show ((0 : Int)).toNat = 0 from rfl] at hx130_0)
                        (try rw [show 0 * 2 = 0 from rfl] at hx130_0)
                        (try rw [Addr.add_zero'] at hx130_0)
                        (try rw [show ((0 : Int)).toNat = 0 from rfl] at hx130_1)
                        (try rw [show 0 * 2 = 0 from rfl] at hx130_1)
                        (try rw [Addr.add_zero'] at hx130_1)
                        replace p130 := eq_true p130
                        replace q130 := eq_true q130
                        have p131 : 0 ≤ (1 : Int) := (by omega)
                        have q131 : 1 < (y118.length : Int) := of_decide_eq_true (by first | (with_reducible assumption) | assumption)
                        obtain ⟨ad131, e131, hx131_0, hx131_1⟩ := at_T40 (Kd.R_reads' HO120.out).2.2 1 p131 q131
                        obtain rfl : ad130 = ad131 := (by injection e131)
                        (try simp only [show (1 : Int).toNat = 1 from rfl, Nat.reduceMul, Nat.reduceEqDiff, Go.Addr.add, ↓reduceIte] at hx131_0)
                        (try simp only [show (1 : Int).toNat = 1 from rfl, Nat.reduceMul, Nat.reduceEqDiff, Go.Addr.add, ↓reduceIte] at hx131_1)
                        have qi131 : (1 < y118.length) = True := eq_true (by omega)
                        (try rw [show ((1 : Int)).toNat = 1 from rfl] at hx131_0)
                        (try rw [show 1 * 2 = 2 from rfl] at hx131_0)
                        (try rw [show ((1 : Int)).toNat = 1 from rfl] at hx131_1)
                        (try rw [show 1 * 2 = 2 from rfl] at hx131_1)
                        replace p131 := eq_true p131
                        replace q131 := eq_true q131
                        have p132 : 0 ≤ (0 : Int) := (by omega)
                        have q132 : 0 < (y118.length : Int) := of_decide_eq_true (by first | (with_reducible assumption) | assumption)
                        obtain ⟨ad132, e132, hx132_0, hx132_1⟩ := at_T40 (Kd.R_reads' HO120.out).2.2 0 p132 q132
                        obtain rfl : ad130 = ad132 := (by injection e132)
                        have qi132 : (0 < y118.length) = True := eq_true (by omega)
                        (try rw [show ((0 : Int)).toNat = 0 from rfl] at hx132_0)
                        (try rw [show 0 * 2 = 0 from rfl] at hx132_0)
                        (try rw [Addr.add_zero'] at hx132_0)
                        (try rw [show ((0 : Int)).toNat = 0 from rfl] at hx132_1)
                        (try rw [show 0 * 2 = 0 from rfl] at hx132_1)
                        (try rw [Addr.add_zero'] at hx132_1)
                        replace p132 := eq_true p132
                        replace q132 := eq_true q132
                        refine start_ (n := 16) (S := fun w' => w'.cell? ad130 = some (.string ((rd_T40 y118 0).f0)) ∧ w'.cell? ⟨ad130.block, ad130.off + 1, none⟩ = some (.string ((rd_T40 y118 0).f1)) ∧ w'.cell? ⟨ad130.block, ad130.off + 2, none⟩ = some (.string ((rd_T40 y118 1).f0)) ∧ w'.cell? ⟨ad130.block, ad130.off + 2 + 1, none⟩ = some (.string ((rd_T40 y118 1).f1)) ∧ w'.cell? ad130 = some (.string ((rd_T40 y118 0).f0)) ∧ w'.cell? ⟨ad130.block, ad130.off + 1, none⟩ = some (.string ((rd_T40 y118 0).f1))) (ds := []) #[false, false, false, false, false, false, false, false, false, false, false, false, false, false, false, false] (by kernel_rfl) rfl rfl ⟨hx130_0, hx130_1, hx131_0, hx131_1, hx132_0, hx132_1⟩ (fun hHeld => ?_); refine with_tabW groatlaw19_awake.tab5 groatlaw19_awake.bits5 (fun HT_ HW_ => ?_)
                        generalize w27.drew = w28 at HO120 HO127 HB hx130_0 hx130_1 hx131_0 hx131_1 hx132_0 hx132_1 hHeld ⊢
                        refine pure_ (i := 0) (N := some 30) (v := ?_) (a' := ?_) #[true, false, false, false, false, false, false, false, false, false, false, false, false, false, false, false] rfl rfl (any_of HT_.out (by kernel_rfl)) (fun _ _ _ h => h) (Or.inl ⟨by rfl, ?_⟩) ?_ ?_
                        rotate_left
                        · intro w'
                          go_simp
                          with_reducible rfl
                        rotate_left
                        · simp only [Act.put, List.setIfInBounds_toArray, List.set_cons_zero, List.set_cons_succ, i64_w, i32_w]
                          rfl
                        refine pure_ (i := 1) (N := some 31) (v := ?_) (a' := ?_) #[true, true, false, false, false, false, false, false, false, false, false, false, false, false, false, false] rfl rfl (any_of HT_.out (by kernel_rfl)) (fun _ _ _ h => h) (Or.inl ⟨by rfl, ?_⟩) ?_ ?_
                        rotate_left
                        · intro w'
                          go_simp
                          with_reducible rfl
                        rotate_left
                        · simp only [Act.put, List.setIfInBounds_toArray, List.set_cons_zero, List.set_cons_succ, i64_w, i32_w]
                          rfl
                        refine pure_ (i := 3) (N := some 33) (v := ?_) (a' := ?_) #[true, true, false, true, false, false, false, false, false, false, false, false, false, false, false, false] rfl rfl (any_of HT_.out (by kernel_rfl)) (fun _ _ _ h => h) (Or.inl ⟨by rfl, ?_⟩) ?_ ?_
                        rotate_left
                        · intro w'
                          go_simp
                          with_reducible rfl
                        rotate_left
                        · simp only [Act.put, List.setIfInBounds_toArray, List.set_cons_zero, List.set_cons_succ, i64_w, i32_w]
                          rfl
                        refine pure_ (i := 4) (N := some 34) (v := ?_) (a' := ?_) #[true, true, false, true, true, false, false, false, false, false, false, false, false, false, false, false] rfl rfl (any_of HT_.out (by kernel_rfl)) (fun _ _ _ h => h) (Or.inl ⟨by rfl, ?_⟩) ?_ ?_
                        rotate_left
                        · intro w'
                          go_simp
                          with_reducible rfl
                        rotate_left
                        · simp only [Act.put, List.setIfInBounds_toArray, List.set_cons_zero, List.set_cons_succ, i64_w, i32_w]
                          rfl
                        refine pure_ (i := 6) (N := some 36) (v := ?_) (a' := ?_) #[true, true, false, true, true, false, true, false, false, false, false, false, false, false, false, false] rfl rfl (any_of HT_.out (by kernel_rfl)) (fun _ _ _ h => h) (Or.inl ⟨by rfl, ?_⟩) ?_ ?_
                        rotate_left
                        · intro w'
                          go_simp
                          with_reducible rfl
                        rotate_left
                        · simp only [Act.put, List.setIfInBounds_toArray, List.set_cons_zero, List.set_cons_succ, i64_w, i32_w]
                          rfl
                        refine pure_ (i := 7) (N := some 37) (v := ?_) (a' := ?_) #[true, true, false, true, true, false, true, true, false, false, false, false, false, false, false, false] rfl rfl (any_of HT_.out (by kernel_rfl)) (fun _ _ _ h => h) (Or.inl ⟨by rfl, ?_⟩) ?_ ?_
                        rotate_left
                        · intro w'
                          go_simp
                          with_reducible rfl
                        rotate_left
                        · simp only [Act.put, List.setIfInBounds_toArray, List.set_cons_zero, List.set_cons_succ, i64_w, i32_w]
                          rfl
                        refine take_ (i := 2) (N := some 32) (v := ?_) (a' := ?_) #[true, true, true, true, true, false, true, true, false, false, false, false, false, false, false, false] rfl rfl (take_ofW HT_.out HW_.out (by kernel_rfl)) (fun _ _ _ h => h) (Or.inl ⟨by rfl, ?_⟩) hHeld ?_ ?_
                        rotate_left
                        · rintro w' ⟨s0, s1, s2, s3, s4, s5⟩
                          go_simp
                          with_reducible rfl
                        rotate_left
                        · simp only [Act.put, List.setIfInBounds_toArray, List.set_cons_zero, List.set_cons_succ, i64_w, i32_w]
                          rfl
                        refine take_ (i := 5) (N := some 35) (v := ?_) (a' := ?_) #[true, true, true, true, true, true, true, true, false, false, false, false, false, false, false, false] rfl rfl (take_ofW HT_.out HW_.out (by kernel_rfl)) (fun _ _ _ h => h) (Or.inl ⟨by rfl, ?_⟩) hHeld ?_ ?_
                        rotate_left
                        · rintro w' ⟨s0, s1, s2, s3, s4, s5⟩
                          go_simp
                          with_reducible rfl
                        rotate_left
                        · simp only [Act.put, List.setIfInBounds_toArray, List.set_cons_zero, List.set_cons_succ, i64_w, i32_w]
                          rfl
                        refine take_ (i := 8) (N := some 38) (v := ?_) (a' := ?_) #[true, true, true, true, true, true, true, true, true, false, false, false, false, false, false, false] rfl rfl (take_ofW HT_.out HW_.out (by kernel_rfl)) (fun _ _ _ h => h) (Or.inl ⟨by rfl, ?_⟩) hHeld ?_ ?_
                        rotate_left
                        · rintro w' ⟨s0, s1, s2, s3, s4, s5⟩
                          go_simp
                          with_reducible rfl
                        rotate_left
                        · simp only [Act.put, List.setIfInBounds_toArray, List.set_cons_zero, List.set_cons_succ, i64_w, i32_w]
                          rfl
                        refine one_ (i := 9) (N := some 39) #[true, true, true, true, true, true, true, true, true, true, false, false, false, false, false, false] rfl rfl (one_of HT_.out (by kernel_rfl)) (by decide) (fun K hK => ?_)
                        refine Kd.R_lit_step k40 _ 40 ?hg (N := 39) ?hd (xs := ([(⟨(rd_T40 y118 0).f0, (rd_T40 y118 0).f1⟩ : S40), (⟨(rd_T40 y118 1).f0, (rd_T40 y118 1).f1⟩ : S40), (⟨(rd_T40 y118 0).f0, (rd_T40 y118 0).f1⟩ : S40)] : List (S40))) (inner := [.string ((rd_T40 y118 0).f0), .string ((rd_T40 y118 0).f1), .string ((rd_T40 y118 1).f0), .string ((rd_T40 y118 1).f1), .string ((rd_T40 y118 0).f0), .string ((rd_T40 y118 0).f1)]) (ok := fun _ => True) (okp := fun _ => True) ?hr ?hp (fun _ hk => hk) trivial (Below.refl _ _) (Nat.le_refl _) (by simp) ?_; (case hd => rfl); (case hg => rfl); (case hr => first | (go_simp; done) | (go_simp; rfl)); (case hp => exact (Reps.c2 (show Kd.M k40 _ _ _ (⟨(rd_T40 y118 0).f0, (rd_T40 y118 0).f1⟩ : S40) [.string ((rd_T40 y118 0).f0), .string ((rd_T40 y118 0).f1)] from (k40_mkM _ _ _ (⟨(rd_T40 y118 0).f0, (rd_T40 y118 0).f1⟩ : S40) )) (Reps.c2 (show Kd.M k40 _ _ _ (⟨(rd_T40 y118 1).f0, (rd_T40 y118 1).f1⟩ : S40) [.string ((rd_T40 y118 1).f0), .string ((rd_T40 y118 1).f1)] from (k40_mkM _ _ _ (⟨(rd_T40 y118 1).f0, (rd_T40 y118 1).f1⟩ : S40) )) (Reps.c2 (show Kd.M k40 _ _ _ (⟨(rd_T40 y118 0).f0, (rd_T40 y118 0).f1⟩ : S40) [.string ((rd_T40 y118 0).f0), .string ((rd_T40 y118 0).f1)] from (k40_mkM _ _ _ (⟨(rd_T40 y118 0).f0, (rd_T40 y118 0).f1⟩ : S40) )) (Reps.none _ _)))))
                        intro v134 w29 ho30 hb hg_ hnew_
                        have HS0_ := (hb.cell (World.block_lt_of_cell? _ _ (hHeld.1))).trans (hHeld.1)
                        have HS1_ := (hb.cell (World.block_lt_of_cell? _ _ (hHeld.2.1))).trans (hHeld.2.1)
                        have HS2_ := (hb.cell (World.block_lt_of_cell? _ _ (hHeld.2.2.1))).trans (hHeld.2.2.1)
                        have HS3_ := (hb.cell (World.block_lt_of_cell? _ _ (hHeld.2.2.2.1))).trans (hHeld.2.2.2.1)
                        have HS4_ := (hb.cell (World.block_lt_of_cell? _ _ (hHeld.2.2.2.2.1))).trans (hHeld.2.2.2.2.1)
                        have HS5_ := (hb.cell (World.block_lt_of_cell? _ _ (hHeld.2.2.2.2.2))).trans (hHeld.2.2.2.2.2)
                        clear hg_ hnew_
                        (first | rw [← Ny133.out] at ho30 | (simp only [Int.reduceToNat] at ho30; rw [← Ny133.out] at ho30))
                        have n0_ := Aside0.mk (Kd.R_elder' (by (with_reducible repeat (first | apply Kd.R_alloc | apply Kd.R_drewN | apply Kd.R_drew)); exact HO120.out) (Kd.R_base ho30) hb)
                        have n1_ := Aside0.mk (Kd.R_elder' (by (with_reducible repeat (first | apply Kd.R_alloc | apply Kd.R_drewN | apply Kd.R_drew)); exact HO127.out) (Kd.R_base ho30) hb)
                        have n2_ := Aside0.mk (Kd.R_lower (Kd.R_new' (Kd.R_new' ho30 (Kd.R_lt (by (with_reducible repeat (first | apply Kd.R_alloc | apply Kd.R_drewN | apply Kd.R_drew)); exact HO120.out))) (Kd.R_lt (by (with_reducible repeat (first | apply Kd.R_alloc | apply Kd.R_drewN | apply Kd.R_drew)); exact HO127.out))) (below_size (by repeat (first | (with_reducible first | exact HB.out | apply below_alloc | apply pw_below_drewN | apply below_drew1) | exact HB.out))))
                        have n3_ := Aside0.mk (below_step (by repeat (first | (with_reducible first | exact HB.out | apply below_alloc | apply pw_below_drewN | apply below_drew1) | exact HB.out)) hb)
                        clear HO120
                        clear HO127
                        clear HB
                        have HO120 := n0_
                        have HO127 := n1_
                        have HO135 := n2_
                        have HB := n3_
                        clear n0_ n1_ n2_ n3_
                        clear hb ho30
                        obtain ⟨Ao31, co31, eo31⟩ := Kd.R_slice HO135.out
                        (first | subst eo31 | (injection eo31 with f1_ f2_ f3_; have f4_ := f1_.symm; have f5_ := f3_.symm; clear f1_ f2_ f3_; subst f4_; subst f5_))
                        refine hK.out _ _ ⟨HS0_, HS1_, HS2_, HS3_, HS4_, HS5_⟩ (fun hHeld => ?_)
                        clear hK K
                        refine norm_ (a' := ?_) ?_ ?_
                        rotate_left
                        · show Act.put _ (some 39) _ = _
                          simp only [Act.put, List.setIfInBounds_toArray, List.set_cons_zero, List.set_cons_succ, i64_w, i32_w]
                          rfl
                        refine one_ (i := 10) (N := some 40) #[true, true, true, true, true, true, true, true, true, true, true, false, false, false, false, false] rfl rfl (one_of HT_.out (by kernel_rfl)) (by decide) (fun K hK => ?_)
                        refine goes_ Try.func10 (by kernel_rfl) rfl #[.slice Ao31 y133.length co31] (by rfl) rfl rfl (by (try simp only [List.map_toArray, List.map_cons, List.map_nil]); first | done | rfl | (simp only [List.length_drop, List.length_take]; rfl)) ?_
                        with_reducible refine (codes_Check.calls _ _ y133 t136 t137 _ ?side1 ?side2 A7.out).mono ?_
                        (case side1 => repeat (first | exact (Kd.R_reads' HO135.out).2.2 | (with_reducible refine Kd.C_alloc ?_ _) | (with_reducible refine Kd.C_drewN ?_ _) | (with_reducible refine Kd.C_drew ?_)))
                        (case side2 => exact (Kd.R_reads' HO135.out).2.1)
                        rintro e w32 ⟨rfl, hb⟩
                        have HS0_ := (hb.cell (World.block_lt_of_cell? _ _ (hHeld.1))).trans (hHeld.1)
                        have HS1_ := (hb.cell (World.block_lt_of_cell? _ _ (hHeld.2.1))).trans (hHeld.2.1)
                        have HS2_ := (hb.cell (World.block_lt_of_cell? _ _ (hHeld.2.2.1))).trans (hHeld.2.2.1)
                        have HS3_ := (hb.cell (World.block_lt_of_cell? _ _ (hHeld.2.2.2.1))).trans (hHeld.2.2.2.1)
                        have HS4_ := (hb.cell (World.block_lt_of_cell? _ _ (hHeld.2.2.2.2.1))).trans (hHeld.2.2.2.2.1)
                        have HS5_ := (hb.cell (World.block_lt_of_cell? _ _ (hHeld.2.2.2.2.2))).trans (hHeld.2.2.2.2.2)
                        refine ⟨_, rfl, ?_⟩
                        have n0_ := Aside0.mk (Kd.R_below (by (with_reducible repeat (first | apply Kd.R_alloc | apply Kd.R_drewN | apply Kd.R_drew)); exact HO120.out) hb)
                        have n1_ := Aside0.mk (Kd.R_below (by (with_reducible repeat (first | apply Kd.R_alloc | apply Kd.R_drewN | apply Kd.R_drew)); exact HO127.out) hb)
                        have n2_ := Aside0.mk (Kd.R_below (by (with_reducible repeat (first | apply Kd.R_alloc | apply Kd.R_drewN | apply Kd.R_drew)); exact HO135.out) hb)
                        have n3_ := Aside0.mk (below_step (by repeat (first | (with_reducible first | exact HB.out | apply below_alloc | apply pw_below_drewN | apply below_drew1) | exact HB.out)) hb)
                        clear HO120
                        clear HO127
                        clear HO135
                        clear HB
                        have HO120 := n0_
                        have HO127 := n1_
                        have HO135 := n2_
                        have HB := n3_
                        clear n0_ n1_ n2_ n3_
                        (try clear hb)
                        (try clear hb2)
                        (try clear hk)
                        (try clear hi)
                        refine hK.out _ _ ⟨HS0_, HS1_, HS2_, HS3_, HS4_, HS5_⟩ (fun hHeld => ?_)
                        clear hK K
                        refine norm_ (a' := ?_) ?_ ?_
                        rotate_left
                        · show Act.put _ (some 40) _ = _
                          simp only [Act.put, List.setIfInBounds_toArray, List.set_cons_zero, List.set_cons_succ, i64_w, i32_w]
                          rfl
                        refine pure_ (i := 11) (N := some 29) (v := ?_) (a' := ?_) #[true, true, true, true, true, true, true, true, true, true, true, true, false, false, false, false] rfl rfl (any_of HT_.out (by kernel_rfl)) (fun _ _ _ h => h) (Or.inl ⟨by rfl, ?_⟩) ?_ ?_
                        rotate_left
                        · intro w'
                          go_simp
                          with_reducible rfl
                        rotate_left
                        · simp only [Act.put, List.setIfInBounds_toArray, List.set_cons_zero, List.set_cons_succ, i64_w, i32_w]
                          rfl
                        refine pure_ (i := 12) (N := some 41) (v := ?_) (a' := ?_) #[true, true, true, true, true, true, true, true, true, true, true, true, true, false, false, false] rfl rfl (any_of HT_.out (by kernel_rfl)) (fun _ _ _ h => h) (Or.inl ⟨by rfl, ?_⟩) ?_ ?_
                        rotate_left
                        · intro w'
                          go_simp
                          with_reducible rfl
                        rotate_left
                        · simp only [Act.put, List.setIfInBounds_toArray, List.set_cons_zero, List.set_cons_succ, i64_w, i32_w]
                          rfl
                        refine pure_ (i := 13) (N := some 42) (v := ?_) (a' := ?_) #[true, true, true, true, true, true, true, true, true, true, true, true, true, true, false, false] rfl rfl (any_of HT_.out (by kernel_rfl)) (fun _ _ _ h => h) (Or.inl ⟨by rfl, ?_⟩) ?_ ?_
                        rotate_left
                        · intro w'
                          go_simp
                          with_reducible rfl
                        rotate_left
                        · simp only [Act.put, List.setIfInBounds_toArray, List.set_cons_zero, List.set_cons_succ, i64_w, i32_w]
                          rfl
                        refine pure_ (i := 14) (N := some 8) (v := ?_) (a' := ?_) #[true, true, true, true, true, true, true, true, true, true, true, true, true, true, true, false] rfl rfl (any_of HT_.out (by kernel_rfl)) (fun _ _ _ h => h) (Or.inl ⟨by rfl, ?_⟩) ?_ ?_
                        rotate_left
                        · intro w'
                          go_simp
                          with_reducible rfl
                        rotate_left
                        · simp only [Act.put, List.setIfInBounds_toArray, List.set_cons_zero, List.set_cons_succ, i64_w, i32_w]
                          rfl
                        refine pure_ (i := 15) (N := some 9) (v := ?_) (a' := ?_) #[true, true, true, true, true, true, true, true, true, true, true, true, true, true, true, true] rfl rfl (any_of HT_.out (by kernel_rfl)) (fun _ _ _ h => h) (Or.inl ⟨by rfl, ?_⟩) ?_ ?_
                        rotate_left
                        · intro w'
                          go_simp
                          with_reducible rfl
                        rotate_left
                        · simp only [Act.put, List.setIfInBounds_toArray, List.set_cons_zero, List.set_cons_succ, i64_w, i32_w]
                          rfl
                        refine done_ (done_of HT_.out (by kernel_rfl)) ?_
                        try go_wp2_with (first | (go_at_call 13; (with_reducible refine (codes_Bijective.calls k _ _ y118 true _ ?side1 ?side2 A15.out).mono ?_); (case side1 => repeat (first | exact (Kd.R_reads' HO120.out).2.2 | (with_reducible refine Kd.C_alloc ?_ _) | (with_reducible refine Kd.C_drewN ?_ _) | (with_reducible refine Kd.C_drew ?_))); (case side2 => exact (Kd.R_reads' HO120.out).2.1); rintro e w33 ⟨rfl, hb⟩; have n0_ := Aside0.mk (Kd.R_below (by (with_reducible repeat (first | apply Kd.R_alloc | apply Kd.R_drewN | apply Kd.R_drew)); exact HO120.out) hb); have n1_ := Aside0.mk (Kd.R_below (by (with_reducible repeat (first | apply Kd.R_alloc | apply Kd.R_drewN | apply Kd.R_drew)); exact HO127.out) hb); have n2_ := Aside0.mk (Kd.R_below (by (with_reducible repeat (first | apply Kd.R_alloc | apply Kd.R_drewN | apply Kd.R_drew)); exact HO135.out) hb); have n3_ := Aside0.mk (below_step (by repeat (first | (with_reducible first | exact HB.out | apply below_alloc | apply pw_below_drewN | apply below_drew1) | exact HB.out)) hb); clear HO120; clear HO127; clear HO135; clear HB; have HO120 := n0_; have HO127 := n1_; have HO135 := n2_; have HB := n3_; clear n0_ n1_ n2_ n3_; (try clear hb); (try clear hb2); (try clear hk); (try clear hi); have p139 : 0 ≤ (0 : Int) := (by omega); have q139 : 0 < (y118.length : Int) := of_decide_eq_true (by first | (with_reducible assumption) | assumption); obtain ⟨ad139, e139, hx139_0, hx139_1⟩ := at_T40 (Kd.R_reads' HO120.out).2.2 0 p139 q139; obtain rfl : ad130 = ad139 := (by injection e139); have qi139 : (0 < y118.length) = True := eq_true (by omega); (try rw [show ((0 : Int)).toNat = 0 from rfl] at hx139_0); (try rw [show 0 * 2 = 0 from rfl] at hx139_0); (try rw [Addr.add_zero'] at hx139_0); (try rw [show ((0 : Int)).toNat = 0 from rfl] at hx139_1); (try rw [show 0 * 2 = 0 from rfl] at hx139_1); (try rw [Addr.add_zero'] at hx139_1); replace p139 := eq_true p139; replace q139 := eq_true q139) | ((with_reducible refine gate_dst (N := 76) rfl ?_); (try (refine gate_guard (by rfl) ?_; dsimp only)); refine Kd.R_lit k40 _ 40 ?hg (N := 76) ?hd (xs := ([(⟨(rd_T40 y118 0).f0, (rd_T40 y118 0).f1⟩ : S40), (⟨(⟨#[48, 49]⟩ : ByteArray), (⟨#[48, 48, 48]⟩ : ByteArray)⟩ : S40)] : List (S40))) (inner := [.string ((rd_T40 y118 0).f0), .string ((rd_T40 y118 0).f1), .string (⟨#[48, 49]⟩ : ByteArray), .string (⟨#[48, 48, 48]⟩ : ByteArray)]) (ok := fun _ => True) (okp := fun _ => True) ?hr ?hp (fun _ hk => hk) trivial (Below.refl _ _) (Nat.le_refl _) (by simp) ?_; (case hd => rfl); (case hg => rfl); (case hr => first | (go_simp; done) | (go_simp; rfl)); (case hp => exact (Reps.c2 (show Kd.M k40 _ _ _ (⟨(rd_T40 y118 0).f0, (rd_T40 y118 0).f1⟩ : S40) [.string ((rd_T40 y118 0).f0), .string ((rd_T40 y118 0).f1)] from (k40_mkM _ _ _ (⟨(rd_T40 y118 0).f0, (rd_T40 y118 0).f1⟩ : S40) )) (Reps.c2 (show Kd.M k40 _ _ _ (⟨(⟨#[48, 49]⟩ : ByteArray), (⟨#[48, 48, 48]⟩ : ByteArray)⟩ : S40) [.string (⟨#[48, 49]⟩ : ByteArray), .string (⟨#[48, 48, 48]⟩ : ByteArray)] from (k40_mkM _ _ _ (⟨(⟨#[48, 49]⟩ : ByteArray), (⟨#[48, 48, 48]⟩ : ByteArray)⟩ : S40) )) (Reps.none _ _)))); intro v141 w34 ho35 hb hg_ hnew_; clear hg_ hnew_; (first | rw [← Ny140.out] at ho35 | (simp only [Int.reduceToNat] at ho35; rw [← Ny140.out] at ho35)); have n0_ := Aside0.mk (Kd.R_elder' (by (with_reducible repeat (first | apply Kd.R_alloc | apply Kd.R_drewN | apply Kd.R_drew)); exact HO120.out) (Kd.R_base ho35) hb); have n1_ := Aside0.mk (Kd.R_elder' (by (with_reducible repeat (first | apply Kd.R_alloc | apply Kd.R_drewN | apply Kd.R_drew)); exact HO127.out) (Kd.R_base ho35) hb); have n2_ := Aside0.mk (Kd.R_elder' (by (with_reducible repeat (first | apply Kd.R_alloc | apply Kd.R_drewN | apply Kd.R_drew)); exact HO135.out) (Kd.R_base ho35) hb); have n3_ := Aside0.mk (Kd.R_lower (Kd.R_new' (Kd.R_new' (Kd.R_new' ho35 (Kd.R_lt (by (with_reducible repeat (first | apply Kd.R_alloc | apply Kd.R_drewN | apply Kd.R_drew)); exact HO120.out))) (Kd.R_lt (by (with_reducible repeat (first | apply Kd.R_alloc | apply Kd.R_drewN | apply Kd.R_drew)); exact HO127.out))) (Kd.R_lt (by (with_reducible repeat (first | apply Kd.R_alloc | apply Kd.R_drewN | apply Kd.R_drew)); exact HO135.out))) (below_size (by repeat (first | (with_reducible first | exact HB.out | apply below_alloc | apply pw_below_drewN | apply below_drew1) | exact HB.out)))); have n4_ := Aside0.mk (below_step (by repeat (first | (with_reducible first | exact HB.out | apply below_alloc | apply pw_below_drewN | apply below_drew1) | exact HB.out)) hb); clear HO120; clear HO127; clear HO135; clear HB; have HO120 := n0_; have HO127 := n1_; have HO135 := n2_; have HO142 := n3_; have HB := n4_; clear n0_ n1_ n2_ n3_ n4_; clear hb ho35; obtain ⟨Ao36, co36, eo36⟩ := Kd.R_slice HO142.out; subst eo36) | (go_at_call 13; (with_reducible refine (codes_Bijective.calls k _ _ y140 false _ ?side1 ?side2 A17.out).mono ?_); (case side1 => repeat (first | exact (Kd.R_reads' HO142.out).2.2 | (with_reducible refine Kd.C_alloc ?_ _) | (with_reducible refine Kd.C_drewN ?_ _) | (with_reducible refine Kd.C_drew ?_))); (case side2 => exact (Kd.R_reads' HO142.out).2.1); rintro e w37 ⟨rfl, hb⟩; have n0_ := Aside0.mk (Kd.R_below (by (with_reducible repeat (first | apply Kd.R_alloc | apply Kd.R_drewN | apply Kd.R_drew)); exact HO120.out) hb); have n1_ := Aside0.mk (Kd.R_below (by (with_reducible repeat (first | apply Kd.R_alloc | apply Kd.R_drewN | apply Kd.R_drew)); exact HO127.out) hb); have n2_ := Aside0.mk (Kd.R_below (by (with_reducible repeat (first | apply Kd.R_alloc | apply Kd.R_drewN | apply Kd.R_drew)); exact HO135.out) hb); have n3_ := Aside0.mk (Kd.R_below (by (with_reducible repeat (first | apply Kd.R_alloc | apply Kd.R_drewN | apply Kd.R_drew)); exact HO142.out) hb); have n4_ := Aside0.mk (below_step (by repeat (first | (with_reducible first | exact HB.out | apply below_alloc | apply pw_below_drewN | apply below_drew1) | exact HB.out)) hb); clear HO120; clear HO127; clear HO135; clear HO142; clear HB; have HO120 := n0_; have HO127 := n1_; have HO135 := n2_; have HO142 := n3_; have HB := n4_; clear n0_ n1_ n2_ n3_ n4_; (try clear hb); (try clear hb2); (try clear hk); (try clear hi)) | (go_at_call 13; (refine (codes_Bijective.calls k _ _ ([] : List (S40)) t144 _ ?side1 ?side2 A19.out).mono ?_); (case side1 => exact Kd.C_nil _ _); (case side2 => exact Nat.le_refl _); rintro e w38 ⟨rfl, hb⟩; have n0_ := Aside0.mk (Kd.R_below (by (with_reducible repeat (first | apply Kd.R_alloc | apply Kd.R_drewN | apply Kd.R_drew)); exact HO120.out) hb); have n1_ := Aside0.mk (Kd.R_below (by (with_reducible repeat (first | apply Kd.R_alloc | apply Kd.R_drewN | apply Kd.R_drew)); exact HO127.out) hb); have n2_ := Aside0.mk (Kd.R_below (by (with_reducible repeat (first | apply Kd.R_alloc | apply Kd.R_drewN | apply Kd.R_drew)); exact HO135.out) hb); have n3_ := Aside0.mk (Kd.R_below (by (with_reducible repeat (first | apply Kd.R_alloc | apply Kd.R_drewN | apply Kd.R_drew)); exact HO142.out) hb); have n4_ := Aside0.mk (below_step (by repeat (first | (with_reducible first | exact HB.out | apply below_alloc | apply pw_below_drewN | apply below_drew1) | exact HB.out)) hb); clear HO120; clear HO127; clear HO135; clear HO142; clear HB; have HO120 := n0_; have HO127 := n1_; have HO135 := n2_; have HO142 := n3_; have HB := n4_; clear n0_ n1_ n2_ n3_ n4_; (try clear hb); (try clear hb2); (try clear hk); (try clear hi)))
                        go_ret
                        exact ⟨by first | rfl | (simp [errW_none, errW_some] <;> rfl) | (simp [*, errW_none, errW_some] <;> rfl), by repeat (first | (with_reducible first | exact HB.out | apply below_alloc | apply pw_below_drewN | apply below_drew1) | exact HB.out)⟩
                    · replace c16 := Bool.eq_false_iff.mpr c16
                      subst c16
                      have H1 : (none) = some r := by rw [if_neg (show ¬ (false = true) by decide)] at H; exact H
                      clear H
                      have H := H1
                      clear H1
                      exact absurd H (by simp)
                  · rw [if_neg c14] at H
                    exact absurd H (by simp)
                · rw [if_neg c13] at H
                  exact absurd H (by simp)
              · replace c12 := Bool.eq_false_iff.mpr c12
                subst c12
                have H1 : (none) = some r := by rw [if_neg (show ¬ (false = true) by decide)] at H; exact H
                clear H
                have H := H1
                clear H1
                exact absurd H (by simp)
            · rw [if_neg c11] at H
              exact absurd H (by simp)
        · replace c9 := Bool.eq_false_iff.mpr c9
          subst c9
          have H1 : (none) = some r := by rw [if_neg (show ¬ (false = true) by decide)] at H; exact H
          clear H
          have H := H1
          clear H1
          exact absurd H (by simp)
      · rw [if_neg c8] at H
        exact absurd H (by simp)
    · rw [if_neg c6] at H
      exact absurd H (by simp)
  · rw [if_neg c5] at H
    exact absurd H (by simp)

end Go.Proofs.Ytbknihgibcbdaaa.D
