/-
  Law 9: an act in memory; do; play.
  How deep a tree of so many bytes may be; binary digits.
  Law 9: what play leaves, as the laws' loops use it; chapter 9's Digits.
  Loops that hold ranges over functions: as many marks as there were ranges.
-/
import Derived.Test.YtliphfgiaioebaaDoorB15
namespace Go.Proofs.YtliphfgiaioebaaDoor
set_option linter.unusedVariables false
set_option linter.unusedSimpArgs false
open Go.RowKit
structure ActD where
  kind : Int
  a : Int
  b : Int
  lo : Int
  hi : Int
  T : Option Addr
  d : Nat
  t : List UInt8
def ActD.v (x : ActD) : List Value := [.int .i64 x.kind, .int .i64 x.a, .int .i64 x.b, .int .i64 x.lo, .int .i64 x.hi, .slice x.T x.t.length x.d]
def ActD.ok (n : Nat) (w : World) (x : ActD) : Prop := BytesN n w x.T x.t ∧ x.t.length ≤ x.d ∧ (x.T = none → x.d = 0) ∧ x.t.length ≤ 2000000
/-- acts that came in -/
def ActsAt (n : Nat) (w : World) (A : Option Addr) (l : List ActD) : Prop :=
  n ≤ w.heap.size ∧ (∀ x ∈ l, x.ok n w) ∧ (0 < l.length → ∃ b off, A = some ⟨b, off, none⟩ ∧ b < n ∧ ∀ i x j v, l[i]? = some x → x.v[j]? = some v → w.cell? ⟨b, off + i * 6 + j, none⟩ = some v)
theorem bytesN_bel {n m : Nat} {w w' : World} {A : Option Addr} {l : List UInt8} (h : BytesN n w A l) (hb : Below m w w') (hm : n ≤ m) : BytesN n w' A l :=
  ⟨Nat.le_trans h.1 hb.size, fun h0 => by
    obtain ⟨b, off, e, hc⟩ := h.2.1 h0
    have := h.2.2 h0 _ e
    simp only at this
    exact ⟨b, off, e, fun i hi => (hb.cell (p := ⟨b, off + i, none⟩) (by simp only; omega)).trans (hc i hi)⟩, h.2.2⟩
theorem ActsAt.bel {n m : Nat} {w w' : World} {A : Option Addr} {l : List ActD} (h : ActsAt n w A l) (hb : Below m w w') (hm : n ≤ m) : ActsAt n w' A l :=
  ⟨Nat.le_trans h.1 hb.size, fun x hx => ⟨bytesN_bel (h.2.1 x hx).1 hb hm, (h.2.1 x hx).2⟩, fun h0 => by
    obtain ⟨b, off, e, h1, hc⟩ := h.2.2 h0
    exact ⟨b, off, e, h1, fun i x j v hx hv => (hb.cell (p := ⟨b, off + i * 6 + j, none⟩) (by simp only; omega)).trans (hc i x j v hx hv)⟩⟩
theorem ActsAt.later {n : Nat} {w w' : World} {A : Option Addr} {l : List ActD} (h : ActsAt n w A l) (hl : Ltr w w') : ActsAt n w' A l := h.bel (m := n) (Below.mono hl h.1) (Nat.le_refl _)
theorem ActsAt.upd {n g : Nat} {w w' : World} {A : Option Addr} {l : List ActD} (h : ActsAt n w A l) (hu : Upd g w w') (hg : n ≤ g) : ActsAt n w' A l := h.bel (m := n) (hu.below (Below.refl _ _) hg) (Nat.le_refl _)
theorem Book.upd {n g : Nat} {w w' : World} {vr vt : Value} {rs : List (Nat × List UInt8)} (h : Book n w vr vt rs) (hu : Upd g w w') (hg : ∃ t cs, Blk w g t cs ∧ t ≠ 31 ∧ t ≠ 9 ∧ nodeT t = false) : Book n w' vr vt rs := by
  obtain ⟨t, cs, hb, h1, h2, h3⟩ := hg
  exact ⟨h.rope.upd hu (blk_ne h.rope hb h1), h.text.upd hu (blk_ne h.text hb h2), fun p hp => (h.each p hp).tl (hu.tl hb h3)⟩
theorem Own.cells {n : Nat} {E : TypeId} {w : World} {A : Option Addr} {k c : Nat} {xs : List Value} (h : Own n E w (.slice A k c) xs) : CellsAt w A xs := by
  obtain ⟨A', c', e, hc, -⟩ := h.form
  cases e; exact hc
theorem Own.len {n : Nat} {E : TypeId} {w : World} {A : Option Addr} {k c : Nat} {xs : List Value} (h : Own n E w (.slice A k c) xs) : k = xs.length := by
  obtain ⟨A', c', e, hc, -⟩ := h.form
  cases e; rfl
/-- the address of an element of several cells -/
theorem ex_indexN (k : Nat) {o : Oper} {ρ : Operand → Value} {ty : TypeId} {x y : Operand} {A : Option Addr} {b off n c : Nat} (i : Nat) (ho : o.op = .indexAddr ty x y) (hx : ρ x = .slice A n c) (hA : A = some ⟨b, off, none⟩) (hy : ρ y = .int .i64 (i : Int))
    (hu : Tryd.prog.underlying ty = some (.slice (Tryd.prog.elem ty))) (hs : ∀ w, (sizeOf (Tryd.prog.elem ty)).run Tryd.prog w = .ok k w) (hi : i < n) (w : World) :
    (execOp ρ o).run Tryd.prog w = .ok (.value (.pointer (some ⟨b, off + i * k, none⟩))) w := by
  subst hA
  have h1 : (0 : Int) ≤ (i : Int) ∧ (i : Int) < (n : Int) := by omega
  unfold execOp
  simp [ho, hx, hy, Instr.indexAt, asIntOf, Sem.run_bind, run_underlying hu, hs, hi, add_none]
theorem ex_indexA {o : Oper} {ρ : Operand → Value} {ty : TypeId} {x y : Operand} {A : Option Addr} {b off n c : Nat} (i : Nat) (ho : o.op = .indexAddr ty x y) (hx : ρ x = .slice A n c) (hA : A = some ⟨b, off, none⟩) (hy : ρ y = .int .i64 (i : Int))
    (hu : Tryd.prog.underlying ty = some (.slice (Tryd.prog.elem ty))) (hs : ∀ w, (sizeOf (Tryd.prog.elem ty)).run Tryd.prog w = .ok 1 w) (hi : i < n) (w : World) :
    (execOp ρ o).run Tryd.prog w = .ok (.value (.pointer (some ⟨b, off + i, none⟩))) w := by
  have := ex_indexN 1 i ho hx hA hy hu hs hi w
  rwa [Nat.mul_one] at this
theorem ldC (ty : TypeId) {o : Oper} {ρ : Operand → Value} (x : Operand) (ho : o.op = .load ty x) (b off : Nat) (cs : List Value) (hx : ρ x = .pointer (some ⟨b, off, none⟩)) (hq : ∀ w, (isAgg ty).run Tryd.prog w = .ok true w)
    (hi : (Tryd.prog.info? ty).map (·.size) = some cs.length) {w : World} (hc : ∀ j v, cs[j]? = some v → w.cell? ⟨b, off + j, none⟩ = some v) : (execOp ρ o).run Tryd.prog w = .ok (.value (.agg cs.toArray)) w := by
  have hl : (loadCells ⟨b, off, none⟩ cs.length).run Tryd.prog w = .ok cs.toArray w :=
    run_loadCells_list (P := Tryd.prog) w ⟨b, off, none⟩ cs (fun j v hv => by rw [add_none]; exact hc j v hv)
  have hlv : (loadVar ty ⟨b, off, none⟩).run Tryd.prog w = .ok (.agg cs.toArray) w := by
    cases hq' : Tryd.prog.info? ty with
    | none => simp [hq'] at hi
    | some i =>
      have hs : i.size = cs.length := by simpa [hq'] using hi
      simp [loadVar, Sem.run_bind, hq w, sizeOf, typeInfo, hq', hs, hl]
  unfold execOp
  simp only [ho, hx, Instr.loadAt, Instr.sureAddr, Sem.run_bind, Sem.run_pure, Result.andThen_ok, hlv]
/-- the book behind an act -/
def DoQ (n B : Nat) (rs : List (Nat × List UInt8)) (w : World) (e : Ending) (w' : World) : Prop :=
  e = .returned (.bool true) ∧ ∃ A1 c1 A2 c2 rs', Blk w' B 27 #[.slice A1 rs'.length c1, .slice A2 rs'.length c2] ∧ Book n w' (.slice A1 rs'.length c1) (.slice A2 rs'.length c2) rs' ∧ Bel n w w' ∧ ∃ add, rs' = rs ++ add ∧ AddOk add
theorem DoP.q {n B : Nat} {rs : List (Nat × List UInt8)} {w w' : World} {e : Ending} (h : DoP n B rs w e w') : DoQ n B rs w e w' := by
  obtain ⟨rfl, vr, vt, add, hx, hk, hb, ha⟩ := h
  obtain ⟨A1, c1, rfl, -, -⟩ := hk.rope.form
  obtain ⟨A2, c2, rfl, -, -⟩ := hk.text.form
  rw [List.length_map, List.length_map] at *
  exact ⟨rfl, A1, c1, A2, c2, _, hx, hk, hb, add, rfl, ha⟩
theorem do_any (n B : Nat) (A1 A2 : Option Addr) (c1 c2 : Nat) (rs : List (Nat × List UInt8)) (x : ActD) (w : World) (hT : Tabs w) (hx : Blk w B 27 #[.slice A1 rs.length c1, .slice A2 rs.length c2]) (hk : Book n w (.slice A1 rs.length c1) (.slice A2 rs.length c2) rs)
    (hnB : n ≤ B) (hrs : rs.length ≤ 3000000) (hsm : ∀ p ∈ rs, p.2.length ≤ 32768) {m : Nat} (ho : x.ok m w) :
    Calls Tryd.prog 58 #[.pointer (some ⟨B, 0, none⟩), .agg #[.int .i64 x.kind, .int .i64 x.a, .int .i64 x.b, .int .i64 x.lo, .int .i64 x.hi, .slice x.T x.t.length x.d]] w (DoQ n B rs w) := by
  obtain ⟨kind, ka, kb, lo, hi, T, d, t⟩ := x
  obtain ⟨o1, o2, o3, o4⟩ := ho
  simp only at o1 o2 o3 o4 ⊢
  refine Calls.mono ?_ fun e w' h => DoP.q h
  by_cases h0 : rs = [] ∨ kind < 1 ∨ 3 < kind
  · exact do_new n B A1 A2 c1 c2 rs ka kb lo hi T d t w kind h0 hT hx hk hnB hrs o1.at o3 o4
  · have hpos : 0 < rs.length := List.length_pos_iff.2 (fun e => h0 (.inl e))
    have hC1 := hk.rope.cells
    have hC2 := hk.text.cells
    obtain ⟨g1, p1, rfl, -⟩ := hC1 (by rw [List.length_map]; exact hpos)
    obtain ⟨g2, p2, rfl, -⟩ := hC2 (by rw [List.length_map]; exact hpos)
    obtain ⟨bi, li, hi1⟩ := at_all hpos ka
    obtain ⟨bj, lj, hj1⟩ := at_all hpos kb
    have h1 : kind = 1 ∨ kind = 2 ∨ kind = 3 := by
      have h2 : ¬ kind < 1 := fun h => h0 (.inr (.inl h))
      have h3 : ¬ 3 < kind := fun h => h0 (.inr (.inr h))
      omega
    rcases h1 with rfl | rfl | rfl
    · exact do_join n B g1 p1 g2 p2 c1 c2 rs ka kb T d t w lo hi hpos hT hx hk hC1 hC2 hnB hrs hsm bi bj li lj hi1 hj1
    · by_cases hm : lo < 0 ∨ (li.length : Int) < lo
      · exact do_split_out n B g1 p1 g2 p2 c1 c2 rs ka kb T d t w lo hi hpos hT hx hk hC1 hC2 hnB hrs hsm bi li hi1 hm
      · obtain ⟨q, rfl⟩ := Int.eq_ofNat_of_zero_le (by omega : 0 ≤ lo)
        exact do_split n B g1 p1 g2 p2 c1 c2 rs ka kb T d t w q hi hpos hT hx hk hC1 hC2 hnB hrs hsm bi li hi1 (by omega)
    · by_cases hm : 0 ≤ lo ∧ lo ≤ hi ∧ hi ≤ li.length
      · obtain ⟨q, rfl⟩ := Int.eq_ofNat_of_zero_le hm.1
        obtain ⟨r, rfl⟩ := Int.eq_ofNat_of_zero_le (by omega : 0 ≤ hi)
        exact do_rep n B g1 p1 g2 p2 c1 c2 rs ka kb T d t w q r hpos hT hx hk hC1 hC2 hnB hrs hsm bi li hi1 (by omega) (by omega) o1.at o2 o3 o4
      · exact do_rep_out n B g1 p1 g2 p2 c1 c2 rs ka kb T d t w lo hi hpos hT hx hk hC1 hC2 hnB hrs hsm bi li hi1 hm o1.at o3 o4
theorem sm_next {rs add rs2 : List (Nat × List UInt8)} (e : rs2 = rs ++ add) (hsm : ∀ p ∈ rs, p.2.length ≤ 32768) (ha : AddOk add) (h : rs2 = [] ∨ ∃ x, rs2[rs2.length - 1]? = some x ∧ x.2.length ≤ 32768) : ∀ p ∈ rs2, p.2.length ≤ 32768 := by
  intro p hp
  rcases h with rfl | ⟨x, hx, hl⟩
  · cases hp
  · subst e
    rcases List.mem_append.1 hp with hp | hp
    · exact hsm p hp
    · refine ha.2.2 x ?_ hl p hp
      rw [← List.getLast?_eq_getElem?, List.getLast?_append] at hx
      cases h : add.getLast? with
      | none => rw [List.getLast?_eq_none_iff] at h; rw [h] at hp; cases hp
      | some y => rw [h] at hx; simpa using hx
theorem big_next {rs add rs2 : List (Nat × List UInt8)} (e : rs2 = rs ++ add) (hsm : ∀ p ∈ rs, p.2.length ≤ 32768) (ha : AddOk add) : ∀ p ∈ rs2, p.2.length ≤ 4000000 := by
  intro p hp
  subst e
  rcases List.mem_append.1 hp with hp | hp
  · have := hsm p hp; omega
  · exact ha.2.1 p hp
theorem len_next {rs add rs2 : List (Nat × List UInt8)} (e : rs2 = rs ++ add) (ha : AddOk add) : rs2.length ≤ rs.length + 2 := by
  have := ha.1
  rw [e, List.length_append]; omega
/-- what play leaves -/
def Played (n : Nat) (A1 A2 : Option Addr) (c1 c2 : Nat) (rs : List (Nat × List UInt8)) (w : World) : Prop :=
  Book n w (.slice A1 rs.length c1) (.slice A2 rs.length c2) rs ∧ rs.length ≤ 3000000 ∧ ∀ p ∈ rs, p.2.length ≤ 4000000
def PlayP (w : World) (e : Ending) (w' : World) : Prop :=
  ∃ A1 A2 c1 c2 rs, e = .returned (.tuple #[.agg #[.slice A1 rs.length c1, .slice A2 rs.length c2], .bool true]) ∧ Ltr w w' ∧ Played w.heap.size A1 A2 c1 c2 rs w'
set_option maxRecDepth 100000 in
set_option maxHeartbeats 8000000 in
theorem play_any (A : Option Addr) (c : Nat) (l : List ActD) (w : World) (hT : Tabs w) (hA : ActsAt w.heap.size w A l) (hc : l.length ≤ c) (hm : l.length ≤ 1100000) :
    Calls Tryd.prog 18 #[.slice A l.length c] w (PlayP w) := by
  have hB := Ltr.refl w
  go_enter Tryd.func18, Tryd.ntmps18
  have h4 := hT.four
  refine wp_seq_k fun KK1 hKK1 => rl_begin fun hgK hgo => ?_
  refine rl_alloc (some 2) 27 #[.slice none 0 0, .slice none 0 0] rfl (by kernel_rfl) (fun W => by kernel_rfl) fun rb w2 hL2 hp2 hrb => ?_
  have hz2 := hL2.size
  have hlt2 := hrb.lt
  try simp only [pp]
  refine tk 3 (.bool false) ?_
  simp only [pp]
  refine rl_end hgo <| hKK1 _ _ <| wp_seq_k fun KK3 hKK3 => rl_begin fun hgK hgo => ?_
  refine rl_alloc (some 4) 27 #[.slice none 0 0, .slice none 0 0] rfl (by kernel_rfl) (fun W => by kernel_rfl) fun xb w4 hL4 hp4 hxb => ?_
  have hz4 := hL4.size
  have hlt4 := hxb.lt
  try simp only [pp]
  refine rl_end hgo <| hKK3 _ _ <| wp_seq_k fun KK5 hKK5 => wp_seq_k fun KK6 hKK6 => rl_begin fun hgK hgo => tk 5 (.int .i64 0) ?_
  simp only [pp]
  refine rl_end hgo <| hKK6 _ _ <| wp_block ?_
  replace hT := (hT.later hL2).later hL4
  replace hB := (hB.later hL2).later hL4
  replace hA := (hA.later hL2).later hL4
  replace hrb := hrb.later hL4
  refine wp_loop_ghost (fun gn ga wl => ∃ (u : Nat → Value) (i : Nat) (A1 A2 : Option Addr) (c1 c2 : Nat) (rs : List (Nat × List UInt8)), gn = l.length - i ∧ ga = ⟨#[.slice A l.length c, undef, .pointer (some ⟨rb, 0, none⟩), u 3, .pointer (some ⟨xb, 0, none⟩), .int .i64 i, u 6, u 7, u 8, u 9, u 10, u 11, u 12, u 13, u 14, u 15, u 16, u 17, u 18, u 19, u 20, u 21, u 22, u 23, u 24, u 25, u 26, u 27, u 28, u 29, u 30, u 31, u 32, u 33, u 34, undef], []⟩ ∧ (i ≤ l.length) ∧ (rs.length ≤ 2 * i) ∧ (∀ p ∈ rs, p.2.length ≤ 32768) ∧ (Tabs wl) ∧ (Ltr w wl) ∧ (ActsAt w.heap.size wl A l) ∧ (Book xb wl (.slice A1 rs.length c1) (.slice A2 rs.length c2) rs) ∧ (Blk wl rb 27 #[.slice none 0 0, .slice none 0 0]) ∧ (Blk wl xb 27 #[.slice A1 rs.length c1, .slice A2 rs.length c2])) ((fun (i : Nat) (A1 A2 : Option Addr) (c1 c2 : Nat) (rs : List (Nat × List UInt8)) => (l.length - i : Nat)) 0 none none 0 0 []) ?_ ?_
  ·exact ⟨fun gj => (#[.slice A l.length c, undef, .pointer (some ⟨rb, 0, none⟩), .bool false, .pointer (some ⟨xb, 0, none⟩), .int .i64 0, undef, undef, undef, undef, undef, undef, undef, undef, undef, undef, undef, undef, undef, undef, undef, undef, undef, undef, undef, undef, undef, undef, undef, undef, undef, undef, undef, undef, undef, undef]).getD gj undef, 0, none, none, 0, 0, [], rfl, rfl, Nat.zero_le _, Nat.le_refl _, (by simp), by assumption, by assumption, by assumption, ⟨.nil _ _ _ (by omega), .nil _ _ _ (by omega), by simp⟩, by assumption, by assumption⟩
  rintro n7 a7 w7 ⟨u, i, A1, A2, c1, c2, rs, rfl, rfl, hil', hrl', hsm', hT', hB', hA', hk', hrb', hxb'⟩
  clear hxb hrb hA hB hT
  have hil := hil'
  clear hil'
  have hrl := hrl'
  clear hrl'
  have hsm := hsm'
  clear hsm'
  have hT := hT'
  clear hT'
  have hB := hB'
  clear hB'
  have hA := hA'
  clear hA'
  have hk := hk'
  clear hk'
  have hrb := hrb'
  clear hrb'
  have hxb := hxb'
  clear hxb'
  have hlt_hrb_7 := hrb.lt
  have hlt_hxb_7 := hxb.lt
  refine wp_seq_k fun KK8 hKK8 => wp_seq_k fun KK9 hKK9 => rl_begin fun hgK hgo => tk 6 (.int .i64 i) <| tk 7 (.slice A l.length c) <| tk 8 (.int .i64 l.length) ?_
  simp only [pp]
  by_cases h1 : (i : Int) < l.length
  ·refine tx 9 (.bool true) (by exact ebt (c := (i : Int) < l.length) (by omega)) ?_
   simp only [pp]
   refine rl_end hgo <| hKK9 _ _ <| wp_cond_true (by kernel_rfl) <| wp_skip <| hKK8 _ _ <| wp_seq_k fun KK10 hKK10 => wp_block <| wp_seq_k fun KK11 hKK11 => wp_seq_k fun KK12 hKK12 => rl_begin fun hgK hgo => tk 12 (.slice A l.length c) <| tk 13 (.int .i64 i) ?_
   simp only [pp]
   (obtain ⟨ab, ao, hAe, hab, hac⟩ := hA.2.2 (by omega)); (obtain ⟨x, hxi⟩ : ∃ x, l[i]? = some x := ⟨_, List.getElem?_eq_getElem (by omega)⟩)
   refine tx 14 (.pointer (some ⟨ab, ao + i * 6, none⟩)) (by exact ex_indexN 6 i rfl rfl hAe rfl (by kernel_rfl) (fun _ => by kernel_rfl) (by omega) _) ?_
   simp only [pp]
   refine tx 15 (.agg #[.int .i64 x.kind, .int .i64 x.a, .int .i64 x.b, .int .i64 x.lo, .int .i64 x.hi, .slice x.T x.t.length x.d]) (by exact ldC 105 _ rfl ab (ao + i * 6) x.v rfl (fun _ => by kernel_rfl) (by kernel_rfl) (fun j v hv => hac i x j v hxi hv)) ?_
   simp only [pp]
   refine rl_call (some 16) 58 #[.pointer (some ⟨xb, 0, none⟩), .agg #[.int .i64 x.kind, .int .i64 x.a, .int .i64 x.b, .int .i64 x.lo, .int .i64 x.hi, .slice x.T x.t.length x.d]] rfl (by kernel_rfl) (by kernel_rfl) (do_any xb xb A1 A2 c1 c2 rs x _ hT hxb hk (Nat.le_refl _) (by omega) hsm (hA.2.1 x (List.mem_of_getElem? hxi))) ?_
   rintro e w13 ⟨rfl, P1, q1, P2, q2, rs2, hx2, hk2, hBl2, add, hrs2, hAdd⟩
   refine ⟨_, rfl, ?_⟩
   (replace hT := hT.bel hBl2.2 (by omega)); (replace hB := hB.bel hBl2.2 (by omega)); (replace hA := hA.bel hBl2.2 (by omega)); (replace hrb := hrb.bel hBl2.2 (by omega)); (have hz2 := hBl2.2.size); (have hln := len_next hrs2 hAdd); (have hbn := big_next hrs2 hsm hAdd)
   clear hk
   clear hxb
   have hlt_hx2 := hx2.lt
   try simp only [pp]
   refine tk 17 (.bool false) ?_
   simp only [pp]
   refine rl_end hgo <| hKK12 _ _ <| wp_cond_false (by kernel_rfl) <| wp_skip <| hKK11 _ _ <| wp_seq_k fun KK14 hKK14 => rl_begin fun hgK hgo => tk 19 (.pointer (some ⟨xb, 1, none⟩)) ?_
   simp only [pp]
   refine tx 20 (.slice P2 rs2.length q2) (by exact ld 25 xb 1 (hx2.cell 1)) <| tk 21 (.int .i64 rs2.length) ?_
   simp only [pp]
   by_cases h5 : (rs2.length : Int) > 0
   ·refine tx 22 (.bool true) (by exact ebt (c := (rs2.length : Int) > 0) (by omega)) <| tk 23 (.bool true) <| tk 24 (.pointer (some ⟨xb, 1, none⟩)) ?_
    simp only [pp]
    refine tx 25 (.slice P2 rs2.length q2) (by exact ld 25 xb 1 (hx2.cell 1)) <| tk 26 (.pointer (some ⟨xb, 1, none⟩)) ?_
    simp only [pp]
    refine tx 27 (.slice P2 rs2.length q2) (by exact ld 25 xb 1 (hx2.cell 1)) <| tk 28 (.int .i64 rs2.length) ?_
    simp only [pp]
    refine tx 29 (.int .i64 (((rs2.length - 1 : Nat) : Int))) (by exact ex_arith (e := (rs2.length : Int) - 1) (r := ((rs2.length - 1 : Nat) : Int)) (by kernel_rfl) (by omega) (by omega)) ?_
    simp only [pp]
    (obtain ⟨lb, lo, hle, hlc⟩ := hk2.text.cells (by rw [List.length_map]; omega)); (obtain ⟨y, hy⟩ : ∃ y, rs2[rs2.length - 1]? = some y := ⟨_, List.getElem?_eq_getElem (by omega)⟩)
    refine tx 30 (.pointer (some ⟨lb, lo + (rs2.length - 1), none⟩)) (by exact ex_indexA (rs2.length - 1) rfl rfl hle rfl (by kernel_rfl) (fun _ => by kernel_rfl) (by omega) _) ?_
    simp only [pp]
    refine tx 31 (.string (bs y.2)) (by exact ld1 9 _ rfl lb (lo + (rs2.length - 1)) rfl (fun _ => by kernel_rfl) _ (hlc _ _ (by rw [List.getElem?_map, hy]; rfl))) ?_
    simp only [pp]
    refine tx 32 (.int .i64 y.2.length) (by exact ex_len_bs (by kernel_rfl)) ?_
    simp only [pp]
    by_cases h6 : (y.2.length : Int) > 32768
    ·refine tx 33 (.bool true) (by exact ebt (c := (y.2.length : Int) > 32768) (by omega)) <| tk 34 (.bool true) ?_
     simp only [pp]
     refine rl_end hgo <| hKK14 _ _ <| wp_cond_true (by kernel_rfl) <| wp_exit <| hKK5 _ _ <| wp_seq_k fun KK15 hKK15 => rl_begin fun hgK hgo => ?_
     refine tx 35 (.agg #[.slice P1 rs2.length q1, .slice P2 rs2.length q2]) (by exact ldN 27 _ rfl xb 0 rfl (fun _ => by kernel_rfl) [] [.slice P1 rs2.length q1, .slice P2 rs2.length q2] [] (by kernel_rfl) hx2 rfl rfl) ?_
     simp only [pp]
     refine rl_store rb #[.slice P1 rs2.length q1, .slice P2 rs2.length q2] rfl rfl (by kernel_rfl) rfl rfl (by kernel_rfl) hrb rfl (by kernel_rfl) fun w16 hU16 hn16 => ?_
     have hz16 := hU16.size
     replace hT := hT.upd hU16 (by omega)
     replace hB := hB.upd hU16 (by omega)
     replace hA := hA.upd hU16 (by omega)
     replace hk2 := hk2.upd hU16 (⟨_, _, hrb, by decide, by decide, rfl⟩)
     replace hx2 := hx2.upd hU16 (by omega)
     clear hrb
     have hrb := hn16
     clear hn16
     try simp only [pp]
     refine tk 3 (.bool true) ?_
     simp only [pp]
     refine rl_end hgo <| hKK15 _ _ ?_
     refine wp_ret ?_
     try simp only [Exit.then, Exit.inBlock]
     refine bp_ret (v := .tuple #[.agg #[.slice P1 rs2.length q1, .slice P2 rs2.length q2], .bool true]) (res2 rfl (res_cell (b := rb) (cs := [.slice P1 rs2.length q1, .slice P2 rs2.length q2]) (by kernel_rfl) (fun _ => by kernel_rfl) (by kernel_rfl) hrb) (res_tmp (by kernel_rfl))) ?_
     exact ⟨_, _, _, _, _, rfl, hB, ⟨⟨hk2.rope.mono (by omega), hk2.text.mono (by omega), hk2.each⟩, by omega, hbn⟩⟩
    ·refine tx 33 (.bool false) (by exact ebf (c := (y.2.length : Int) > 32768) (by omega)) <| tk 34 (.bool false) ?_
     simp only [pp]
     refine rl_end hgo <| hKK14 _ _ <| wp_cond_false (by kernel_rfl) <| wp_skip <| hKK10 _ _ <| rl_begin fun hgK hgo => tk 10 (.int .i64 i) ?_
     simp only [pp]
     refine tx 11 (.int .i64 (((i + 1 : Nat) : Int))) (by exact ex_arith (e := (i : Int) + 1) (r := ((i + 1 : Nat) : Int)) (by kernel_rfl) (by omega) (by omega)) <| tk 5 (.int .i64 (((i + 1 : Nat) : Int))) ?_
     simp only [pp]
     refine rl_end hgo ?_
     exact ⟨_, (by omega), fun gj => (#[.slice A l.length c, undef, .pointer (some ⟨rb, 0, none⟩), u 3, .pointer (some ⟨xb, 0, none⟩), .int .i64 (((i + 1 : Nat) : Int)), .int .i64 i, .slice A l.length c, .int .i64 l.length, .bool true, .int .i64 i, .int .i64 (((i + 1 : Nat) : Int)), .slice A l.length c, .int .i64 i, .pointer (some ⟨ab, ao + i * 6, none⟩), .agg #[.int .i64 x.kind, .int .i64 x.a, .int .i64 x.b, .int .i64 x.lo, .int .i64 x.hi, .slice x.T x.t.length x.d], .bool true, .bool false, u 18, .pointer (some ⟨xb, 1, none⟩), .slice P2 rs2.length q2, .int .i64 rs2.length, .bool true, .bool true, .pointer (some ⟨xb, 1, none⟩), .slice P2 rs2.length q2, .pointer (some ⟨xb, 1, none⟩), .slice P2 rs2.length q2, .int .i64 rs2.length, .int .i64 (((rs2.length - 1 : Nat) : Int)), .pointer (some ⟨lb, lo + (rs2.length - 1), none⟩), .string (bs y.2), .int .i64 y.2.length, .bool false, .bool false, undef]).getD gj undef, i + 1, P1, P2, q1, q2, rs2, rfl, rfl, by omega, by omega, sm_next hrs2 hsm hAdd (.inr ⟨y, hy, by omega⟩), by assumption, by assumption, by assumption, by assumption, by assumption, by assumption⟩
   ·refine tx 22 (.bool false) (by exact ebf (c := (rs2.length : Int) > 0) (by omega)) <| tk 23 (.bool false) ?_
    simp only [pp]
    refine rl_pass (some 24) rfl (by kernel_rfl) ?_
    try simp only [pp]
    refine rl_pass (some 25) rfl (by kernel_rfl) ?_
    try simp only [pp]
    refine rl_pass (some 26) rfl (by kernel_rfl) ?_
    try simp only [pp]
    refine rl_pass (some 27) rfl (by kernel_rfl) ?_
    try simp only [pp]
    refine rl_pass (some 28) rfl (by kernel_rfl) ?_
    try simp only [pp]
    refine rl_pass (some 29) rfl (by kernel_rfl) ?_
    try simp only [pp]
    refine rl_pass (some 30) rfl (by kernel_rfl) ?_
    try simp only [pp]
    refine rl_pass (some 31) rfl (by kernel_rfl) ?_
    try simp only [pp]
    refine rl_pass (some 32) rfl (by kernel_rfl) ?_
    try simp only [pp]
    refine rl_pass (some 33) rfl (by kernel_rfl) ?_
    try simp only [pp]
    refine tk 34 (.bool false) ?_
    simp only [pp]
    refine rl_end hgo <| hKK14 _ _ <| wp_cond_false (by kernel_rfl) <| wp_skip <| hKK10 _ _ <| rl_begin fun hgK hgo => tk 10 (.int .i64 i) ?_
    simp only [pp]
    refine tx 11 (.int .i64 (((i + 1 : Nat) : Int))) (by exact ex_arith (e := (i : Int) + 1) (r := ((i + 1 : Nat) : Int)) (by kernel_rfl) (by omega) (by omega)) <| tk 5 (.int .i64 (((i + 1 : Nat) : Int))) ?_
    simp only [pp]
    refine rl_end hgo ?_
    exact ⟨_, (by omega), fun gj => (#[.slice A l.length c, undef, .pointer (some ⟨rb, 0, none⟩), u 3, .pointer (some ⟨xb, 0, none⟩), .int .i64 (((i + 1 : Nat) : Int)), .int .i64 i, .slice A l.length c, .int .i64 l.length, .bool true, .int .i64 i, .int .i64 (((i + 1 : Nat) : Int)), .slice A l.length c, .int .i64 i, .pointer (some ⟨ab, ao + i * 6, none⟩), .agg #[.int .i64 x.kind, .int .i64 x.a, .int .i64 x.b, .int .i64 x.lo, .int .i64 x.hi, .slice x.T x.t.length x.d], .bool true, .bool false, u 18, .pointer (some ⟨xb, 1, none⟩), .slice P2 rs2.length q2, .int .i64 rs2.length, .bool false, .bool false, undef, undef, undef, undef, undef, undef, undef, undef, undef, undef, .bool false, undef]).getD gj undef, i + 1, P1, P2, q1, q2, rs2, rfl, rfl, by omega, by omega, sm_next hrs2 hsm hAdd (.inl (List.length_eq_zero_iff.1 (by omega))), by assumption, by assumption, by assumption, by assumption, by assumption, by assumption⟩
  ·refine tx 9 (.bool false) (by exact ebf (c := (i : Int) < l.length) (by omega)) ?_
   simp only [pp]
   refine rl_end hgo <| hKK9 _ _ <| wp_cond_false (by kernel_rfl) <| wp_exit <| hKK5 _ _ <| wp_seq_k fun KK17 hKK17 => rl_begin fun hgK hgo => ?_
   refine tx 35 (.agg #[.slice A1 rs.length c1, .slice A2 rs.length c2]) (by exact ldN 27 _ rfl xb 0 rfl (fun _ => by kernel_rfl) [] [.slice A1 rs.length c1, .slice A2 rs.length c2] [] (by kernel_rfl) hxb rfl rfl) ?_
   simp only [pp]
   refine rl_store rb #[.slice A1 rs.length c1, .slice A2 rs.length c2] rfl rfl (by kernel_rfl) rfl rfl (by kernel_rfl) hrb rfl (by kernel_rfl) fun w18 hU18 hn18 => ?_
   have hz18 := hU18.size
   replace hT := hT.upd hU18 (by omega)
   replace hB := hB.upd hU18 (by omega)
   replace hA := hA.upd hU18 (by omega)
   replace hk := hk.upd hU18 (⟨_, _, hrb, by decide, by decide, rfl⟩)
   replace hxb := hxb.upd hU18 (by omega)
   clear hrb
   have hrb := hn18
   clear hn18
   try simp only [pp]
   refine tk 3 (.bool true) ?_
   simp only [pp]
   refine rl_end hgo <| hKK17 _ _ ?_
   refine wp_ret ?_
   try simp only [Exit.then, Exit.inBlock]
   refine bp_ret (v := .tuple #[.agg #[.slice A1 rs.length c1, .slice A2 rs.length c2], .bool true]) (res2 rfl (res_cell (b := rb) (cs := [.slice A1 rs.length c1, .slice A2 rs.length c2]) (by kernel_rfl) (fun _ => by kernel_rfl) (by kernel_rfl) hrb) (res_tmp (by kernel_rfl))) ?_
   exact ⟨_, _, _, _, _, rfl, hB, ⟨⟨hk.rope.mono (by omega), hk.text.mono (by omega), hk.each⟩, by omega, fun p hp => by have := hsm p hp; omega⟩⟩
theorem Tr.pow_le : ∀ t : Tr, t.ok → 2 ^ ((t.h - 1) / 2) ≤ t.bytes.length
  | .tip l, h => by have h1 := h.1; simp [Tr.h, Tr.bytes]; omega
  | .fork x y, ⟨hx, hy, h1, h2⟩ => by
    have ix := Tr.pow_le x hx
    have iy := Tr.pow_le y hy
    have px := x.h_pos
    have py := y.h_pos
    have lx := x.len_pos hx
    have ly := y.len_pos hy
    simp only [Tr.h, Tr.bytes, List.length_append]
    have key : ∀ a b : Nat, a ≤ b + 1 → b ≤ a + 1 → 1 ≤ a → 1 ≤ b → 2 ^ ((a - 1) / 2) ≤ x.bytes.length → 2 ^ ((b - 1) / 2) ≤ y.bytes.length → 2 ^ ((1 + max a b - 1) / 2) ≤ x.bytes.length + y.bytes.length := by
      intro a b h1 h2 ha hb i1 i2
      have hm : (1 + max a b - 1) / 2 ≤ (a - 1) / 2 + 1 ∧ (1 + max a b - 1) / 2 ≤ (b - 1) / 2 + 1 ∨ max a b ≤ 1 := by omega
      rcases hm with ⟨m1, m2⟩ | hm
      · by_cases hab : (a - 1) / 2 ≤ (b - 1) / 2
        · have h3 : 2 ^ ((1 + max a b - 1) / 2) ≤ 2 ^ ((a - 1) / 2 + 1) := Nat.pow_le_pow_right (by decide) m1
          have h4 : 2 ^ ((a - 1) / 2) ≤ 2 ^ ((b - 1) / 2) := Nat.pow_le_pow_right (by decide) hab
          rw [Nat.pow_succ] at h3
          omega
        · have h3 : 2 ^ ((1 + max a b - 1) / 2) ≤ 2 ^ ((b - 1) / 2 + 1) := Nat.pow_le_pow_right (by decide) m2
          have h4 : 2 ^ ((b - 1) / 2) ≤ 2 ^ ((a - 1) / 2) := Nat.pow_le_pow_right (by decide) (by omega)
          rw [Nat.pow_succ] at h3
          omega
      · rw [show (1 + max a b - 1) / 2 = 0 by omega]; simp; omega
    exact key _ _ h1 h2 px py ix iy
def digitsN (n : Nat) : Nat := if n = 0 then 0 else 1 + digitsN (n / 2)
theorem digitsN_zero : digitsN 0 = 0 := by unfold digitsN; rfl
theorem digitsN_pos {n : Nat} (h : 0 < n) : digitsN n = 1 + digitsN (n / 2) := by rw [digitsN, if_neg (by omega)]
theorem lt_digits (n : Nat) : n < 2 ^ digitsN n := by
  induction n using Nat.strongRecOn with
  | ind n ih =>
    by_cases h : n = 0
    · subst h; rw [digitsN_zero]; decide
    · rw [digitsN_pos (by omega), Nat.add_comm, Nat.pow_succ]
      have := ih (n / 2) (by omega)
      omega
theorem digits_le (k : Nat) : ∀ n, n < 2 ^ k → digitsN n ≤ k := by
  induction k with
  | zero => intro n h; rw [show n = 0 by simpa using h, digitsN_zero]; exact Nat.le_refl _
  | succ k ih =>
    intro n h
    by_cases h0 : n = 0
    · subst h0; rw [digitsN_zero]; omega
    · rw [digitsN_pos (by omega)]
      have := ih (n / 2) (by rw [Nat.pow_succ] at h; omega)
      omega
theorem Tr.h_digits (t : Tr) (h : t.ok) : t.h ≤ 2 * digitsN t.bytes.length + 4 := by
  have h1 := t.pow_le h
  have h2 := lt_digits t.bytes.length
  have h3 : 2 ^ ((t.h - 1) / 2) < 2 ^ digitsN t.bytes.length := by omega
  have h4 := (Nat.pow_lt_pow_iff_right (a := 2) (by decide)).1 h3
  omega
theorem ActsAt.top {n : Nat} {w : World} {A : Option Addr} {l : List ActD} (h : ActsAt n w A l) : ActsAt w.heap.size w A l := by
  refine ⟨Nat.le_refl _, fun x hx => ⟨⟨Nat.le_refl _, (h.2.1 x hx).1.2.1, fun h0 a e => Nat.lt_of_lt_of_le ((h.2.1 x hx).1.2.2 h0 a e) h.1⟩, (h.2.1 x hx).2⟩, fun h0 => ?_⟩
  obtain ⟨b, off, e, h1, hc⟩ := h.2.2 h0
  exact ⟨b, off, e, Nat.lt_of_lt_of_le h1 h.1, hc⟩
/-- cells in a block below n -/
def CellsN (n : Nat) (w : World) (A : Option Addr) (xs : List Value) : Prop := 0 < xs.length → ∃ b off, A = some ⟨b, off, none⟩ ∧ b < n ∧ ∀ i v, xs[i]? = some v → w.cell? ⟨b, off + i, none⟩ = some v
theorem CellsN.bel {n m : Nat} {w w' : World} {A : Option Addr} {xs : List Value} (h : CellsN n w A xs) (hb : Below m w w') (hm : n ≤ m) : CellsN n w' A xs := fun h0 => by
  obtain ⟨b, off, e, h1, hc⟩ := h h0
  exact ⟨b, off, e, h1, fun i v hi => (hb.cell (p := ⟨b, off + i, none⟩) (by simp only; omega)).trans (hc i v hi)⟩
theorem CellsAt.n {w : World} {A : Option Addr} {xs : List Value} (h : CellsAt w A xs) : CellsN w.heap.size w A xs := fun h0 => by
  obtain ⟨b, off, e, hc⟩ := h h0
  refine ⟨b, off, e, ?_, hc⟩
  have := World.block_lt_of_cell? w ⟨b, off + 0, none⟩ (hc 0 xs[0] (List.getElem?_eq_getElem h0))
  exact this
def ptrs (rs : List (Nat × List UInt8)) : List Value := rs.map fun p => .pointer (some ⟨p.1, 0, none⟩)
def strs (rs : List (Nat × List UInt8)) : List Value := rs.map fun p => .string (bs p.2)
theorem ptrs_at {rs : List (Nat × List UInt8)} {i : Nat} {b : Nat} {t : List UInt8} (h : rs[i]? = some (b, t)) : (ptrs rs)[i]? = some (.pointer (some ⟨b, 0, none⟩)) := by unfold ptrs; rw [List.getElem?_map, h]; rfl
theorem strs_at {rs : List (Nat × List UInt8)} {i : Nat} {b : Nat} {t : List UInt8} (h : rs[i]? = some (b, t)) : (strs rs)[i]? = some (.string (bs t)) := by unfold strs; rw [List.getElem?_map, h]; rfl
/-- ropes that are no longer written to, all below n -/
structure Ropes (n : Nat) (A1 A2 : Option Addr) (rs : List (Nat × List UInt8)) (w : World) : Prop where
  size : n ≤ w.heap.size
  ptr : CellsN n w A1 (ptrs rs)
  str : CellsN n w A2 (strs rs)
  each : ∀ p ∈ rs, ∃ v ot, RopeN n w p.1 p.2 v ot
  len : rs.length ≤ 3000000
  big : ∀ p ∈ rs, p.2.length ≤ 4000000
section
variable {n m : Nat} {A1 A2 : Option Addr} {rs : List (Nat × List UInt8)} {w w' : World}
theorem Ropes.bel (h : Ropes n A1 A2 rs w) (hb : Below m w w') (hm : n ≤ m) : Ropes n A1 A2 rs w' :=
  ⟨Nat.le_trans h.size hb.size, h.ptr.bel hb hm, h.str.bel hb hm, fun p hp => by obtain ⟨v, ot, hr⟩ := h.each p hp; exact ⟨v, ot, hr.bel hb hm⟩, h.len, h.big⟩
theorem Ropes.later (h : Ropes n A1 A2 rs w) (hl : Ltr w w') : Ropes n A1 A2 rs w' := h.bel (m := n) (Below.mono hl h.size) (Nat.le_refl _)
theorem Ropes.upd {g : Nat} (h : Ropes n A1 A2 rs w) (hu : Upd g w w') (hg : n ≤ g) : Ropes n A1 A2 rs w' := h.bel (m := n) (hu.below (Below.refl _ _) hg) (Nat.le_refl _)
theorem Ropes.gr {r : Option Nat} (h : Ropes n A1 A2 rs w) (hg : w.grownBy w' r) (hr : ∀ k, r = some k → n ≤ k) : Ropes n A1 A2 rs w' := h.bel (m := n) (Below.grown (Below.refl _ _) hg h.size hr) (Nat.le_refl _)
theorem Ropes.kc {D : Nat} {row : Option Nat} (h : Ropes n A1 A2 rs w) (hg : w.grownBy w' row) (hr : ∀ r, row = some r → D ≤ r ∧ ∃ o : Obj, w.heap[r]? = some o ∧ o.isCells = false) (hD : n ≤ D) : Ropes n A1 A2 rs w' := h.gr hg (fun k e => Nat.le_trans hD (hr k e).1)
theorem Ropes.mid {a b : Nat} (h : Ropes n A1 A2 rs w) (hm : Mid a b w w') (hk : n ≤ a ∧ a ≤ w.heap.size) : Ropes n A1 A2 rs w' := h.bel (hm.below hk.2) hk.1
theorem Ropes.at {i b : Nat} {t : List UInt8} (h : Ropes n A1 A2 rs w) (hi : rs[i]? = some (b, t)) : RopeAt w b t := by
  obtain ⟨v, ot, hr⟩ := h.each _ (List.mem_of_getElem? hi)
  exact hr.at
theorem Ropes.rn {i b : Nat} {t : List UInt8} (h : Ropes n A1 A2 rs w) (hi : rs[i]? = some (b, t)) : ∃ v ot, RopeN n w b t v ot := h.each _ (List.mem_of_getElem? hi)
theorem Ropes.lt {i b : Nat} {t : List UInt8} (h : Ropes n A1 A2 rs w) (hi : rs[i]? = some (b, t)) : t.length ≤ 4000000 := h.big _ (List.mem_of_getElem? hi)
theorem Ropes.p (h : Ropes n A1 A2 rs w) (i : Nat) (hi : i < rs.length) : ∃ b off, A1 = some ⟨b, off, none⟩ ∧ b < n ∧ ∀ i v, (ptrs rs)[i]? = some v → w.cell? ⟨b, off + i, none⟩ = some v := h.ptr (by unfold ptrs; rw [List.length_map]; omega)
theorem Ropes.s (h : Ropes n A1 A2 rs w) (i : Nat) (hi : i < rs.length) : ∃ b off, A2 = some ⟨b, off, none⟩ ∧ b < n ∧ ∀ i v, (strs rs)[i]? = some v → w.cell? ⟨b, off + i, none⟩ = some v := h.str (by unfold strs; rw [List.length_map]; omega)
theorem CellsN.get {b off i : Nat} {v : Value} {A : Option Addr} {xs : List Value} (h : CellsN n w A xs) (he : A = some ⟨b, off, none⟩) (hv : xs[i]? = some v) : w.cell? ⟨b, off + i, none⟩ = some v := by
  obtain ⟨b', off', e, -, hc⟩ := h (by have := (List.getElem?_eq_some_iff.1 hv).1; omega)
  rw [he] at e; cases e
  exact hc i v hv
theorem Ropes.pc {b off i : Nat} {v : Value} (h : Ropes n A1 A2 rs w) (he : A1 = some ⟨b, off, none⟩) (hv : (ptrs rs)[i]? = some v) : w.cell? ⟨b, off + i, none⟩ = some v := h.ptr.get he hv
theorem Ropes.sc {b off i : Nat} {v : Value} (h : Ropes n A1 A2 rs w) (he : A2 = some ⟨b, off, none⟩) (hv : (strs rs)[i]? = some v) : w.cell? ⟨b, off + i, none⟩ = some v := h.str.get he hv
end
theorem rope_i {rs : List (Nat × List UInt8)} (i : Nat) (hi : i < rs.length) : ∃ b t, rs[i]? = some (b, t) := ⟨_, _, List.getElem?_eq_getElem hi⟩
def PlayR (w : World) (e : Ending) (w' : World) : Prop :=
  ∃ A1 A2 c1 c2 rs N, e = .returned (.tuple #[.agg #[.slice A1 rs.length c1, .slice A2 rs.length c2], .bool true]) ∧ Ltr w w' ∧ Ropes N A1 A2 rs w' ∧ N = w'.heap.size
theorem play_r {n : Nat} (A : Option Addr) (c : Nat) (l : List ActD) (w : World) (hT : Tabs w) (hA : ActsAt n w A l) (hc : l.length ≤ c) (hm : l.length ≤ 1100000) :
    Calls Tryd.prog 18 #[.slice A l.length c] w (PlayR w) :=
  (play_any A c l w hT hA.top hc hm).mono fun e w' ⟨A1, A2, c1, c2, rs, he, hl, hk, h1, h2⟩ =>
    ⟨A1, A2, c1, c2, rs, _, he, hl, ⟨Nat.le_refl _, hk.rope.cells.n, hk.text.cells.n, fun p hp => (hk.each p hp).n, h1, h2⟩, rfl⟩
set_option maxRecDepth 100000 in
set_option maxHeartbeats 8000000 in
theorem Digits_any (m : Nat) (w : World) (hm : m ≤ 1000000000) : Calls Tryd.prog 35 #[.int .i64 m] w fun e w' => e = .returned (.int .i64 (digitsN m)) ∧ Ltr w w' := by
  have hB := Ltr.refl w
  have hdg := digits_le 30 m (by omega)
  go_enter Tryd.func35, Tryd.ntmps35
  refine wp_seq_k fun KK1 hKK1 => rl_begin fun hgK hgo => tk 2 (.int .i64 0) ?_
  simp only [pp]
  refine rl_end hgo <| hKK1 _ _ <| wp_seq_k fun KK2 hKK2 => rl_begin fun hgK hgo => tk 3 (.int .i64 0) ?_
  simp only [pp]
  refine rl_end hgo <| hKK2 _ _ <| wp_seq_k fun KK3 hKK3 => wp_block ?_
  refine wp_loop_ghost (fun gn ga wl => ∃ (u : Nat → Value) (a k : Nat), gn = a + 1 ∧ ga = ⟨#[.int .i64 a, undef, .int .i64 0, .int .i64 k, u 4, u 5, u 6, u 7, u 8, u 9, undef], []⟩ ∧ (k + digitsN a = digitsN m) ∧ (a ≤ m) ∧ (Ltr w wl)) ((fun (a k : Nat) => (a + 1 : Nat)) m 0) ?_ ?_
  ·exact ⟨fun gj => (#[.int .i64 m, undef, .int .i64 0, .int .i64 0, undef, undef, undef, undef, undef, undef, undef]).getD gj undef, m, 0, rfl, rfl, Nat.zero_add _, Nat.le_refl _, by assumption⟩
  rintro n4 a4 w4 ⟨u, a, k, rfl, rfl, hak', ham', hB'⟩
  clear hB
  have hak := hak'
  clear hak'
  have ham := ham'
  clear ham'
  have hB := hB'
  clear hB'
  refine wp_seq_k fun KK5 hKK5 => wp_seq_k fun KK6 hKK6 => rl_begin fun hgK hgo => tk 4 (.int .i64 a) ?_
  simp only [pp]
  by_cases h1 : (a : Int) > 0
  ·refine tx 5 (.bool true) (by exact ebt (c := (a : Int) > 0) (by omega)) ?_
   simp only [pp]
   refine rl_end hgo <| hKK6 _ _ <| wp_cond_true (by kernel_rfl) <| wp_skip <| hKK5 _ _ <| wp_block <| wp_seq_k fun KK7 hKK7 => rl_begin fun hgK hgo => tk 6 (.int .i64 k) ?_
   simp only [pp]
   have hda := digitsN_pos (n := a) (by omega)
   refine tx 7 (.int .i64 (((k + 1 : Nat) : Int))) (by exact ex_arith (e := (k : Int) + 1) (r := ((k + 1 : Nat) : Int)) (by kernel_rfl) (by omega) (by omega)) <| tk 3 (.int .i64 (((k + 1 : Nat) : Int))) ?_
   simp only [pp]
   refine rl_end hgo <| hKK7 _ _ <| rl_begin fun hgK hgo => tk 8 (.int .i64 a) ?_
   simp only [pp]
   refine tx 9 (.int .i64 ((a / 2 : Nat) : Int)) (by exact ex_half a rfl rfl rfl (by kernel_rfl) (by omega) _) <| tk 0 (.int .i64 ((a / 2 : Nat) : Int)) ?_
   simp only [pp]
   refine rl_end hgo ?_
   exact ⟨_, (by omega), fun gj => (#[.int .i64 ((a / 2 : Nat) : Int), undef, .int .i64 0, .int .i64 (((k + 1 : Nat) : Int)), .int .i64 a, .bool true, .int .i64 k, .int .i64 (((k + 1 : Nat) : Int)), .int .i64 a, .int .i64 ((a / 2 : Nat) : Int), undef]).getD gj undef, a / 2, k + 1, rfl, rfl, by omega, by omega, by assumption⟩
  ·refine tx 5 (.bool false) (by exact ebf (c := (a : Int) > 0) (by omega)) ?_
   simp only [pp]
   refine rl_end hgo <| hKK6 _ _ <| wp_cond_false (by kernel_rfl) <| wp_exit <| hKK3 _ _ <| wp_seq_k fun KK8 hKK8 => rl_begin fun hgK hgo => tk 10 (.int .i64 k) <| tk 2 (.int .i64 k) ?_
   simp only [pp]
   refine rl_end hgo <| hKK8 _ _ ?_
   refine wp_ret ?_
   try simp only [Exit.then, Exit.inBlock]
   refine bp_ret (v := .int .i64 k) (res1 rfl (res_tmp (by kernel_rfl))) ?_
   exact ⟨by obtain rfl : a = 0 := (by omega); rw [digitsN_zero] at hak; rw [← hak]; rfl, hB⟩
def mkd (D : Nat) : Deferred := { target := .collected D, args := #[] }
/-- marks between n and m -/
def Marks (n m : Nat) (ds : List Nat) (w : World) : Prop := (∀ D ∈ ds, n ≤ D ∧ D < m ∧ Mark D w) ∧ ds.Nodup
theorem Marks.nil (n m : Nat) (w : World) : Marks n m [] w := ⟨by simp, List.nodup_nil⟩
section
variable {n m : Nat} {ds : List Nat} {w w' : World}
theorem Marks.top (h : Marks n m ds w) : Marks n w.heap.size ds w := ⟨fun D hD => ⟨(h.1 D hD).1, (h.1 D hD).2.2.lt, (h.1 D hD).2.2⟩, h.2⟩
theorem Marks.fresh (h : Marks n m ds w) : w.heap.size ∉ ds := fun hD => by have := (h.1 _ hD).2.2.lt; omega
theorem Marks.later (h : Marks n m ds w) (hl : Ltr w w') : Marks n m ds w' := ⟨fun D hD => ⟨(h.1 D hD).1, (h.1 D hD).2.1, (h.1 D hD).2.2.later hl⟩, h.2⟩
theorem Marks.upd {g : Nat} (h : Marks n m ds w) (hu : Upd g w w') (hg : ∃ t cs, Blk w g t cs) : Marks n m ds w' := ⟨fun D hD => ⟨(h.1 D hD).1, (h.1 D hD).2.1, (h.1 D hD).2.2.upd hu fun e => by
  obtain ⟨t, cs, hb⟩ := hg
  have hm := (h.1 D hD).2.2
  rw [e] at hm
  have h1 : w.heap[g]? = some (.deferred (some [])) := hm
  have h2 : w.heap[g]? = some (.cells cs t) := hb
  rw [h1] at h2; cases h2⟩, h.2⟩
theorem Marks.kc {E : Nat} {row : Option Nat} (h : Marks n m ds w) (hg : w.grownBy w' row) (hr : ∀ r, row = some r → E ≤ r ∧ ∃ o : Obj, w.heap[r]? = some o ∧ o.isCells = false) (hE : m ≤ E) : Marks n m ds w' :=
  ⟨fun D hD => ⟨(h.1 D hD).1, (h.1 D hD).2.1, (h.1 D hD).2.2.kc hg hr (by have := (h.1 D hD).2.1; omega)⟩, h.2⟩
theorem Marks.cons {D : Nat} (h : Marks n m ds w) (hM : Mark D w) (hn : n ≤ D) (hd : D ∉ ds) : Marks n w.heap.size (D :: ds) w := by
  refine ⟨fun E hE => ?_, List.nodup_cons.2 ⟨hd, h.2⟩⟩
  rcases List.mem_cons.1 hE with rfl | hE
  · exact ⟨hn, hM.lt, hM⟩
  · exact h.top.1 E hE
end
/-- all cells stay, and all below n -/
structure KC (n : Nat) (w w' : World) : Prop where
  os : w'.os = w.os
  tape : w'.tape = w.tape
  output : w'.output = w.output
  size : w.heap.size ≤ w'.heap.size
  below : ∀ k, k < n → k < w.heap.size → w'.heap[k]? = w.heap[k]?
  cells : ∀ B t cs, Blk w B t cs → Blk w' B t cs
theorem KC.refl (n : Nat) (w : World) : KC n w w := ⟨rfl, rfl, rfl, Nat.le_refl _, fun _ _ _ => rfl, fun _ _ _ h => h⟩
theorem KC.trans {n : Nat} {a b c : World} (h : KC n a b) (k : KC n b c) : KC n a c :=
  ⟨k.os.trans h.os, k.tape.trans h.tape, k.output.trans h.output, Nat.le_trans h.size k.size, fun i hi hs => (k.below i hi (Nat.lt_of_lt_of_le hs h.size)).trans (h.below i hi hs), fun B t cs hb => k.cells B t cs (h.cells B t cs hb)⟩
theorem mark_kc {n D : Nat} {w w' : World} (hM : Mark D w) (hn : n ≤ D) (hG : w.grownBy w' (some D)) : KC n w w' :=
  ⟨hG.os, hG.tape, hG.output, hG.size, fun k hk hs => hG.block k hs (fun e => by cases e; omega), fun B t cs hb => hb.gr hG (fun e => by
    cases e
    have h1 : w.heap[D]? = some (.deferred (some [])) := hM
    have h2 : w.heap[D]? = some (.cells cs t) := hb
    rw [h1] at h2; cases h2)⟩
theorem Ltr.kcn {n : Nat} {a w w' : World} (h : Ltr a w) (hk : KC n w w') (hn : a.heap.size ≤ n) : Ltr a w' :=
  ⟨hk.os.trans h.os, hk.tape.trans h.tape, hk.output.trans h.output, Nat.le_trans h.size hk.size, fun i hi => (hk.below i (by omega) (by have := h.size; omega)).trans (h.block i hi)⟩
theorem Blk.kcn {n : Nat} {w w' : World} {B : Nat} {t : TypeId} {cs : Array Value} (h : Blk w B t cs) (hk : KC n w w') (_ : 0 ≤ 0) : Blk w' B t cs := hk.cells B t cs h
section
variable {P : Program} {fn : Func} {R : Ending → World → Prop}
theorem bm_marks {n m : Nat} {tmps : Array Value} : ∀ {ds : List Nat} {w : World}, Marks n m ds w → (∀ w', KC n w w' → bodyPostM Fence.wide 0 P fn R .ret ⟨tmps, []⟩ w') → bodyPostM Fence.wide 0 P fn R .ret ⟨tmps, ds.map mkd⟩ w
  | [], w, _, hk => hk w (KC.refl n w)
  | D :: ds, w, h, hk => by
    have hD := h.1 D (by simp)
    refine bm_mark hD.2.2 fun w' hG hZ => bm_marks (n := n) (m := m) ⟨fun E hE => ?_, (List.nodup_cons.1 h.2).2⟩ fun w'' hw => hk w'' ((mark_kc hD.2.2 hD.1 hG).trans hw)
    have hE' := h.1 E (by simp [hE])
    refine ⟨hE'.1, hE'.2.1, (hG.block E hE'.2.2.lt (fun e => ?_)).trans hE'.2.2⟩
    cases e
    exact (List.nodup_cons.1 h.2).1 hE
end
/-- one proof for whatever comes behind a region that draws its order -/
theorem wp_meet {P : Program} {c : Code} {Q : Exit → Act → World → Prop} {a : Act} {w : World} (I : Act → World → Prop) (h1 : c.wp P (fun e a w => e = .normal ∧ I a w) a w) (h2 : ∀ a w, I a w → Q .normal a w) : c.wp P Q a w :=
  Code.wp_mono (fun e a w h => by obtain ⟨rfl, h⟩ := h; exact h2 a w h) h1
end Go.Proofs.YtliphfgiaioebaaDoor
