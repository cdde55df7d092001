/-
  Law 9: an act in memory; do; play.
  How deep a tree of so many bytes may be; binary digits.
  Law 9: what play leaves, as the laws' loops use it; chapter 9's Digits.
  Law 9: RopeDepth's function.
  The four laid variables: what the rows' list says of their cells.
  Law 9: an input's acts and bytes, opened; read again behind the call; a world that the cards start from.
  RopeDepth, where what it reads is of bulk at most 1048576: whatever the acts, it answers true, and its input reads as it did.
-/
import Derived.Test.YtliphfgiaioebaaDoorB15
import Derived.Test.YtliphfgiaioebaaDoorCards
import Derived.Test.YtliphfgiaioebaaDoorTie
import Derived.Lib.LaidTab
import Derived.Deep.Strs
import Derived.OpenShut
import Derived.ProofKit
import Derived.Deep.DeepHandedRow
import Derived.Deep.Slices
import Derived.Deep.Fields
import Derived.ChangeSame
namespace Go.Proofs.YtliphfgiaioebaaDoor
set_option linter.unusedVariables false
set_option linter.unusedSimpArgs false
open Go.RowKit
structure ActD where
  kind : Int
  a : Int
  b : Int
  lo : Int
  hi : Int
  T : Option Addr
  d : Nat
  t : List UInt8
def ActD.v (x : ActD) : List Value := [.int .i64 x.kind, .int .i64 x.a, .int .i64 x.b, .int .i64 x.lo, .int .i64 x.hi, .slice x.T x.t.length x.d]
def ActD.ok (n : Nat) (w : World) (x : ActD) : Prop := BytesN n w x.T x.t ∧ x.t.length ≤ x.d ∧ (x.T = none → x.d = 0) ∧ x.t.length ≤ 2000000
/-- acts that came in -/
def ActsAt (n : Nat) (w : World) (A : Option Addr) (l : List ActD) : Prop :=
  n ≤ w.heap.size ∧ (∀ x ∈ l, x.ok n w) ∧ (0 < l.length → ∃ b off, A = some ⟨b, off, none⟩ ∧ b < n ∧ ∀ i x j v, l[i]? = some x → x.v[j]? = some v → w.cell? ⟨b, off + i * 6 + j, none⟩ = some v)
theorem bytesN_bel {n m : Nat} {w w' : World} {A : Option Addr} {l : List UInt8} (h : BytesN n w A l) (hb : Below m w w') (hm : n ≤ m) : BytesN n w' A l :=
  ⟨Nat.le_trans h.1 hb.size, fun h0 => by
    obtain ⟨b, off, e, hc⟩ := h.2.1 h0
    have := h.2.2 h0 _ e
    simp only at this
    exact ⟨b, off, e, fun i hi => (hb.cell (p := ⟨b, off + i, none⟩) (by simp only; omega)).trans (hc i hi)⟩, h.2.2⟩
theorem ActsAt.bel {n m : Nat} {w w' : World} {A : Option Addr} {l : List ActD} (h : ActsAt n w A l) (hb : Below m w w') (hm : n ≤ m) : ActsAt n w' A l :=
  ⟨Nat.le_trans h.1 hb.size, fun x hx => ⟨bytesN_bel (h.2.1 x hx).1 hb hm, (h.2.1 x hx).2⟩, fun h0 => by
    obtain ⟨b, off, e, h1, hc⟩ := h.2.2 h0
    exact ⟨b, off, e, h1, fun i x j v hx hv => (hb.cell (p := ⟨b, off + i * 6 + j, none⟩) (by simp only; omega)).trans (hc i x j v hx hv)⟩⟩
theorem ActsAt.later {n : Nat} {w w' : World} {A : Option Addr} {l : List ActD} (h : ActsAt n w A l) (hl : Ltr w w') : ActsAt n w' A l := h.bel (m := n) (Below.mono hl h.1) (Nat.le_refl _)
theorem ActsAt.upd {n g : Nat} {w w' : World} {A : Option Addr} {l : List ActD} (h : ActsAt n w A l) (hu : Upd g w w') (hg : n ≤ g) : ActsAt n w' A l := h.bel (m := n) (hu.below (Below.refl _ _) hg) (Nat.le_refl _)
theorem Book.upd {n g : Nat} {w w' : World} {vr vt : Value} {rs : List (Nat × List UInt8)} (h : Book n w vr vt rs) (hu : Upd g w w') (hg : ∃ t cs, Blk w g t cs ∧ t ≠ 31 ∧ t ≠ 9 ∧ nodeT t = false) : Book n w' vr vt rs := by
  obtain ⟨t, cs, hb, h1, h2, h3⟩ := hg
  exact ⟨h.rope.upd hu (blk_ne h.rope hb h1), h.text.upd hu (blk_ne h.text hb h2), fun p hp => (h.each p hp).tl (hu.tl hb h3)⟩
theorem Own.cells {n : Nat} {E : TypeId} {w : World} {A : Option Addr} {k c : Nat} {xs : List Value} (h : Own n E w (.slice A k c) xs) : CellsAt w A xs := by
  obtain ⟨A', c', e, hc, -⟩ := h.form
  cases e; exact hc
theorem Own.len {n : Nat} {E : TypeId} {w : World} {A : Option Addr} {k c : Nat} {xs : List Value} (h : Own n E w (.slice A k c) xs) : k = xs.length := by
  obtain ⟨A', c', e, hc, -⟩ := h.form
  cases e; rfl
/-- the address of an element of several cells -/
theorem ex_indexN (k : Nat) {o : Oper} {ρ : Operand → Value} {ty : TypeId} {x y : Operand} {A : Option Addr} {b off n c : Nat} (i : Nat) (ho : o.op = .indexAddr ty x y) (hx : ρ x = .slice A n c) (hA : A = some ⟨b, off, none⟩) (hy : ρ y = .int .i64 (i : Int))
    (hu : Tryd.prog.underlying ty = some (.slice (Tryd.prog.elem ty))) (hs : ∀ w, (sizeOf (Tryd.prog.elem ty)).run Tryd.prog w = .ok k w) (hi : i < n) (w : World) :
    (execOp ρ o).run Tryd.prog w = .ok (.value (.pointer (some ⟨b, off + i * k, none⟩))) w := by
  subst hA
  have h1 : (0 : Int) ≤ (i : Int) ∧ (i : Int) < (n : Int) := by omega
  unfold execOp
  simp [ho, hx, hy, Instr.indexAt, asIntOf, Sem.run_bind, run_underlying hu, hs, hi, add_none]
theorem ex_indexA {o : Oper} {ρ : Operand → Value} {ty : TypeId} {x y : Operand} {A : Option Addr} {b off n c : Nat} (i : Nat) (ho : o.op = .indexAddr ty x y) (hx : ρ x = .slice A n c) (hA : A = some ⟨b, off, none⟩) (hy : ρ y = .int .i64 (i : Int))
    (hu : Tryd.prog.underlying ty = some (.slice (Tryd.prog.elem ty))) (hs : ∀ w, (sizeOf (Tryd.prog.elem ty)).run Tryd.prog w = .ok 1 w) (hi : i < n) (w : World) :
    (execOp ρ o).run Tryd.prog w = .ok (.value (.pointer (some ⟨b, off + i, none⟩))) w := by
  have := ex_indexN 1 i ho hx hA hy hu hs hi w
  rwa [Nat.mul_one] at this
theorem ldC (ty : TypeId) {o : Oper} {ρ : Operand → Value} (x : Operand) (ho : o.op = .load ty x) (b off : Nat) (cs : List Value) (hx : ρ x = .pointer (some ⟨b, off, none⟩)) (hq : ∀ w, (isAgg ty).run Tryd.prog w = .ok true w)
    (hi : (Tryd.prog.info? ty).map (·.size) = some cs.length) {w : World} (hc : ∀ j v, cs[j]? = some v → w.cell? ⟨b, off + j, none⟩ = some v) : (execOp ρ o).run Tryd.prog w = .ok (.value (.agg cs.toArray)) w := by
  have hl : (loadCells ⟨b, off, none⟩ cs.length).run Tryd.prog w = .ok cs.toArray w :=
    run_loadCells_list (P := Tryd.prog) w ⟨b, off, none⟩ cs (fun j v hv => by rw [add_none]; exact hc j v hv)
  have hlv : (loadVar ty ⟨b, off, none⟩).run Tryd.prog w = .ok (.agg cs.toArray) w := by
    cases hq' : Tryd.prog.info? ty with
    | none => simp [hq'] at hi
    | some i =>
      have hs : i.size = cs.length := by simpa [hq'] using hi
      simp [loadVar, Sem.run_bind, hq w, sizeOf, typeInfo, hq', hs, hl]
  unfold execOp
  simp only [ho, hx, Instr.loadAt, Instr.sureAddr, Sem.run_bind, Sem.run_pure, Result.andThen_ok, hlv]
/-- the book behind an act -/
def DoQ (n B : Nat) (rs : List (Nat × List UInt8)) (w : World) (e : Ending) (w' : World) : Prop :=
  e = .returned (.bool true) ∧ ∃ A1 c1 A2 c2 rs', Blk w' B 27 #[.slice A1 rs'.length c1, .slice A2 rs'.length c2] ∧ Book n w' (.slice A1 rs'.length c1) (.slice A2 rs'.length c2) rs' ∧ Bel n w w' ∧ ∃ add, rs' = rs ++ add ∧ AddOk add
theorem DoP.q {n B : Nat} {rs : List (Nat × List UInt8)} {w w' : World} {e : Ending} (h : DoP n B rs w e w') : DoQ n B rs w e w' := by
  obtain ⟨rfl, vr, vt, add, hx, hk, hb, ha⟩ := h
  obtain ⟨A1, c1, rfl, -, -⟩ := hk.rope.form
  obtain ⟨A2, c2, rfl, -, -⟩ := hk.text.form
  rw [List.length_map, List.length_map] at *
  exact ⟨rfl, A1, c1, A2, c2, _, hx, hk, hb, add, rfl, ha⟩
theorem do_any (n B : Nat) (A1 A2 : Option Addr) (c1 c2 : Nat) (rs : List (Nat × List UInt8)) (x : ActD) (w : World) (hT : Tabs w) (hx : Blk w B 27 #[.slice A1 rs.length c1, .slice A2 rs.length c2]) (hk : Book n w (.slice A1 rs.length c1) (.slice A2 rs.length c2) rs)
    (hnB : n ≤ B) (hrs : rs.length ≤ 3000000) (hsm : ∀ p ∈ rs, p.2.length ≤ 32768) {m : Nat} (ho : x.ok m w) :
    Calls Tryd.prog 58 #[.pointer (some ⟨B, 0, none⟩), .agg #[.int .i64 x.kind, .int .i64 x.a, .int .i64 x.b, .int .i64 x.lo, .int .i64 x.hi, .slice x.T x.t.length x.d]] w (DoQ n B rs w) := by
  obtain ⟨kind, ka, kb, lo, hi, T, d, t⟩ := x
  obtain ⟨o1, o2, o3, o4⟩ := ho
  simp only at o1 o2 o3 o4 ⊢
  refine Calls.mono ?_ fun e w' h => DoP.q h
  by_cases h0 : rs = [] ∨ kind < 1 ∨ 3 < kind
  · exact do_new n B A1 A2 c1 c2 rs ka kb lo hi T d t w kind h0 hT hx hk hnB hrs o1.at o3 o4
  · have hpos : 0 < rs.length := List.length_pos_iff.2 (fun e => h0 (.inl e))
    have hC1 := hk.rope.cells
    have hC2 := hk.text.cells
    obtain ⟨g1, p1, rfl, -⟩ := hC1 (by rw [List.length_map]; exact hpos)
    obtain ⟨g2, p2, rfl, -⟩ := hC2 (by rw [List.length_map]; exact hpos)
    obtain ⟨bi, li, hi1⟩ := at_all hpos ka
    obtain ⟨bj, lj, hj1⟩ := at_all hpos kb
    have h1 : kind = 1 ∨ kind = 2 ∨ kind = 3 := by
      have h2 : ¬ kind < 1 := fun h => h0 (.inr (.inl h))
      have h3 : ¬ 3 < kind := fun h => h0 (.inr (.inr h))
      omega
    rcases h1 with rfl | rfl | rfl
    · exact do_join n B g1 p1 g2 p2 c1 c2 rs ka kb T d t w lo hi hpos hT hx hk hC1 hC2 hnB hrs hsm bi bj li lj hi1 hj1
    · by_cases hm : lo < 0 ∨ (li.length : Int) < lo
      · exact do_split_out n B g1 p1 g2 p2 c1 c2 rs ka kb T d t w lo hi hpos hT hx hk hC1 hC2 hnB hrs hsm bi li hi1 hm
      · obtain ⟨q, rfl⟩ := Int.eq_ofNat_of_zero_le (by omega : 0 ≤ lo)
        exact do_split n B g1 p1 g2 p2 c1 c2 rs ka kb T d t w q hi hpos hT hx hk hC1 hC2 hnB hrs hsm bi li hi1 (by omega)
    · by_cases hm : 0 ≤ lo ∧ lo ≤ hi ∧ hi ≤ li.length
      · obtain ⟨q, rfl⟩ := Int.eq_ofNat_of_zero_le hm.1
        obtain ⟨r, rfl⟩ := Int.eq_ofNat_of_zero_le (by omega : 0 ≤ hi)
        exact do_rep n B g1 p1 g2 p2 c1 c2 rs ka kb T d t w q r hpos hT hx hk hC1 hC2 hnB hrs hsm bi li hi1 (by omega) (by omega) o1.at o2 o3 o4
      · exact do_rep_out n B g1 p1 g2 p2 c1 c2 rs ka kb T d t w lo hi hpos hT hx hk hC1 hC2 hnB hrs hsm bi li hi1 hm o1.at o3 o4
theorem sm_next {rs add rs2 : List (Nat × List UInt8)} (e : rs2 = rs ++ add) (hsm : ∀ p ∈ rs, p.2.length ≤ 32768) (ha : AddOk add) (h : rs2 = [] ∨ ∃ x, rs2[rs2.length - 1]? = some x ∧ x.2.length ≤ 32768) : ∀ p ∈ rs2, p.2.length ≤ 32768 := by
  intro p hp
  rcases h with rfl | ⟨x, hx, hl⟩
  · cases hp
  · subst e
    rcases List.mem_append.1 hp with hp | hp
    · exact hsm p hp
    · refine ha.2.2 x ?_ hl p hp
      rw [← List.getLast?_eq_getElem?, List.getLast?_append] at hx
      cases h : add.getLast? with
      | none => rw [List.getLast?_eq_none_iff] at h; rw [h] at hp; cases hp
      | some y => rw [h] at hx; simpa using hx
theorem big_next {rs add rs2 : List (Nat × List UInt8)} (e : rs2 = rs ++ add) (hsm : ∀ p ∈ rs, p.2.length ≤ 32768) (ha : AddOk add) : ∀ p ∈ rs2, p.2.length ≤ 4000000 := by
  intro p hp
  subst e
  rcases List.mem_append.1 hp with hp | hp
  · have := hsm p hp; omega
  · exact ha.2.1 p hp
theorem len_next {rs add rs2 : List (Nat × List UInt8)} (e : rs2 = rs ++ add) (ha : AddOk add) : rs2.length ≤ rs.length + 2 := by
  have := ha.1
  rw [e, List.length_append]; omega
/-- what play leaves -/
def Played (n : Nat) (A1 A2 : Option Addr) (c1 c2 : Nat) (rs : List (Nat × List UInt8)) (w : World) : Prop :=
  Book n w (.slice A1 rs.length c1) (.slice A2 rs.length c2) rs ∧ rs.length ≤ 3000000 ∧ ∀ p ∈ rs, p.2.length ≤ 4000000
def PlayP (w : World) (e : Ending) (w' : World) : Prop :=
  ∃ A1 A2 c1 c2 rs, e = .returned (.tuple #[.agg #[.slice A1 rs.length c1, .slice A2 rs.length c2], .bool true]) ∧ Ltr w w' ∧ Played w.heap.size A1 A2 c1 c2 rs w'
set_option maxRecDepth 100000 in
set_option maxHeartbeats 8000000 in
theorem play_any (A : Option Addr) (c : Nat) (l : List ActD) (w : World) (hT : Tabs w) (hA : ActsAt w.heap.size w A l) (hc : l.length ≤ c) (hm : l.length ≤ 1100000) :
    Calls Tryd.prog 18 #[.slice A l.length c] w (PlayP w) := by
  have hB := Ltr.refl w
  go_enter Tryd.func18, Tryd.ntmps18
  have h4 := hT.four
  refine wp_seq_k fun KK1 hKK1 => rl_begin fun hgK hgo => ?_
  refine rl_alloc (some 2) 27 #[.slice none 0 0, .slice none 0 0] rfl (by kernel_rfl) (fun W => by kernel_rfl) fun rb w2 hL2 hp2 hrb => ?_
  replace hT := hT.later hL2
  replace hB := hB.later hL2
  replace hA := hA.later hL2
  have hz2 := hL2.size
  have hlt2 := hrb.lt
  try simp only [pp]
  refine tk 3 (.bool false) ?_
  try simp only [pp]
  refine rl_end hgo <| hKK1 _ _ <| wp_seq_k fun KK3 hKK3 => rl_begin fun hgK hgo => ?_
  refine rl_alloc (some 4) 27 #[.slice none 0 0, .slice none 0 0] rfl (by kernel_rfl) (fun W => by kernel_rfl) fun xb w4 hL4 hp4 hxb => ?_
  replace hT := hT.later hL4
  replace hB := hB.later hL4
  replace hA := hA.later hL4
  replace hrb := hrb.later hL4
  have hz4 := hL4.size
  have hlt4 := hxb.lt
  try simp only [pp]
  refine rl_end hgo <| hKK3 _ _ <| wp_seq_k fun KK5 hKK5 => wp_seq_k fun KK6 hKK6 => rl_begin fun hgK hgo => tk 5 (.int .i64 0) ?_
  try simp only [pp]
  refine rl_end hgo <| hKK6 _ _ <| wp_block ?_
  refine wp_loop_ghost (fun gn ga wl => ∃ (u : Nat → Value) (i : Nat) (A1 A2 : Option Addr) (c1 c2 : Nat) (rs : List (Nat × List UInt8)), gn = l.length - i ∧ ga = ⟨#[.slice A l.length c, undef, .pointer (some ⟨rb, 0, none⟩), u 3, .pointer (some ⟨xb, 0, none⟩), .int .i64 i, u 6, u 7, u 8, u 9, u 10, u 11, u 12, u 13, u 14, u 15, u 16, u 17, u 18, u 19, u 20, u 21, u 22, u 23, u 24, u 25, u 26, u 27, u 28, u 29, u 30, u 31, u 32, u 33, u 34, undef], []⟩ ∧ (i ≤ l.length) ∧ (rs.length ≤ 2 * i) ∧ (∀ p ∈ rs, p.2.length ≤ 32768) ∧ (Tabs wl) ∧ (Ltr w wl) ∧ (ActsAt w.heap.size wl A l) ∧ (Book xb wl (.slice A1 rs.length c1) (.slice A2 rs.length c2) rs) ∧ (Blk wl rb 27 #[.slice none 0 0, .slice none 0 0]) ∧ (Blk wl xb 27 #[.slice A1 rs.length c1, .slice A2 rs.length c2])) ((fun (i : Nat) (A1 A2 : Option Addr) (c1 c2 : Nat) (rs : List (Nat × List UInt8)) => (l.length - i : Nat)) 0 none none 0 0 []) ?_ ?_
  · exact ⟨fun gj => (#[.slice A l.length c, undef, .pointer (some ⟨rb, 0, none⟩), .bool false, .pointer (some ⟨xb, 0, none⟩), .int .i64 0, undef, undef, undef, undef, undef, undef, undef, undef, undef, undef, undef, undef, undef, undef, undef, undef, undef, undef, undef, undef, undef, undef, undef, undef, undef, undef, undef, undef, undef, undef]).getD gj undef, 0, none, none, 0, 0, [], rfl, rfl, Nat.zero_le _, Nat.le_refl _, (by simp), by assumption, by assumption, by assumption, ⟨.nil _ _ _ (by omega), .nil _ _ _ (by omega), by simp⟩, by assumption, by assumption⟩
  rintro n7 a7 w7 ⟨u, i, A1, A2, c1, c2, rs, rfl, rfl, hil', hrl', hsm', hT', hB', hA', hk', hrb', hxb'⟩
  clear hxb hrb hA hB hT
  have hil := hil'
  clear hil'
  have hrl := hrl'
  clear hrl'
  have hsm := hsm'
  clear hsm'
  have hT := hT'
  clear hT'
  have hB := hB'
  clear hB'
  have hA := hA'
  clear hA'
  have hk := hk'
  clear hk'
  have hrb := hrb'
  clear hrb'
  have hxb := hxb'
  clear hxb'
  have hlt_hrb_7 := hrb.lt
  have hlt_hxb_7 := hxb.lt
  refine wp_seq_k fun KK8 hKK8 => wp_seq_k fun KK9 hKK9 => rl_begin fun hgK hgo => tk 6 (.int .i64 i) <| tk 7 (.slice A l.length c) <| tk 8 (.int .i64 l.length) ?_
  try simp only [pp]
  by_cases h1 : (i : Int) < l.length
  · refine tx 9 (.bool true) (by exact ex_bool (c := (i : Int) < l.length) (by kernel_rfl) ⟨fun _ => by omega, fun _ => rfl⟩) ?_
    try simp only [pp]
    refine rl_end hgo <| hKK9 _ _ <| wp_cond_true (by kernel_rfl) <| wp_skip <| hKK8 _ _ <| wp_seq_k fun KK10 hKK10 => wp_block <| wp_seq_k fun KK11 hKK11 => wp_seq_k fun KK12 hKK12 => rl_begin fun hgK hgo => tk 12 (.slice A l.length c) <| tk 13 (.int .i64 i) ?_
    try simp only [pp]
    (obtain ⟨ab, ao, hAe, hab, hac⟩ := hA.2.2 (by omega)); (obtain ⟨x, hxi⟩ : ∃ x, l[i]? = some x := ⟨_, List.getElem?_eq_getElem (by omega)⟩)
    refine tx 14 (.pointer (some ⟨ab, ao + i * 6, none⟩)) (by exact ex_indexN 6 i rfl rfl hAe rfl (by kernel_rfl) (fun _ => by kernel_rfl) (by omega) _) ?_
    try simp only [pp]
    refine tx 15 (.agg #[.int .i64 x.kind, .int .i64 x.a, .int .i64 x.b, .int .i64 x.lo, .int .i64 x.hi, .slice x.T x.t.length x.d]) (by exact ldC 105 _ rfl ab (ao + i * 6) x.v rfl (fun _ => by kernel_rfl) (by kernel_rfl) (fun j v hv => hac i x j v hxi hv)) ?_
    try simp only [pp]
    refine rl_call (some 16) 58 #[.pointer (some ⟨xb, 0, none⟩), .agg #[.int .i64 x.kind, .int .i64 x.a, .int .i64 x.b, .int .i64 x.lo, .int .i64 x.hi, .slice x.T x.t.length x.d]] rfl (by kernel_rfl) (by kernel_rfl) (do_any xb xb A1 A2 c1 c2 rs x _ hT hxb hk (Nat.le_refl _) (by omega) hsm (hA.2.1 x (List.mem_of_getElem? hxi))) ?_
    rintro e w13 ⟨rfl, P1, q1, P2, q2, rs2, hx2, hk2, hBl2, add, hrs2, hAdd⟩
    refine ⟨_, rfl, ?_⟩
    (replace hT := hT.bel hBl2.2 (by omega)); (replace hB := hB.bel hBl2.2 (by omega)); (replace hA := hA.bel hBl2.2 (by omega)); (replace hrb := hrb.bel hBl2.2 (by omega)); (have hz2 := hBl2.2.size); (have hln := len_next hrs2 hAdd); (have hbn := big_next hrs2 hsm hAdd)
    clear hk
    clear hxb
    have hlt_hx2 := hx2.lt
    try simp only [pp]
    refine tk 17 (.bool false) ?_
    try simp only [pp]
    refine rl_end hgo <| hKK12 _ _ <| wp_cond_false (by kernel_rfl) <| wp_skip <| hKK11 _ _ <| wp_seq_k fun KK14 hKK14 => rl_begin fun hgK hgo => tk 19 (.pointer (some ⟨xb, 1, none⟩)) ?_
    try simp only [pp]
    refine tx 20 (.slice P2 rs2.length q2) (by exact ld1 25 _ rfl xb 1 rfl (fun _ => by kernel_rfl) _ (hx2.cell 1)) <| tk 21 (.int .i64 rs2.length) ?_
    try simp only [pp]
    by_cases h5 : (rs2.length : Int) > 0
    · refine tx 22 (.bool true) (by exact ex_bool (c := (rs2.length : Int) > 0) (by kernel_rfl) ⟨fun _ => by omega, fun _ => rfl⟩) <| tk 23 (.bool true) <| tk 24 (.pointer (some ⟨xb, 1, none⟩)) ?_
      try simp only [pp]
      refine tx 25 (.slice P2 rs2.length q2) (by exact ld1 25 _ rfl xb 1 rfl (fun _ => by kernel_rfl) _ (hx2.cell 1)) <| tk 26 (.pointer (some ⟨xb, 1, none⟩)) ?_
      try simp only [pp]
      refine tx 27 (.slice P2 rs2.length q2) (by exact ld1 25 _ rfl xb 1 rfl (fun _ => by kernel_rfl) _ (hx2.cell 1)) <| tk 28 (.int .i64 rs2.length) ?_
      try simp only [pp]
      refine tx 29 (.int .i64 (((rs2.length - 1 : Nat) : Int))) (by exact ex_arith (e := (rs2.length : Int) - 1) (r := ((rs2.length - 1 : Nat) : Int)) (by kernel_rfl) (by omega) (by omega)) ?_
      try simp only [pp]
      (obtain ⟨lb, lo, hle, hlc⟩ := hk2.text.cells (by rw [List.length_map]; omega)); (obtain ⟨y, hy⟩ : ∃ y, rs2[rs2.length - 1]? = some y := ⟨_, List.getElem?_eq_getElem (by omega)⟩)
      refine tx 30 (.pointer (some ⟨lb, lo + (rs2.length - 1), none⟩)) (by exact ex_indexA (rs2.length - 1) rfl rfl hle rfl (by kernel_rfl) (fun _ => by kernel_rfl) (by omega) _) ?_
      try simp only [pp]
      refine tx 31 (.string (bs y.2)) (by exact ld1 9 _ rfl lb (lo + (rs2.length - 1)) rfl (fun _ => by kernel_rfl) _ (hlc _ _ (by rw [List.getElem?_map, hy]; rfl))) ?_
      try simp only [pp]
      refine tx 32 (.int .i64 y.2.length) (by exact ex_len_bs (by kernel_rfl)) ?_
      try simp only [pp]
      by_cases h6 : (y.2.length : Int) > 32768
      · refine tx 33 (.bool true) (by exact ex_bool (c := (y.2.length : Int) > 32768) (by kernel_rfl) ⟨fun _ => by omega, fun _ => rfl⟩) <| tk 34 (.bool true) ?_
        try simp only [pp]
        refine rl_end hgo <| hKK14 _ _ <| wp_cond_true (by kernel_rfl) <| wp_exit <| hKK5 _ _ <| wp_seq_k fun KK15 hKK15 => rl_begin fun hgK hgo => ?_
        refine tx 35 (.agg #[.slice P1 rs2.length q1, .slice P2 rs2.length q2]) (by exact ldN 27 _ rfl xb 0 rfl (fun _ => by kernel_rfl) [] [.slice P1 rs2.length q1, .slice P2 rs2.length q2] [] (by kernel_rfl) hx2 rfl rfl) ?_
        try simp only [pp]
        refine rl_store rb #[.slice P1 rs2.length q1, .slice P2 rs2.length q2] rfl rfl (by kernel_rfl) rfl rfl (by kernel_rfl) hrb rfl (by kernel_rfl) fun w16 hU16 hn16 => ?_
        have hz16 := hU16.size
        replace hT := hT.upd hU16 (by omega)
        replace hB := hB.upd hU16 (by omega)
        replace hA := hA.upd hU16 (by omega)
        replace hk2 := hk2.upd hU16 (⟨_, _, hrb, by decide, by decide, rfl⟩)
        replace hx2 := hx2.upd hU16 (by omega)
        clear hrb
        have hrb := hn16
        clear hn16
        try simp only [pp]
        refine tk 3 (.bool true) ?_
        try simp only [pp]
        refine rl_end hgo <| hKK15 _ _ ?_
        refine wp_ret ?_
        try simp only [Exit.then, Exit.inBlock]
        refine bp_ret (v := .tuple #[.agg #[.slice P1 rs2.length q1, .slice P2 rs2.length q2], .bool true]) (res2 rfl (res_cell (b := rb) (cs := [.slice P1 rs2.length q1, .slice P2 rs2.length q2]) (by kernel_rfl) (fun _ => by kernel_rfl) (by kernel_rfl) hrb) (res_tmp (by kernel_rfl))) ?_
        exact ⟨_, _, _, _, _, rfl, hB, ⟨⟨hk2.rope.mono (by omega), hk2.text.mono (by omega), hk2.each⟩, by omega, hbn⟩⟩
      · refine tx 33 (.bool false) (by exact ex_bool (c := (y.2.length : Int) > 32768) (by kernel_rfl) ⟨fun q => (by cases q), fun q => absurd q (by omega)⟩) <| tk 34 (.bool false) ?_
        try simp only [pp]
        refine rl_end hgo <| hKK14 _ _ <| wp_cond_false (by kernel_rfl) <| wp_skip <| hKK10 _ _ <| rl_begin fun hgK hgo => tk 10 (.int .i64 i) ?_
        try simp only [pp]
        refine tx 11 (.int .i64 (((i + 1 : Nat) : Int))) (by exact ex_arith (e := (i : Int) + 1) (r := ((i + 1 : Nat) : Int)) (by kernel_rfl) (by omega) (by omega)) <| tk 5 (.int .i64 (((i + 1 : Nat) : Int))) ?_
        try simp only [pp]
        refine rl_end hgo ?_
        exact ⟨_, (by omega), fun gj => (#[.slice A l.length c, undef, .pointer (some ⟨rb, 0, none⟩), u 3, .pointer (some ⟨xb, 0, none⟩), .int .i64 (((i + 1 : Nat) : Int)), .int .i64 i, .slice A l.length c, .int .i64 l.length, .bool true, .int .i64 i, .int .i64 (((i + 1 : Nat) : Int)), .slice A l.length c, .int .i64 i, .pointer (some ⟨ab, ao + i * 6, none⟩), .agg #[.int .i64 x.kind, .int .i64 x.a, .int .i64 x.b, .int .i64 x.lo, .int .i64 x.hi, .slice x.T x.t.length x.d], .bool true, .bool false, u 18, .pointer (some ⟨xb, 1, none⟩), .slice P2 rs2.length q2, .int .i64 rs2.length, .bool true, .bool true, .pointer (some ⟨xb, 1, none⟩), .slice P2 rs2.length q2, .pointer (some ⟨xb, 1, none⟩), .slice P2 rs2.length q2, .int .i64 rs2.length, .int .i64 (((rs2.length - 1 : Nat) : Int)), .pointer (some ⟨lb, lo + (rs2.length - 1), none⟩), .string (bs y.2), .int .i64 y.2.length, .bool false, .bool false, undef]).getD gj undef, i + 1, P1, P2, q1, q2, rs2, rfl, rfl, by omega, by omega, sm_next hrs2 hsm hAdd (.inr ⟨y, hy, by omega⟩), by assumption, by assumption, by assumption, by assumption, by assumption, by assumption⟩
    · refine tx 22 (.bool false) (by exact ex_bool (c := (rs2.length : Int) > 0) (by kernel_rfl) ⟨fun q => (by cases q), fun q => absurd q (by omega)⟩) <| tk 23 (.bool false) ?_
      try simp only [pp]
      refine rl_pass (some 24) rfl (by kernel_rfl) ?_
      try simp only [pp]
      refine rl_pass (some 25) rfl (by kernel_rfl) ?_
      try simp only [pp]
      refine rl_pass (some 26) rfl (by kernel_rfl) ?_
      try simp only [pp]
      refine rl_pass (some 27) rfl (by kernel_rfl) ?_
      try simp only [pp]
      refine rl_pass (some 28) rfl (by kernel_rfl) ?_
      try simp only [pp]
      refine rl_pass (some 29) rfl (by kernel_rfl) ?_
      try simp only [pp]
      refine rl_pass (some 30) rfl (by kernel_rfl) ?_
      try simp only [pp]
      refine rl_pass (some 31) rfl (by kernel_rfl) ?_
      try simp only [pp]
      refine rl_pass (some 32) rfl (by kernel_rfl) ?_
      try simp only [pp]
      refine rl_pass (some 33) rfl (by kernel_rfl) ?_
      try simp only [pp]
      refine tk 34 (.bool false) ?_
      try simp only [pp]
      refine rl_end hgo <| hKK14 _ _ <| wp_cond_false (by kernel_rfl) <| wp_skip <| hKK10 _ _ <| rl_begin fun hgK hgo => tk 10 (.int .i64 i) ?_
      try simp only [pp]
      refine tx 11 (.int .i64 (((i + 1 : Nat) : Int))) (by exact ex_arith (e := (i : Int) + 1) (r := ((i + 1 : Nat) : Int)) (by kernel_rfl) (by omega) (by omega)) <| tk 5 (.int .i64 (((i + 1 : Nat) : Int))) ?_
      try simp only [pp]
      refine rl_end hgo ?_
      exact ⟨_, (by omega), fun gj => (#[.slice A l.length c, undef, .pointer (some ⟨rb, 0, none⟩), u 3, .pointer (some ⟨xb, 0, none⟩), .int .i64 (((i + 1 : Nat) : Int)), .int .i64 i, .slice A l.length c, .int .i64 l.length, .bool true, .int .i64 i, .int .i64 (((i + 1 : Nat) : Int)), .slice A l.length c, .int .i64 i, .pointer (some ⟨ab, ao + i * 6, none⟩), .agg #[.int .i64 x.kind, .int .i64 x.a, .int .i64 x.b, .int .i64 x.lo, .int .i64 x.hi, .slice x.T x.t.length x.d], .bool true, .bool false, u 18, .pointer (some ⟨xb, 1, none⟩), .slice P2 rs2.length q2, .int .i64 rs2.length, .bool false, .bool false, undef, undef, undef, undef, undef, undef, undef, undef, undef, undef, .bool false, undef]).getD gj undef, i + 1, P1, P2, q1, q2, rs2, rfl, rfl, by omega, by omega, sm_next hrs2 hsm hAdd (.inl (List.length_eq_zero_iff.1 (by omega))), by assumption, by assumption, by assumption, by assumption, by assumption, by assumption⟩
  · refine tx 9 (.bool false) (by exact ex_bool (c := (i : Int) < l.length) (by kernel_rfl) ⟨fun q => (by cases q), fun q => absurd q (by omega)⟩) ?_
    try simp only [pp]
    refine rl_end hgo <| hKK9 _ _ <| wp_cond_false (by kernel_rfl) <| wp_exit <| hKK5 _ _ <| wp_seq_k fun KK17 hKK17 => rl_begin fun hgK hgo => ?_
    refine tx 35 (.agg #[.slice A1 rs.length c1, .slice A2 rs.length c2]) (by exact ldN 27 _ rfl xb 0 rfl (fun _ => by kernel_rfl) [] [.slice A1 rs.length c1, .slice A2 rs.length c2] [] (by kernel_rfl) hxb rfl rfl) ?_
    try simp only [pp]
    refine rl_store rb #[.slice A1 rs.length c1, .slice A2 rs.length c2] rfl rfl (by kernel_rfl) rfl rfl (by kernel_rfl) hrb rfl (by kernel_rfl) fun w18 hU18 hn18 => ?_
    have hz18 := hU18.size
    replace hT := hT.upd hU18 (by omega)
    replace hB := hB.upd hU18 (by omega)
    replace hA := hA.upd hU18 (by omega)
    replace hk := hk.upd hU18 (⟨_, _, hrb, by decide, by decide, rfl⟩)
    replace hxb := hxb.upd hU18 (by omega)
    clear hrb
    have hrb := hn18
    clear hn18
    try simp only [pp]
    refine tk 3 (.bool true) ?_
    try simp only [pp]
    refine rl_end hgo <| hKK17 _ _ ?_
    refine wp_ret ?_
    try simp only [Exit.then, Exit.inBlock]
    refine bp_ret (v := .tuple #[.agg #[.slice A1 rs.length c1, .slice A2 rs.length c2], .bool true]) (res2 rfl (res_cell (b := rb) (cs := [.slice A1 rs.length c1, .slice A2 rs.length c2]) (by kernel_rfl) (fun _ => by kernel_rfl) (by kernel_rfl) hrb) (res_tmp (by kernel_rfl))) ?_
    exact ⟨_, _, _, _, _, rfl, hB, ⟨⟨hk.rope.mono (by omega), hk.text.mono (by omega), hk.each⟩, by omega, fun p hp => by have := hsm p hp; omega⟩⟩
end Go.Proofs.YtliphfgiaioebaaDoor
namespace Go.Proofs.YtliphfgiaioebaaDoor
set_option linter.unusedVariables false
set_option linter.unusedSimpArgs false
open Go.RowKit
theorem Tr.pow_le : ∀ t : Tr, t.ok → 2 ^ ((t.h - 1) / 2) ≤ t.bytes.length
  | .tip l, h => by have h1 := h.1; simp [Tr.h, Tr.bytes]; omega
  | .fork x y, ⟨hx, hy, h1, h2⟩ => by
    have ix := Tr.pow_le x hx
    have iy := Tr.pow_le y hy
    have px := x.h_pos
    have py := y.h_pos
    have lx := x.len_pos hx
    have ly := y.len_pos hy
    simp only [Tr.h, Tr.bytes, List.length_append]
    have key : ∀ a b : Nat, a ≤ b + 1 → b ≤ a + 1 → 1 ≤ a → 1 ≤ b → 2 ^ ((a - 1) / 2) ≤ x.bytes.length → 2 ^ ((b - 1) / 2) ≤ y.bytes.length → 2 ^ ((1 + max a b - 1) / 2) ≤ x.bytes.length + y.bytes.length := by
      intro a b h1 h2 ha hb i1 i2
      have hm : (1 + max a b - 1) / 2 ≤ (a - 1) / 2 + 1 ∧ (1 + max a b - 1) / 2 ≤ (b - 1) / 2 + 1 ∨ max a b ≤ 1 := by omega
      rcases hm with ⟨m1, m2⟩ | hm
      · by_cases hab : (a - 1) / 2 ≤ (b - 1) / 2
        · have h3 : 2 ^ ((1 + max a b - 1) / 2) ≤ 2 ^ ((a - 1) / 2 + 1) := Nat.pow_le_pow_right (by decide) m1
          have h4 : 2 ^ ((a - 1) / 2) ≤ 2 ^ ((b - 1) / 2) := Nat.pow_le_pow_right (by decide) hab
          rw [Nat.pow_succ] at h3
          omega
        · have h3 : 2 ^ ((1 + max a b - 1) / 2) ≤ 2 ^ ((b - 1) / 2 + 1) := Nat.pow_le_pow_right (by decide) m2
          have h4 : 2 ^ ((b - 1) / 2) ≤ 2 ^ ((a - 1) / 2) := Nat.pow_le_pow_right (by decide) (by omega)
          rw [Nat.pow_succ] at h3
          omega
      · rw [show (1 + max a b - 1) / 2 = 0 by omega]; simp; omega
    exact key _ _ h1 h2 px py ix iy
def digitsN (n : Nat) : Nat := if n = 0 then 0 else 1 + digitsN (n / 2)
theorem digitsN_zero : digitsN 0 = 0 := by unfold digitsN; rfl
theorem digitsN_pos {n : Nat} (h : 0 < n) : digitsN n = 1 + digitsN (n / 2) := by rw [digitsN, if_neg (by omega)]
theorem lt_digits (n : Nat) : n < 2 ^ digitsN n := by
  induction n using Nat.strongRecOn with
  | ind n ih =>
    by_cases h : n = 0
    · subst h; rw [digitsN_zero]; decide
    · rw [digitsN_pos (by omega), Nat.add_comm, Nat.pow_succ]
      have := ih (n / 2) (by omega)
      omega
theorem digits_le (k : Nat) : ∀ n, n < 2 ^ k → digitsN n ≤ k := by
  induction k with
  | zero => intro n h; rw [show n = 0 by simpa using h, digitsN_zero]; exact Nat.le_refl _
  | succ k ih =>
    intro n h
    by_cases h0 : n = 0
    · subst h0; rw [digitsN_zero]; omega
    · rw [digitsN_pos (by omega)]
      have := ih (n / 2) (by rw [Nat.pow_succ] at h; omega)
      omega
theorem Tr.h_digits (t : Tr) (h : t.ok) : t.h ≤ 2 * digitsN t.bytes.length + 4 := by
  have h1 := t.pow_le h
  have h2 := lt_digits t.bytes.length
  have h3 : 2 ^ ((t.h - 1) / 2) < 2 ^ digitsN t.bytes.length := by omega
  have h4 := (Nat.pow_lt_pow_iff_right (a := 2) (by decide)).1 h3
  omega
end Go.Proofs.YtliphfgiaioebaaDoor
namespace Go.Proofs.YtliphfgiaioebaaDoor
set_option linter.unusedVariables false
set_option linter.unusedSimpArgs false
open Go.RowKit
theorem ActsAt.top {n : Nat} {w : World} {A : Option Addr} {l : List ActD} (h : ActsAt n w A l) : ActsAt w.heap.size w A l := by
  refine ⟨Nat.le_refl _, fun x hx => ⟨⟨Nat.le_refl _, (h.2.1 x hx).1.2.1, fun h0 a e => Nat.lt_of_lt_of_le ((h.2.1 x hx).1.2.2 h0 a e) h.1⟩, (h.2.1 x hx).2⟩, fun h0 => ?_⟩
  obtain ⟨b, off, e, h1, hc⟩ := h.2.2 h0
  exact ⟨b, off, e, Nat.lt_of_lt_of_le h1 h.1, hc⟩
/-- cells in a block below n -/
def CellsN (n : Nat) (w : World) (A : Option Addr) (xs : List Value) : Prop := 0 < xs.length → ∃ b off, A = some ⟨b, off, none⟩ ∧ b < n ∧ ∀ i v, xs[i]? = some v → w.cell? ⟨b, off + i, none⟩ = some v
theorem CellsN.bel {n m : Nat} {w w' : World} {A : Option Addr} {xs : List Value} (h : CellsN n w A xs) (hb : Below m w w') (hm : n ≤ m) : CellsN n w' A xs := fun h0 => by
  obtain ⟨b, off, e, h1, hc⟩ := h h0
  exact ⟨b, off, e, h1, fun i v hi => (hb.cell (p := ⟨b, off + i, none⟩) (by simp only; omega)).trans (hc i v hi)⟩
theorem CellsAt.n {w : World} {A : Option Addr} {xs : List Value} (h : CellsAt w A xs) : CellsN w.heap.size w A xs := fun h0 => by
  obtain ⟨b, off, e, hc⟩ := h h0
  refine ⟨b, off, e, ?_, hc⟩
  have := World.block_lt_of_cell? w ⟨b, off + 0, none⟩ (hc 0 xs[0] (List.getElem?_eq_getElem h0))
  exact this
def ptrs (rs : List (Nat × List UInt8)) : List Value := rs.map fun p => .pointer (some ⟨p.1, 0, none⟩)
def strs (rs : List (Nat × List UInt8)) : List Value := rs.map fun p => .string (bs p.2)
theorem ptrs_at {rs : List (Nat × List UInt8)} {i : Nat} {b : Nat} {t : List UInt8} (h : rs[i]? = some (b, t)) : (ptrs rs)[i]? = some (.pointer (some ⟨b, 0, none⟩)) := by unfold ptrs; rw [List.getElem?_map, h]; rfl
theorem strs_at {rs : List (Nat × List UInt8)} {i : Nat} {b : Nat} {t : List UInt8} (h : rs[i]? = some (b, t)) : (strs rs)[i]? = some (.string (bs t)) := by unfold strs; rw [List.getElem?_map, h]; rfl
/-- ropes that are no longer written to, all below n -/
structure Ropes (n : Nat) (A1 A2 : Option Addr) (rs : List (Nat × List UInt8)) (w : World) : Prop where
  size : n ≤ w.heap.size
  ptr : CellsN n w A1 (ptrs rs)
  str : CellsN n w A2 (strs rs)
  each : ∀ p ∈ rs, ∃ v ot, RopeN n w p.1 p.2 v ot
  len : rs.length ≤ 3000000
  big : ∀ p ∈ rs, p.2.length ≤ 4000000
section
variable {n m : Nat} {A1 A2 : Option Addr} {rs : List (Nat × List UInt8)} {w w' : World}
theorem Ropes.bel (h : Ropes n A1 A2 rs w) (hb : Below m w w') (hm : n ≤ m) : Ropes n A1 A2 rs w' :=
  ⟨Nat.le_trans h.size hb.size, h.ptr.bel hb hm, h.str.bel hb hm, fun p hp => by obtain ⟨v, ot, hr⟩ := h.each p hp; exact ⟨v, ot, hr.bel hb hm⟩, h.len, h.big⟩
theorem Ropes.later (h : Ropes n A1 A2 rs w) (hl : Ltr w w') : Ropes n A1 A2 rs w' := h.bel (m := n) (Below.mono hl h.size) (Nat.le_refl _)
theorem Ropes.upd {g : Nat} (h : Ropes n A1 A2 rs w) (hu : Upd g w w') (hg : n ≤ g) : Ropes n A1 A2 rs w' := h.bel (m := n) (hu.below (Below.refl _ _) hg) (Nat.le_refl _)
theorem Ropes.gr {r : Option Nat} (h : Ropes n A1 A2 rs w) (hg : w.grownBy w' r) (hr : ∀ k, r = some k → n ≤ k) : Ropes n A1 A2 rs w' := h.bel (m := n) (Below.grown (Below.refl _ _) hg h.size hr) (Nat.le_refl _)
theorem Ropes.kc {D : Nat} {row : Option Nat} (h : Ropes n A1 A2 rs w) (hg : w.grownBy w' row) (hr : ∀ r, row = some r → D ≤ r ∧ ∃ o : Obj, w.heap[r]? = some o ∧ o.isCells = false) (hD : n ≤ D) : Ropes n A1 A2 rs w' := h.gr hg (fun k e => Nat.le_trans hD (hr k e).1)
theorem Ropes.mid {a b : Nat} (h : Ropes n A1 A2 rs w) (hm : Mid a b w w') (hk : n ≤ a ∧ a ≤ w.heap.size) : Ropes n A1 A2 rs w' := h.bel (hm.below hk.2) hk.1
theorem Ropes.at {i b : Nat} {t : List UInt8} (h : Ropes n A1 A2 rs w) (hi : rs[i]? = some (b, t)) : RopeAt w b t := by
  obtain ⟨v, ot, hr⟩ := h.each _ (List.mem_of_getElem? hi)
  exact hr.at
theorem Ropes.rn {i b : Nat} {t : List UInt8} (h : Ropes n A1 A2 rs w) (hi : rs[i]? = some (b, t)) : ∃ v ot, RopeN n w b t v ot := h.each _ (List.mem_of_getElem? hi)
theorem Ropes.lt {i b : Nat} {t : List UInt8} (h : Ropes n A1 A2 rs w) (hi : rs[i]? = some (b, t)) : t.length ≤ 4000000 := h.big _ (List.mem_of_getElem? hi)
theorem Ropes.p (h : Ropes n A1 A2 rs w) (i : Nat) (hi : i < rs.length) : ∃ b off, A1 = some ⟨b, off, none⟩ ∧ b < n ∧ ∀ i v, (ptrs rs)[i]? = some v → w.cell? ⟨b, off + i, none⟩ = some v := h.ptr (by unfold ptrs; rw [List.length_map]; omega)
theorem Ropes.s (h : Ropes n A1 A2 rs w) (i : Nat) (hi : i < rs.length) : ∃ b off, A2 = some ⟨b, off, none⟩ ∧ b < n ∧ ∀ i v, (strs rs)[i]? = some v → w.cell? ⟨b, off + i, none⟩ = some v := h.str (by unfold strs; rw [List.length_map]; omega)
end
theorem rope_i {rs : List (Nat × List UInt8)} (i : Nat) (hi : i < rs.length) : ∃ b t, rs[i]? = some (b, t) := ⟨_, _, List.getElem?_eq_getElem hi⟩
def PlayR (w : World) (e : Ending) (w' : World) : Prop :=
  ∃ A1 A2 c1 c2 rs N, e = .returned (.tuple #[.agg #[.slice A1 rs.length c1, .slice A2 rs.length c2], .bool true]) ∧ Ltr w w' ∧ Ropes N A1 A2 rs w' ∧ N = w'.heap.size
theorem play_r {n : Nat} (A : Option Addr) (c : Nat) (l : List ActD) (w : World) (hT : Tabs w) (hA : ActsAt n w A l) (hc : l.length ≤ c) (hm : l.length ≤ 1100000) :
    Calls Tryd.prog 18 #[.slice A l.length c] w (PlayR w) :=
  (play_any A c l w hT hA.top hc hm).mono fun e w' ⟨A1, A2, c1, c2, rs, he, hl, hk, h1, h2⟩ =>
    ⟨A1, A2, c1, c2, rs, _, he, hl, ⟨Nat.le_refl _, hk.rope.cells.n, hk.text.cells.n, fun p hp => (hk.each p hp).n, h1, h2⟩, rfl⟩
set_option maxRecDepth 100000 in
set_option maxHeartbeats 8000000 in
theorem Digits_any (m : Nat) (w : World) (hm : m ≤ 1000000000) : Calls Tryd.prog 35 #[.int .i64 m] w fun e w' => e = .returned (.int .i64 (digitsN m)) ∧ Ltr w w' := by
  have hB := Ltr.refl w
  have hdg := digits_le 30 m (by omega)
  go_enter Tryd.func35, Tryd.ntmps35
  refine wp_seq_k fun KK1 hKK1 => rl_begin fun hgK hgo => tk 2 (.int .i64 0) ?_
  try simp only [pp]
  refine rl_end hgo <| hKK1 _ _ <| wp_seq_k fun KK2 hKK2 => rl_begin fun hgK hgo => tk 3 (.int .i64 0) ?_
  try simp only [pp]
  refine rl_end hgo <| hKK2 _ _ <| wp_seq_k fun KK3 hKK3 => wp_block ?_
  refine wp_loop_ghost (fun gn ga wl => ∃ (u : Nat → Value) (a k : Nat), gn = a + 1 ∧ ga = ⟨#[.int .i64 a, undef, .int .i64 0, .int .i64 k, u 4, u 5, u 6, u 7, u 8, u 9, undef], []⟩ ∧ (k + digitsN a = digitsN m) ∧ (a ≤ m) ∧ (Ltr w wl)) ((fun (a k : Nat) => (a + 1 : Nat)) m 0) ?_ ?_
  · exact ⟨fun gj => (#[.int .i64 m, undef, .int .i64 0, .int .i64 0, undef, undef, undef, undef, undef, undef, undef]).getD gj undef, m, 0, rfl, rfl, Nat.zero_add _, Nat.le_refl _, by assumption⟩
  rintro n4 a4 w4 ⟨u, a, k, rfl, rfl, hak', ham', hB'⟩
  clear hB
  have hak := hak'
  clear hak'
  have ham := ham'
  clear ham'
  have hB := hB'
  clear hB'
  refine wp_seq_k fun KK5 hKK5 => wp_seq_k fun KK6 hKK6 => rl_begin fun hgK hgo => tk 4 (.int .i64 a) ?_
  try simp only [pp]
  by_cases h1 : (a : Int) > 0
  · refine tx 5 (.bool true) (by exact ex_bool (c := (a : Int) > 0) (by kernel_rfl) ⟨fun _ => by omega, fun _ => rfl⟩) ?_
    try simp only [pp]
    refine rl_end hgo <| hKK6 _ _ <| wp_cond_true (by kernel_rfl) <| wp_skip <| hKK5 _ _ <| wp_block <| wp_seq_k fun KK7 hKK7 => rl_begin fun hgK hgo => tk 6 (.int .i64 k) ?_
    try simp only [pp]
    have hda := digitsN_pos (n := a) (by omega)
    refine tx 7 (.int .i64 (((k + 1 : Nat) : Int))) (by exact ex_arith (e := (k : Int) + 1) (r := ((k + 1 : Nat) : Int)) (by kernel_rfl) (by omega) (by omega)) <| tk 3 (.int .i64 (((k + 1 : Nat) : Int))) ?_
    try simp only [pp]
    refine rl_end hgo <| hKK7 _ _ <| rl_begin fun hgK hgo => tk 8 (.int .i64 a) ?_
    try simp only [pp]
    refine tx 9 (.int .i64 ((a / 2 : Nat) : Int)) (by exact ex_half a rfl rfl rfl (by kernel_rfl) (by omega) _) <| tk 0 (.int .i64 ((a / 2 : Nat) : Int)) ?_
    try simp only [pp]
    refine rl_end hgo ?_
    exact ⟨_, (by omega), fun gj => (#[.int .i64 ((a / 2 : Nat) : Int), undef, .int .i64 0, .int .i64 (((k + 1 : Nat) : Int)), .int .i64 a, .bool true, .int .i64 k, .int .i64 (((k + 1 : Nat) : Int)), .int .i64 a, .int .i64 ((a / 2 : Nat) : Int), undef]).getD gj undef, a / 2, k + 1, rfl, rfl, by omega, by omega, by assumption⟩
  · refine tx 5 (.bool false) (by exact ex_bool (c := (a : Int) > 0) (by kernel_rfl) ⟨fun q => (by cases q), fun q => absurd q (by omega)⟩) ?_
    try simp only [pp]
    refine rl_end hgo <| hKK6 _ _ <| wp_cond_false (by kernel_rfl) <| wp_exit <| hKK3 _ _ <| wp_seq_k fun KK8 hKK8 => rl_begin fun hgK hgo => tk 10 (.int .i64 k) <| tk 2 (.int .i64 k) ?_
    try simp only [pp]
    refine rl_end hgo <| hKK8 _ _ ?_
    refine wp_ret ?_
    try simp only [Exit.then, Exit.inBlock]
    refine bp_ret (v := .int .i64 k) (res1 rfl (res_tmp (by kernel_rfl))) ?_
    exact ⟨by obtain rfl : a = 0 := (by omega); rw [digitsN_zero] at hak; rw [← hak]; rfl, hB⟩
end Go.Proofs.YtliphfgiaioebaaDoor
namespace Go.Proofs.YtliphfgiaioebaaDoor
set_option linter.unusedVariables false
set_option linter.unusedSimpArgs false
open Go.RowKit
set_option maxRecDepth 100000
set_option maxHeartbeats 16000000
theorem RopeDepth_walk {n : Nat} (A : Option Addr) (c : Nat) (l : List ActD) (w : World) (hT : Tabs w) (hA : ActsAt n w A l) (hc : l.length ≤ c) (hm : l.length ≤ 1100000) :
    Calls Tryd.prog 9 #[.slice A l.length c] w fun e w' => e = .returned (.bool true) ∧ Ltr w w' := by
  have hB := Ltr.refl w
  go_enter Tryd.func9, Tryd.ntmps9
  have h4 := hT.four
  refine wp_seq_k fun KK1 hKK1 => rl_begin fun hgK hgo => tk 2 (.bool false) ?_
  try simp only [pp]
  refine rl_end hgo <| hKK1 _ _ <| wp_seq_k fun KK2 hKK2 => wp_seq_k fun KK3 hKK3 => rl_begin fun hgK hgo => ?_
  refine rl_call (some 7) 17 #[] rfl (by kernel_rfl) (by kernel_rfl) (wakes_any _ hT) ?_
  rintro e w4 ⟨rfl, hL4⟩
  refine ⟨_, rfl, ?_⟩
  replace hT := hT.later hL4
  replace hB := hB.later hL4
  replace hA := hA.later hL4
  have hz4 := hL4.size
  try simp only [pp]
  refine tk 8 (.bool false) ?_
  try simp only [pp]
  refine rl_end hgo <| hKK3 _ _ <| wp_cond_false (by kernel_rfl) <| wp_skip <| hKK2 _ _ <| wp_seq_k fun KK5 hKK5 => rl_begin fun hgK hgo => tk 10 (.slice A l.length c) ?_
  try simp only [pp]
  refine rl_call (some 11) 18 #[.slice A l.length c] rfl (by kernel_rfl) (by kernel_rfl) (play_r A c l _ hT hA hc hm) ?_
  rintro e w6 ⟨A1, A2, c1, c2, rs, N, rfl, hL6, hP, hN⟩
  refine ⟨_, rfl, ?_⟩
  replace hT := hT.later hL6
  replace hB := hB.later hL6
  replace hA := hA.later hL6
  have hz6 := hL6.size
  have hrl := hP.len
  clear hA
  try simp only [pp]
  refine tk 9 (.tuple #[.agg #[.slice A1 rs.length c1, .slice A2 rs.length c2], .bool true]) <| tk 12 (.agg #[.slice A1 rs.length c1, .slice A2 rs.length c2]) <| tk 13 (.bool true) ?_
  try simp only [pp]
  refine rl_alloc (some 3) 27 #[.slice none 0 0, .slice none 0 0] rfl (by kernel_rfl) (fun W => by kernel_rfl) fun bk w7 hL7 hp7 hbk => ?_
  replace hT := hT.later hL7
  replace hB := hB.later hL7
  replace hP := hP.later hL7
  have hz7 := hL7.size
  have hlt7 := hbk.lt
  try simp only [pp]
  refine rl_store bk #[.slice A1 rs.length c1, .slice A2 rs.length c2] rfl rfl (by kernel_rfl) rfl rfl (by kernel_rfl) hbk rfl (by kernel_rfl) fun w8 hU8 hn8 => ?_
  have hz8 := hU8.size
  replace hT := hT.upd hU8 (by omega)
  replace hB := hB.upd hU8 (by omega)
  replace hP := hP.upd hU8 (by omega)
  clear hbk
  have hbk := hn8
  clear hn8
  try simp only [pp]
  refine tk 4 (.bool true) ?_
  try simp only [pp]
  refine rl_end hgo <| hKK5 _ _ <| wp_seq_k fun KK9 hKK9 => wp_seq_k fun KK10 hKK10 => rl_begin fun hgK hgo => tk 14 (.bool true) <| tk 15 (.bool false) ?_
  try simp only [pp]
  refine rl_end hgo <| hKK10 _ _ <| wp_cond_false (by kernel_rfl) <| wp_skip <| hKK9 _ _ <| wp_seq_k fun KK11 hKK11 => wp_seq_k fun KK12 hKK12 => rl_begin fun hgK hgo => tk 16 (.pointer (some ⟨bk, 0, none⟩)) ?_
  try simp only [pp]
  refine tx 17 (.slice A1 rs.length c1) (by exact ld1 24 _ rfl bk 0 rfl (fun _ => by kernel_rfl) _ (hbk.cell 0)) <| tk 18 (.int .i64 rs.length) <| tk 19 (.int .i64 0) ?_
  try simp only [pp]
  refine rl_end hgo <| hKK12 _ _ <| wp_block ?_
  refine wp_loop_ghost (fun gn ga wl => ∃ (u : Nat → Value) (i : Nat), gn = rs.length - i ∧ ga = ⟨#[.slice A l.length c, undef, u 2, .pointer (some ⟨bk, 0, none⟩), .bool true, u 5, u 6, .bool true, .bool false, .tuple #[.agg #[.slice A1 rs.length c1, .slice A2 rs.length c2], .bool true], .slice A l.length c, .tuple #[.agg #[.slice A1 rs.length c1, .slice A2 rs.length c2], .bool true], .agg #[.slice A1 rs.length c1, .slice A2 rs.length c2], .bool true, .bool true, .bool false, .pointer (some ⟨bk, 0, none⟩), .slice A1 rs.length c1, .int .i64 rs.length, .int .i64 i, u 20, u 21, u 22, u 23, u 24, u 25, u 26, u 27, u 28, u 29, u 30, u 31, u 32, u 33, u 34, u 35, u 36, u 37, u 38, u 39, u 40, u 41, u 42, u 43, u 44, u 45, u 46, u 47, u 48, u 49, u 50, u 51, u 52, u 53, u 54, u 55, u 56, u 57, u 58, u 59, u 60, u 61, u 62, u 63], []⟩ ∧ (i ≤ rs.length) ∧ (Tabs wl) ∧ (Ltr w wl) ∧ (Ropes N A1 A2 rs wl) ∧ (Blk wl bk 27 #[.slice A1 rs.length c1, .slice A2 rs.length c2])) ((fun (i : Nat) => (rs.length - i : Nat)) 0) ?_ ?_
  · exact ⟨fun gj => (#[.slice A l.length c, undef, .bool false, .pointer (some ⟨bk, 0, none⟩), .bool true, undef, undef, .bool true, .bool false, .tuple #[.agg #[.slice A1 rs.length c1, .slice A2 rs.length c2], .bool true], .slice A l.length c, .tuple #[.agg #[.slice A1 rs.length c1, .slice A2 rs.length c2], .bool true], .agg #[.slice A1 rs.length c1, .slice A2 rs.length c2], .bool true, .bool true, .bool false, .pointer (some ⟨bk, 0, none⟩), .slice A1 rs.length c1, .int .i64 rs.length, .int .i64 0, undef, undef, undef, undef, undef, undef, undef, undef, undef, undef, undef, undef, undef, undef, undef, undef, undef, undef, undef, undef, undef, undef, undef, undef, undef, undef, undef, undef, undef, undef, undef, undef, undef, undef, undef, undef, undef, undef, undef, undef, undef, undef, undef, undef]).getD gj undef, 0, rfl, rfl, Nat.zero_le _, by assumption, by assumption, by assumption, by assumption⟩
  rintro n13 a13 w13 ⟨u, i, rfl, rfl, hil', hT', hB', hP', hbk'⟩
  clear hbk hP hB hT
  have hil := hil'
  clear hil'
  have hT := hT'
  clear hT'
  have hB := hB'
  clear hB'
  have hP := hP'
  clear hP'
  have hbk := hbk'
  clear hbk'
  have hlt_hbk_13 := hbk.lt
  refine wp_seq_k fun KK14 hKK14 => rl_begin fun hgK hgo => ?_
  by_cases h1 : (i : Int) < rs.length
  · refine tx 20 (.bool true) (by exact ex_bool (c := (i : Int) < rs.length) (by kernel_rfl) ⟨fun _ => by omega, fun _ => rfl⟩) ?_
    try simp only [pp]
    refine rl_end hgo <| hKK14 _ _ <| wp_seq_k fun KK15 hKK15 => wp_cond_true (by kernel_rfl) <| wp_skip <| hKK15 _ _ <| wp_seq_k fun KK16 hKK16 => wp_block <| wp_seq_k fun KK17 hKK17 => rl_begin fun hgK hgo => tk 21 (.int .i64 i) <| tk 5 (.int .i64 i) ?_
    try simp only [pp]
    refine rl_end hgo <| hKK17 _ _ <| wp_seq_k fun KK18 hKK18 => rl_begin fun hgK hgo => tk 22 (.pointer (some ⟨bk, 0, none⟩)) ?_
    try simp only [pp]
    refine tx 23 (.slice A1 rs.length c1) (by exact ld1 24 _ rfl bk 0 rfl (fun _ => by kernel_rfl) _ (hbk.cell 0)) <| tk 24 (.int .i64 i) ?_
    try simp only [pp]
    (obtain ⟨b, t, hbt⟩ := rope_i i (by omega : i < rs.length)); (have htl := hP.lt hbt); (obtain ⟨gb, go', he1, hgn, hg1⟩ := hP.p i (by omega))
    refine tx 25 (.pointer (some ⟨gb, go' + i, none⟩)) (by exact ex_indexA i rfl rfl he1 rfl (by kernel_rfl) (fun _ => by kernel_rfl) (by omega) _) ?_
    try simp only [pp]
    refine tx 26 (.pointer (some ⟨b, 0, none⟩)) (by exact ld1 31 _ rfl gb (go' + i) rfl (fun _ => by kernel_rfl) _ (hg1 _ _ (ptrs_at hbt))) ?_
    try simp only [pp]
    refine rl_call (some 27) 34 #[.pointer (some ⟨b, 0, none⟩)] rfl (by kernel_rfl) (by kernel_rfl) (Depth_any b t _ (hP.at hbt)) ?_
    rintro e w19 ⟨d, rfl, hL19, hd0, hd1⟩
    refine ⟨_, rfl, ?_⟩
    replace hT := hT.later hL19
    replace hB := hB.later hL19
    replace hP := hP.later hL19
    replace hbk := hbk.later hL19
    have hz19 := hL19.size
    try simp only [pp]
    refine tk 6 (.int .i64 d) ?_
    try simp only [pp]
    refine rl_end hgo <| hKK18 _ _ <| wp_seq_k fun KK20 hKK20 => wp_seq_k fun KK21 hKK21 => rl_begin fun hgK hgo => ?_
    (obtain ⟨gs, gt, he2, hgn2, hg2⟩ := hP.s i (by omega)); (have hdg := digits_le 22 t.length (by omega))
    refine tk 28 (.pointer (some ⟨bk, 1, none⟩)) ?_
    try simp only [pp]
    refine tx 29 (.slice A2 rs.length c2) (by exact ld1 25 _ rfl bk 1 rfl (fun _ => by kernel_rfl) _ (hbk.cell 1)) <| tk 30 (.int .i64 i) ?_
    try simp only [pp]
    refine tx 31 (.pointer (some ⟨gs, gt + i, none⟩)) (by exact ex_indexA i rfl rfl he2 rfl (by kernel_rfl) (fun _ => by kernel_rfl) (by omega) _) ?_
    try simp only [pp]
    refine tx 32 (.string (bs t)) (by exact ld1 9 _ rfl gs (gt + i) rfl (fun _ => by kernel_rfl) _ (hg2 _ _ (strs_at hbt))) ?_
    try simp only [pp]
    refine tx 33 (.int .i64 t.length) (by exact ex_len_bs (by kernel_rfl)) ?_
    try simp only [pp]
    by_cases h2 : (t.length : Int) = 0
    · refine tx 34 (.bool true) (by exact ex_beq (x := t.length) (y := 0) (by kernel_rfl) ⟨fun _ => by omega, fun _ => rfl⟩) <| tk 35 (.bool true) <| tk 36 (.int .i64 d) ?_
      try simp only [pp]
      refine tx 37 (.bool false) (by exact ex_bne (x := d) (y := 0) (by kernel_rfl) ⟨fun q => (by cases q), fun q => absurd q (by (have := hd0 (List.length_eq_zero_iff.1 (by omega)); omega))⟩) <| tk 38 (.bool false) ?_
      try simp only [pp]
      refine rl_end hgo <| hKK21 _ _ <| wp_cond_false (by kernel_rfl) <| wp_skip <| hKK20 _ _ <| wp_seq_k fun KK22 hKK22 => rl_begin fun hgK hgo => tk 39 (.pointer (some ⟨bk, 1, none⟩)) ?_
      try simp only [pp]
      refine tx 40 (.slice A2 rs.length c2) (by exact ld1 25 _ rfl bk 1 rfl (fun _ => by kernel_rfl) _ (hbk.cell 1)) <| tk 41 (.int .i64 i) ?_
      try simp only [pp]
      refine tx 42 (.pointer (some ⟨gs, gt + i, none⟩)) (by exact ex_indexA i rfl rfl he2 rfl (by kernel_rfl) (fun _ => by kernel_rfl) (by omega) _) ?_
      try simp only [pp]
      refine tx 43 (.string (bs t)) (by exact ld1 9 _ rfl gs (gt + i) rfl (fun _ => by kernel_rfl) _ (hg2 _ _ (strs_at hbt))) ?_
      try simp only [pp]
      refine tx 44 (.int .i64 t.length) (by exact ex_len_bs (by kernel_rfl)) ?_
      try simp only [pp]
      refine tx 45 (.bool false) (by exact ex_bool (c := (t.length : Int) > 0) (by kernel_rfl) ⟨fun q => (by cases q), fun q => absurd q (by omega)⟩) <| tk 46 (.bool false) ?_
      try simp only [pp]
      refine rl_pass (some 47) rfl (by kernel_rfl) ?_
      try simp only [pp]
      refine rl_pass (some 48) rfl (by kernel_rfl) ?_
      try simp only [pp]
      refine rl_pass (some 49) rfl (by kernel_rfl) ?_
      try simp only [pp]
      refine rl_pass (some 50) rfl (by kernel_rfl) ?_
      try simp only [pp]
      refine rl_pass (some 51) rfl (by kernel_rfl) ?_
      try simp only [pp]
      refine rl_pass (some 52) rfl (by kernel_rfl) ?_
      try simp only [pp]
      refine rl_pass (some 53) rfl (by kernel_rfl) ?_
      try simp only [pp]
      refine rl_pass (some 54) rfl (by kernel_rfl) ?_
      try simp only [pp]
      refine rl_pass (some 55) rfl (by kernel_rfl) ?_
      try simp only [pp]
      refine rl_pass (some 56) rfl (by kernel_rfl) ?_
      try simp only [pp]
      refine rl_pass (some 57) rfl (by kernel_rfl) ?_
      try simp only [pp]
      refine rl_pass (some 58) rfl (by kernel_rfl) ?_
      try simp only [pp]
      refine rl_pass (some 59) rfl (by kernel_rfl) ?_
      try simp only [pp]
      refine rl_pass (some 60) rfl (by kernel_rfl) ?_
      try simp only [pp]
      refine rl_pass (some 61) rfl (by kernel_rfl) ?_
      try simp only [pp]
      refine tk 62 (.bool false) ?_
      try simp only [pp]
      refine rl_end hgo <| hKK22 _ _ <| wp_cond_false (by kernel_rfl) <| wp_skip <| hKK16 _ _ <| rl_begin fun hgK hgo => ?_
      refine tx 63 (.int .i64 (((i + 1 : Nat) : Int))) (by exact ex_arith (e := (i : Int) + 1) (r := ((i + 1 : Nat) : Int)) (by kernel_rfl) (by omega) (by omega)) <| tk 19 (.int .i64 (((i + 1 : Nat) : Int))) ?_
      try simp only [pp]
      refine rl_end hgo ?_
      exact ⟨_, (by omega), fun gj => (#[.slice A l.length c, undef, u 2, .pointer (some ⟨bk, 0, none⟩), .bool true, .int .i64 i, .int .i64 d, .bool true, .bool false, .tuple #[.agg #[.slice A1 rs.length c1, .slice A2 rs.length c2], .bool true], .slice A l.length c, .tuple #[.agg #[.slice A1 rs.length c1, .slice A2 rs.length c2], .bool true], .agg #[.slice A1 rs.length c1, .slice A2 rs.length c2], .bool true, .bool true, .bool false, .pointer (some ⟨bk, 0, none⟩), .slice A1 rs.length c1, .int .i64 rs.length, .int .i64 (((i + 1 : Nat) : Int)), .bool true, .int .i64 i, .pointer (some ⟨bk, 0, none⟩), .slice A1 rs.length c1, .int .i64 i, .pointer (some ⟨gb, go' + i, none⟩), .pointer (some ⟨b, 0, none⟩), .int .i64 d, .pointer (some ⟨bk, 1, none⟩), .slice A2 rs.length c2, .int .i64 i, .pointer (some ⟨gs, gt + i, none⟩), .string (bs t), .int .i64 t.length, .bool true, .bool true, .int .i64 d, .bool false, .bool false, .pointer (some ⟨bk, 1, none⟩), .slice A2 rs.length c2, .int .i64 i, .pointer (some ⟨gs, gt + i, none⟩), .string (bs t), .int .i64 t.length, .bool false, .bool false, undef, undef, undef, undef, undef, undef, undef, undef, undef, undef, undef, undef, undef, undef, undef, .bool false, .int .i64 (((i + 1 : Nat) : Int))]).getD gj undef, i + 1, rfl, rfl, by omega, by assumption, by assumption, by assumption, by assumption⟩
    · refine tx 34 (.bool false) (by exact ex_beq (x := t.length) (y := 0) (by kernel_rfl) ⟨fun q => (by cases q), fun q => absurd q (by omega)⟩) <| tk 35 (.bool false) ?_
      try simp only [pp]
      refine rl_pass (some 36) rfl (by kernel_rfl) ?_
      try simp only [pp]
      refine rl_pass (some 37) rfl (by kernel_rfl) ?_
      try simp only [pp]
      refine tk 38 (.bool false) ?_
      try simp only [pp]
      refine rl_end hgo <| hKK21 _ _ <| wp_cond_false (by kernel_rfl) <| wp_skip <| hKK20 _ _ <| wp_seq_k fun KK23 hKK23 => rl_begin fun hgK hgo => tk 39 (.pointer (some ⟨bk, 1, none⟩)) ?_
      try simp only [pp]
      refine tx 40 (.slice A2 rs.length c2) (by exact ld1 25 _ rfl bk 1 rfl (fun _ => by kernel_rfl) _ (hbk.cell 1)) <| tk 41 (.int .i64 i) ?_
      try simp only [pp]
      refine tx 42 (.pointer (some ⟨gs, gt + i, none⟩)) (by exact ex_indexA i rfl rfl he2 rfl (by kernel_rfl) (fun _ => by kernel_rfl) (by omega) _) ?_
      try simp only [pp]
      refine tx 43 (.string (bs t)) (by exact ld1 9 _ rfl gs (gt + i) rfl (fun _ => by kernel_rfl) _ (hg2 _ _ (strs_at hbt))) ?_
      try simp only [pp]
      refine tx 44 (.int .i64 t.length) (by exact ex_len_bs (by kernel_rfl)) ?_
      try simp only [pp]
      refine tx 45 (.bool true) (by exact ex_bool (c := (t.length : Int) > 0) (by kernel_rfl) ⟨fun _ => by omega, fun _ => rfl⟩) <| tk 46 (.bool true) <| tk 47 (.int .i64 d) ?_
      try simp only [pp]
      refine tx 48 (.bool false) (by exact ex_bool (c := (d : Int) < 1) (by kernel_rfl) ⟨fun q => (by cases q), fun q => absurd q (by (obtain ⟨s, hs1, hs2, hs3⟩ := hd1 (by omega); have := s.h_pos; omega))⟩) <| tk 49 (.bool false) <| tk 50 (.int .i64 d) <| tk 51 (.pointer (some ⟨bk, 1, none⟩)) ?_
      try simp only [pp]
      refine tx 52 (.slice A2 rs.length c2) (by exact ld1 25 _ rfl bk 1 rfl (fun _ => by kernel_rfl) _ (hbk.cell 1)) <| tk 53 (.int .i64 i) ?_
      try simp only [pp]
      refine tx 54 (.pointer (some ⟨gs, gt + i, none⟩)) (by exact ex_indexA i rfl rfl he2 rfl (by kernel_rfl) (fun _ => by kernel_rfl) (by omega) _) ?_
      try simp only [pp]
      refine tx 55 (.string (bs t)) (by exact ld1 9 _ rfl gs (gt + i) rfl (fun _ => by kernel_rfl) _ (hg2 _ _ (strs_at hbt))) ?_
      try simp only [pp]
      refine tx 56 (.int .i64 t.length) (by exact ex_len_bs (by kernel_rfl)) ?_
      try simp only [pp]
      refine rl_call (some 57) 35 #[.int .i64 t.length] rfl (by kernel_rfl) (by kernel_rfl) (Digits_any t.length _ (by omega)) ?_
      rintro e w24 ⟨rfl, hL24⟩
      refine ⟨_, rfl, ?_⟩
      replace hT := hT.later hL24
      replace hB := hB.later hL24
      replace hP := hP.later hL24
      replace hbk := hbk.later hL24
      have hz24 := hL24.size
      try simp only [pp]
      refine tx 58 (.int .i64 ((2 : Int) * (digitsN t.length))) (by exact ex_arith (e := (2 : Int) * (digitsN t.length)) (r := (2 : Int) * (digitsN t.length)) (by kernel_rfl) (by omega) (by omega)) ?_
      try simp only [pp]
      refine tx 59 (.int .i64 ((((2 : Int) * (digitsN t.length)) : Int) + 4)) (by exact ex_arith (e := (((2 : Int) * (digitsN t.length)) : Int) + 4) (r := (((2 : Int) * (digitsN t.length)) : Int) + 4) (by kernel_rfl) (by omega) (by omega)) ?_
      try simp only [pp]
      refine tx 60 (.bool false) (by exact ex_bool (c := (d : Int) > ((((2 : Int) * (digitsN t.length)) : Int) + 4)) (by kernel_rfl) ⟨fun q => (by cases q), fun q => absurd q (by (obtain ⟨s, hs1, hs2, hs3⟩ := hd1 (by omega); have := s.h_digits hs1; rw [hs2, hs3] at this; omega))⟩) <| tk 61 (.bool false) <| tk 62 (.bool false) ?_
      try simp only [pp]
      refine rl_end hgo <| hKK23 _ _ <| wp_cond_false (by kernel_rfl) <| wp_skip <| hKK16 _ _ <| rl_begin fun hgK hgo => ?_
      refine tx 63 (.int .i64 (((i + 1 : Nat) : Int))) (by exact ex_arith (e := (i : Int) + 1) (r := ((i + 1 : Nat) : Int)) (by kernel_rfl) (by omega) (by omega)) <| tk 19 (.int .i64 (((i + 1 : Nat) : Int))) ?_
      try simp only [pp]
      refine rl_end hgo ?_
      exact ⟨_, (by omega), fun gj => (#[.slice A l.length c, undef, u 2, .pointer (some ⟨bk, 0, none⟩), .bool true, .int .i64 i, .int .i64 d, .bool true, .bool false, .tuple #[.agg #[.slice A1 rs.length c1, .slice A2 rs.length c2], .bool true], .slice A l.length c, .tuple #[.agg #[.slice A1 rs.length c1, .slice A2 rs.length c2], .bool true], .agg #[.slice A1 rs.length c1, .slice A2 rs.length c2], .bool true, .bool true, .bool false, .pointer (some ⟨bk, 0, none⟩), .slice A1 rs.length c1, .int .i64 rs.length, .int .i64 (((i + 1 : Nat) : Int)), .bool true, .int .i64 i, .pointer (some ⟨bk, 0, none⟩), .slice A1 rs.length c1, .int .i64 i, .pointer (some ⟨gb, go' + i, none⟩), .pointer (some ⟨b, 0, none⟩), .int .i64 d, .pointer (some ⟨bk, 1, none⟩), .slice A2 rs.length c2, .int .i64 i, .pointer (some ⟨gs, gt + i, none⟩), .string (bs t), .int .i64 t.length, .bool false, .bool false, undef, undef, .bool false, .pointer (some ⟨bk, 1, none⟩), .slice A2 rs.length c2, .int .i64 i, .pointer (some ⟨gs, gt + i, none⟩), .string (bs t), .int .i64 t.length, .bool true, .bool true, .int .i64 d, .bool false, .bool false, .int .i64 d, .pointer (some ⟨bk, 1, none⟩), .slice A2 rs.length c2, .int .i64 i, .pointer (some ⟨gs, gt + i, none⟩), .string (bs t), .int .i64 t.length, .int .i64 (digitsN t.length), .int .i64 ((2 : Int) * (digitsN t.length)), .int .i64 ((((2 : Int) * (digitsN t.length)) : Int) + 4), .bool false, .bool false, .bool false, .int .i64 (((i + 1 : Nat) : Int))]).getD gj undef, i + 1, rfl, rfl, by omega, by assumption, by assumption, by assumption, by assumption⟩
  · refine tx 20 (.bool false) (by exact ex_bool (c := (i : Int) < rs.length) (by kernel_rfl) ⟨fun q => (by cases q), fun q => absurd q (by omega)⟩) ?_
    try simp only [pp]
    refine rl_end hgo <| hKK14 _ _ <| wp_seq_k fun KK25 hKK25 => wp_cond_false (by kernel_rfl) <| wp_exit <| hKK11 _ _ <| wp_seq_k fun KK26 hKK26 => rl_begin fun hgK hgo => tk 2 (.bool true) ?_
    try simp only [pp]
    refine rl_end hgo <| hKK26 _ _ ?_
    refine wp_ret ?_
    try simp only [Exit.then, Exit.inBlock]
    refine bp_ret (v := .bool true) (res1 rfl (res_tmp (by kernel_rfl))) ?_
    exact ⟨rfl, hB⟩
end Go.Proofs.YtliphfgiaioebaaDoor
namespace Go.Proofs.YtliphfgiaioebaaDoor
set_option linter.unusedVariables false
set_option linter.unusedSimpArgs false
open Go.ChangeShapes Go.WideShapes Go.ChangeAt Go.RowKit Go.Deep
theorem chunks (k : Nat) : ∀ (n : Nat) (cs : List Value) (T : Nat → List Value), cs.length = n * k → (∀ i, i < n → (cs.drop (i * k)).take k = T i) → cs = (List.range n).flatMap T
  | 0, cs, T, h, _ => by simp at h; simp [h]
  | n + 1, cs, T, h, hT => by
    rw [List.range_succ_eq_map, List.flatMap_cons, List.flatMap_map]
    have h0 := hT 0 (by omega)
    simp only [Nat.zero_mul, List.drop_zero] at h0
    have ih := chunks k n (cs.drop k) (fun i => T (i + 1)) (by rw [List.length_drop, h, Nat.add_mul]; omega) fun i hi => by
      have := hT (i + 1) (by omega)
      rw [List.drop_drop, show k + i * k = (i + 1) * k by rw [Nat.add_mul]; omega]
      exact this
    conv => lhs; rw [← List.take_append_drop k cs, h0, ih]
theorem three {cs : List Value} (h : cs.length = 3) : ∃ x y z, cs = [x, y, z] := by
  match cs, h with
  | [x, y, z], _ => exact ⟨x, y, z, rfl⟩
section
variable {H : Type} {enc : TypeId × Value → H} {W : World} {base : Nat} {sp : Nat → Bool} {held : Bool} {fuel : Nat} {cs : List Value} {p : List MemPlace}
theorem span_cells {a b c : Int} (h : DataW.trod enc Tryd.prog W base sp held fuel 201 cs = some (.agg [.lit (.int .i64 a), .lit (.int .i64 b), .lit (.int .i64 c)], p)) : cs = [.int .i64 a, .int .i64 b, .int .i64 c] := by
  obtain ⟨y0, y1, y2, n, hx, hl, h0, h1, h2⟩ := trod_struct3 (show Tryd.prog.underlying 201 = some (.struct #[_, _, _]) from Tryd.underlying201) h
  obtain ⟨z0, c0, e0, -⟩ := DataW.trod_int (k := .i64) (by kernel_rfl) h0
  obtain ⟨z1, c1, e1, -⟩ := DataW.trod_int (k := .i64) (by kernel_rfl) h1
  obtain ⟨z2, c2, e2, -⟩ := DataW.trod_int (k := .i64) (by kernel_rfl) h2
  subst e0 e1 e2
  simp only [Prod.mk.injEq, DataW.agg.injEq, List.cons.injEq, DataW.lit.injEq, Lit.int.injEq, true_and, and_true] at hx
  obtain ⟨⟨rfl, rfl, rfl⟩, -⟩ := hx
  rw [show Tryd.prog.cellsOf 201 = 3 by kernel_rfl] at hl
  clear h h0 h1 h2
  obtain ⟨x, y, z, rfl⟩ := three hl
  rw [show Tryd.prog.cellsOf 3 = 1 by kernel_rfl] at c0 c1
  rw [show Tryd.prog.cellsOf 196 = 1 by kernel_rfl] at c2
  simp at c0 c1 c2
  rw [c0, c1, c2]
theorem step_cells {a b : Int} {c : Bool} (h : DataW.trod enc Tryd.prog W base sp held fuel 158 cs = some (.agg [.lit (.int .i32 a), .lit (.int .i64 b), .lit (.bool c)], p)) : cs = [.int .i32 a, .int .i64 b, .bool c] := by
  obtain ⟨y0, y1, y2, n, hx, hl, h0, h1, h2⟩ := trod_struct3 (show Tryd.prog.underlying 158 = some (.struct #[_, _, _]) from Tryd.underlying158) h
  obtain ⟨z0, c0, e0, -⟩ := DataW.trod_int (k := .i32) (by kernel_rfl) h0
  obtain ⟨z1, c1, e1, -⟩ := DataW.trod_int (k := .i64) (by kernel_rfl) h1
  obtain ⟨z2, c2, e2⟩ := DataW.trod_bool (by kernel_rfl) h2
  subst e0 e1 e2
  simp only [Prod.mk.injEq, DataW.agg.injEq, List.cons.injEq, DataW.lit.injEq, Lit.int.injEq, Lit.bool.injEq, true_and, and_true] at hx
  obtain ⟨⟨rfl, rfl, rfl⟩, -⟩ := hx
  rw [show Tryd.prog.cellsOf 158 = 3 by kernel_rfl] at hl
  clear h h0 h1 h2
  obtain ⟨x, y, z, rfl⟩ := three hl
  rw [show Tryd.prog.cellsOf 21 = 1 by kernel_rfl] at c0
  rw [show Tryd.prog.cellsOf 3 = 1 by kernel_rfl] at c1
  rw [show Tryd.prog.cellsOf 4 = 1 by kernel_rfl] at c2
  simp at c0 c1 c2
  rw [c0, c1, c2]
theorem spans_cells {T : List (Int × Int × Int)} (hT : T.length = 7) (h : DataW.trod enc Tryd.prog W base sp held fuel 202 cs = some (.agg (T.map fun x => .agg [.lit (.int .i64 x.1), .lit (.int .i64 x.2.1), .lit (.int .i64 x.2.2)]), p)) :
    cs = (List.range 7).flatMap fun i => (match T[i]? with | some x => [.int .i64 x.1, .int .i64 x.2.1, .int .i64 x.2.2] | none => []) := by
  obtain ⟨xs, m, -, hx, hl, hlen, hi⟩ := DataW.trod_array Tryd.underlying202 h
  rw [show Tryd.prog.cellsOf 202 = 7 * 3 by kernel_rfl] at hl
  simp only [show Tryd.prog.cellsOf 201 = 3 by kernel_rfl] at hi
  simp only [Prod.mk.injEq, DataW.agg.injEq] at hx
  refine chunks 3 7 cs _ hl fun i hi7 => ?_
  have h1 := hi i hi7
  have h2 := congrArg (·[i]?) hx.1
  simp only [List.getElem?_map] at h2
  rw [List.getElem?_eq_getElem (by omega : i < T.length), List.getElem?_eq_getElem (by omega : i < xs.length)] at h2
  rw [List.getElem?_eq_getElem (by omega : i < xs.length)] at h1
  rw [List.getElem?_eq_getElem (by omega : i < T.length)]
  simp only [Option.map_some, Option.some.injEq] at h2
  refine span_cells (p := xs[i].2) (h1.trans ?_)
  rw [h2]
end
theorem tabs_laid {W : World} (h : laidMetH Tryd.prog Rows.ropeNilUptoRow.laid W) : Tabs W := by
  have h' : laidMet Tryd.prog [("galley/octet.spans", Rows.laid_galley_octet_spans), ("galley/octet.needs", Rows.laid_galley_octet_needs), ("galley/octet.masks", Rows.laid_galley_octet_masks), ("galley/step.bad", Rows.laid_galley_step_bad)] W := h
  obtain ⟨ps, ⟨g1, t1, cs1, f1, p1, q1, hg1, ht1, hv1, hd1, ⟨g2, t2, cs2, f2, p2, q2, hg2, ht2, hv2, hd2, ⟨g3, t3, cs3, f3, p3, q3, hg3, ht3, hv3, hd3, ⟨g4, t4, cs4, f4, p4, q4, hg4, ht4, hv4, hd4, -, -⟩, -⟩, -⟩, -⟩, -⟩ := h'
  obtain rfl := Option.some.inj ((show Tryd.prog.globalNamed "galley/octet.spans" = some 3 by kernel_rfl).symm.trans hg1)
  obtain rfl := Option.some.inj ((show Tryd.prog.globalNamed "galley/octet.needs" = some 2 by kernel_rfl).symm.trans hg2)
  obtain rfl := Option.some.inj ((show Tryd.prog.globalNamed "galley/octet.masks" = some 0 by kernel_rfl).symm.trans hg3)
  obtain rfl := Option.some.inj ((show Tryd.prog.globalNamed "galley/step.bad" = some 1 by kernel_rfl).symm.trans hg4)
  obtain rfl := Option.some.inj ((show (Tryd.prog.globals[3]?).map (·.type) = some 202 by kernel_rfl).symm.trans ht1)
  obtain rfl := Option.some.inj ((show (Tryd.prog.globals[2]?).map (·.type) = some 199 by kernel_rfl).symm.trans ht2)
  obtain rfl := Option.some.inj ((show (Tryd.prog.globals[0]?).map (·.type) = some 192 by kernel_rfl).symm.trans ht3)
  obtain rfl := Option.some.inj ((show (Tryd.prog.globals[1]?).map (·.type) = some 158 by kernel_rfl).symm.trans ht4)
  have e1 : cs1.toList = spanCells := spans_cells (T := [(0, 127, 1), (128, 191, 2), (192, 193, 6), (194, 223, 3), (224, 239, 4), (240, 244, 5), (245, 255, 6)]) rfl hd1
  have e2 : cs2.toList = needCells := Lib.cells_of_tab (k := .i64) (zs := [0, 1, 0, 2, 3, 4, 0]) Tryd.underlying199 Tryd.underlying3 (by kernel_rfl) (by kernel_rfl) hd2
  have e3 : cs3.toList = maskCells := Lib.cells_of_tab (k := .u8) (zs := [0, 127, 31, 15, 7]) Tryd.underlying192 Tryd.underlying5 (by kernel_rfl) (by kernel_rfl) hd3
  have e4 : cs4.toList = badCells := step_cells hd4
  have key : ∀ {n : String} {g : Nat} {cs : Array Value} {l : List Value}, Tryd.prog.globalNamed n = some g → W.var? Tryd.prog n = some cs → cs.toList = l → ∀ i v, l[i]? = some v → W.cell? ⟨g, i, none⟩ = some v := fun hg hv e i v hi => by
    rw [World.var?_cell hg hv i, ← Array.getElem?_toList, e]; exact hi
  exact ⟨key hg1 hv1 e1, key hg2 hv2 e2, key hg3 hv3 e3, key hg4 hv4 e4⟩
end Go.Proofs.YtliphfgiaioebaaDoor
namespace Go.Proofs.YtliphfgiaioebaaDoor
set_option linter.unusedVariables false
set_option linter.unusedSimpArgs false
open Go.ChangeShapes Go.WideShapes Go.ChangeAt Go.RowKit Go.Deep
set_option maxRecDepth 100000
namespace glue
theorem one_le {H : Type} (d : DataW H) : 1 ≤ Rows.uptoBulk d := by
  cases d with
  | lit l => cases l <;> simp [Rows.uptoBulk]
  | nil => simp [Rows.uptoBulk]
  | ptr d => simp [Rows.uptoBulk]
  | slice elems spare => simp [Rows.uptoBulk]
  | agg parts => simp [Rows.uptoBulk]
  | iface t d => simp [Rows.uptoBulk]
  | map entries => simp [Rows.uptoBulk]
  | held h => simp [Rows.uptoBulk]
theorem length_le {H : Type} (l : List (DataW H)) : l.length ≤ Rows.uptoBulkAll l := by
  induction l with
  | nil => simp [Rows.uptoBulkAll]
  | cons x r ih => have := one_le x; simp only [Rows.uptoBulkAll, List.length_cons]; omega
theorem mem_le {H : Type} {l : List (DataW H)} {d : DataW H} (h : d ∈ l) : Rows.uptoBulk d ≤ Rows.uptoBulkAll l := by
  induction l with
  | nil => cases h
  | cons x r ih =>
    simp only [Rows.uptoBulkAll]
    rcases List.mem_cons.1 h with rfl | h
    · omega
    · have := ih h; omega
theorem slice_le {H : Type} (elems spare : List (DataW H)) : elems.length + spare.length + 1 ≤ Rows.uptoBulk (.slice elems spare) := by
  have h1 := length_le elems
  have h2 := length_le spare
  simp only [Rows.uptoBulk]
  omega
def setG (h : Array Obj) (g : Nat) (cs : List Value) : Array Obj := h.modify g fun
  | .cells _ t frozen => .cells cs.toArray t frozen
  | o => o
/-- a world that holds the four laid variables -/
noncomputable def laidWorld (os : Os) : World :=
  { World.holding Tryd.prog os ⟨#[], #[], []⟩ with heap := setG (setG (setG (setG (World.holding Tryd.prog os ⟨#[], #[], []⟩).heap 3 spanCells) 2 needCells) 0 maskCells) 1 badCells }
theorem own : ownKnob Tryd.prog.godebug = none := by kernel_rfl
theorem laidOut : laidOutB Tryd.prog = true := by kernel_rfl
section
variable {H : Type} {enc : TypeId × Value → H}
theorem back {W W' : World} (hb : Below W.heap.size W W') : ∀ (ts : List TypeId) (vs : List Value) (ds : List (DataW H)) (p : List MemPlace), DataW.TrodAll enc Tryd.prog W 0 (fun _ => true) true ts vs ds p →
    (∀ t ∈ ts, Tryd.prog.readableRec t = true ∧ t < Tryd.prog.types.size) → (∀ x ∈ p, x.block < W.heap.size) → DataW.TrodAll enc Tryd.prog W' 0 (fun b => decide (b < W.heap.size)) true ts vs ds p
  | [], [], [], p, h, _, _ => h
  | t :: ts, v :: vs, d :: ds, p, ⟨p1, p2, h1, h2, e⟩, ht, hp =>
    ⟨p1, p2, Below.trod laidOut (ht t (by simp)).1 (ht t (by simp)).2 h1 hb (fun x hx => hp x (by rw [e]; simp [hx])), back hb ts vs ds p2 h2 (fun t h => ht t (by simp [h])) (fun x hx => hp x (by rw [e]; simp [hx])), e⟩
  | [], _ :: _, _, _, h, _, _ => by cases h
  | [], [], _ :: _, _, h, _, _ => by cases h
  | _ :: _, [], _, _, h, _, _ => by cases h
  | _ :: _, _ :: _, [], _, h, _, _ => by cases h
/-- a slice of bytes that came in -/
theorem open_bytes0 {W : World} {a1 : Value} {fuel : Nat} {x : DataW H × List MemPlace} (hf : DataW.trod enc Tryd.prog W 0 (fun _ => true) true fuel 41 [a1] = some x) :
    ∃ (A : Option Addr) (c : Nat) (l : List UInt8), a1 = .slice A l.length c ∧ BytesAt W A l ∧ l.length ≤ c ∧ (A = none → c = 0) ∧ l.length ≤ Rows.uptoBulk x.1 := by
  rcases open_ints Tryd.underlying41 Tryd.underlying5 (by kernel_rfl) hf with ⟨hcs, hx⟩ | ⟨a, len', cap', zs, hcs, _, hl, hm, hz, hx, hcell, hwz⟩
  · simp only [List.cons.injEq, and_true] at hcs
    subst hcs
    exact ⟨none, 0, [], rfl, BytesAt.nil _ _, Nat.le_refl _, fun _ => rfl, Nat.zero_le _⟩
  · simp only [List.cons.injEq, and_true] at hcs
    subst hcs hx
    simp only [if_true] at hz
    have hlen : ((zs.take len').map fun n => UInt8.ofNat n.toNat).length = len' := by simp; omega
    refine ⟨some a, cap', (zs.take len').map fun n => UInt8.ofNat n.toNat, by rw [hlen], fun h0 => ?_, by rw [hlen]; exact hl, (fun e => by cases e), ?_⟩
    · rw [hlen] at h0
      obtain ⟨ab, ao, spot⟩ := a
      have hspot : spot = none := by simpa [Addr.add] using World.cell?_spot (hcell 0 (by omega))
      subst hspot
      refine ⟨ab, ao, rfl, fun i hi => ?_⟩
      rw [hlen] at hi
      have hc := hcell i (by omega)
      rw [Addr.add_lit] at hc
      rw [hc]
      have hb := range_u8 hwz i
      have e : zs[i]? = some (zs[i]'(by omega)) := List.getElem?_eq_getElem (by omega)
      have hg : gb ((zs.take len').map fun n => UInt8.ofNat n.toNat) i = zs.getD i 0 := by
        unfold gb
        rw [List.getD_eq_getElem?_getD, List.getElem?_map, List.getElem?_take, if_pos hi, e, List.getD_eq_getElem?_getD, e]
        rw [e] at hb
        simp only [Option.map_some, Option.getD_some, UInt8.toNat_ofNat'] at hb ⊢
        omega
      rw [hg]
    · rw [hlen]
      have := slice_le (lits (H := H) .u8 (zs.take len')) (lits .u8 (zs.drop len'))
      have h1 : (lits (H := H) .u8 (zs.take len')).length = len' := by simp [lits]; omega
      simp only
      omega
theorem list_of {α : Type} {P : Nat → α → Prop} : ∀ n : Nat, (∀ i, i < n → ∃ x, P i x) → ∃ l : List α, l.length = n ∧ ∀ i x, l[i]? = some x → P i x
  | 0, _ => ⟨[], rfl, fun i x h => by simp at h⟩
  | n + 1, h => by
    obtain ⟨l, h1, h2⟩ := list_of n fun i hi => h i (by omega)
    obtain ⟨x, hx⟩ := h n (by omega)
    refine ⟨l ++ [x], by simp [h1], fun i y hy => ?_⟩
    rcases Nat.lt_or_ge i l.length with hi | hi
    · rw [List.getElem?_append_left hi] at hy; exact h2 i y hy
    · rw [List.getElem?_append_right hi] at hy
      have : i - l.length = 0 := by
        have := (List.getElem?_eq_some_iff.1 hy).1; simp at this; omega
      rw [this] at hy; simp at hy; subst hy
      rwa [show i = n by omega]
theorem open_slice_fields {P : Program} {w : World} {base : Nat} {spare : Nat → Bool} {held : Bool} {t e : TypeId} {fs : Array Field} {fuel : Nat} {cs : List Value} {x : DataW H × List MemPlace} (ht : P.underlying t = some (.slice e)) (he : P.underlying e = some (.struct fs))
    (hone : oneCellFields P fs = true) (hC : P.cellsOf e = fs.size) (h : DataW.trod enc P w base spare held fuel t cs = some x) :
    (cs = [.slice none 0 0] ∧ x = (.nil, [])) ∨
    ∃ (a : Addr) (len cap m : Nat) (D : Nat → DataW H) (Pl : Nat → List MemPlace), cs = [.slice (some a) len cap] ∧ base ≤ a.block ∧ len ≤ cap ∧ cap ≤ maxLen ∧ m = (if spare a.block then cap else len) ∧
      x = (.slice ((List.range len).map D) ((List.range (m - len)).map fun j => D (len + j)), MemPlace.row a (m * fs.size) ++ (List.range m).flatMap Pl) ∧
      ∀ i, i < m → ∃ (ys : List (DataW H × List MemPlace)) (n : Nat), D i = .agg (ys.map (·.1)) ∧ Pl i = ys.flatMap (·.2) ∧ ys.length = fs.size ∧
        ∀ (j : Nat) (f : Field), fs[j]? = some f → ∃ (v : Value) (y : DataW H × List MemPlace), w.cell? (a.add (i * fs.size + j)) = some v ∧ ys[j]? = some y ∧ DataW.trod enc P w base spare held n f.type [v] = some y := by
  rcases open_slice ht h with h0 | ⟨a, len, cap, m, n, D, Pl, hcs, hb, hl, hm, hmm, hx, hi⟩
  · exact .inl h0
  · refine .inr ⟨a, len, cap, m, D, Pl, hcs, hb, hl, hm, hmm, by rw [hC] at hx; exact hx, fun i him => ?_⟩
    obtain ⟨cs', hc, ht'⟩ := hi i him
    rw [hC] at hc
    obtain ⟨ys, n', hn', hy, hlen, hyl, hf⟩ := DataW.trod_struct he ht'
    obtain ⟨_, hcl, hat⟩ := World.cells?_some hc
    simp only [Prod.mk.injEq] at hy
    refine ⟨ys, n', hy.1, hy.2, hyl, fun j f hj => ?_⟩
    obtain ⟨ho, hk⟩ := hone_of hone j f hj
    have hjl : j < fs.size := (Array.getElem?_eq_some_iff.1 hj).1
    have hcell := hat j hjl
    have hv : cs'[j]? = some (cs'[j]'(by omega)) := List.getElem?_eq_getElem (by omega)
    have h1 := hf j f hj
    rw [ho, hk] at h1
    have hone' : (cs'.drop j).take 1 = [cs'[j]'(by omega)] := by
      rw [List.drop_eq_getElem_cons (by omega)]
      rfl
    rw [hone'] at h1
    have hys : ys[j]? = some (ys[j]'(by omega)) := List.getElem?_eq_getElem (by omega)
    refine ⟨_, _, ?_, hys, h1.trans hys⟩
    rw [← Go.Deep.add_add, hcell, hv]
/-- acts that came in -/
theorem open_acts {W : World} {base : Nat} {v : Value} {d : DataW H} {p : List MemPlace} (hval : Value.okWide Tryd.prog W .any base 22 v) (h : DataW.Trod enc Tryd.prog W 0 (fun _ => true) true 22 v d p) (hk : Rows.uptoBulk d ≤ 1048576) :
    ∃ (A : Option Addr) (c : Nat) (l : List ActD), v = .slice A l.length c ∧ ActsAt W.heap.size W A l ∧ l.length ≤ c ∧ l.length ≤ 1100000 := by
  obtain ⟨a1, len, cap, rfl⟩ := okWide_slice Tryd.underlying22 hval
  obtain ⟨fuel, hf⟩ := h
  rcases open_slice_fields Tryd.underlying22 Tryd.underlying105 (by kernel_rfl) (by kernel_rfl) hf with ⟨hcs, hx⟩ | ⟨a, len', cap', m, D, Pl, hcs, _, hl, _, hm, hx, hi⟩
  · simp [Value.cells] at hcs
    obtain ⟨rfl, rfl, rfl⟩ := hcs
    exact ⟨none, 0, [], rfl, ⟨Nat.le_refl _, by simp, fun h => absurd h (by simp)⟩, Nat.le_refl _, Nat.zero_le _⟩
  · simp [Value.cells] at hcs
    obtain ⟨rfl, rfl, rfl⟩ := hcs
    simp only [Prod.mk.injEq] at hx
    obtain ⟨rfl, rfl⟩ := hx
    simp only [if_true] at hm
    have hbulk := slice_le ((List.range len).map D) ((List.range (m - len)).map fun j => D (len + j))
    simp only [List.length_map, List.length_range] at hbulk
    have hall : Rows.uptoBulkAll ((List.range len).map D) ≤ 1048576 := by simp only [Rows.uptoBulk] at hk; omega
    have key : ∀ i, i < len → ∃ x : ActD, x.ok W.heap.size W ∧ ∀ j v, x.v[j]? = some v → W.cell? (a.add (i * 6 + j)) = some v := fun i hil => by
      obtain ⟨ys, n, hD, -, hyl, hj⟩ := hi i (by omega)
      obtain ⟨v0, y0, k0, g0, t0⟩ := hj 0 _ rfl
      obtain ⟨v1, y1, k1, g1, t1⟩ := hj 1 _ rfl
      obtain ⟨v2, y2, k2, g2, t2⟩ := hj 2 _ rfl
      obtain ⟨v3, y3, k3, g3, t3⟩ := hj 3 _ rfl
      obtain ⟨v4, y4, k4, g4, t4⟩ := hj 4 _ rfl
      obtain ⟨v5, y5, k5, g5, t5⟩ := hj 5 _ rfl
      obtain ⟨z0, e0, -⟩ := DataW.trod_int (k := .i64) Tryd.underlying3 t0
      obtain ⟨z1, e1, -⟩ := DataW.trod_int (k := .i64) Tryd.underlying3 t1
      obtain ⟨z2, e2, -⟩ := DataW.trod_int (k := .i64) Tryd.underlying3 t2
      obtain ⟨z3, e3, -⟩ := DataW.trod_int (k := .i64) Tryd.underlying3 t3
      obtain ⟨z4, e4, -⟩ := DataW.trod_int (k := .i64) Tryd.underlying3 t4
      simp only [List.cons.injEq, and_true] at e0 e1 e2 e3 e4
      obtain ⟨A, c, l, rfl, hb, hc, hn, hu⟩ := open_bytes0 t5
      have hle : Rows.uptoBulk y5.1 ≤ 1048576 := by
        have h1 : y5.1 ∈ ys.map (·.1) := List.mem_map.2 ⟨y5, List.mem_of_getElem? g5, rfl⟩
        have h2 := mem_le h1
        have h3 : D i ∈ (List.range len).map D := List.mem_map.2 ⟨i, List.mem_range.2 hil, rfl⟩
        have h4 := mem_le h3
        rw [hD] at h4
        simp only [Rows.uptoBulk] at h4
        omega
      refine ⟨⟨z0, z1, z2, z3, z4, A, c, l⟩, ⟨hb.n, hc, hn, by show l.length ≤ 2000000; omega⟩, fun j v hv => ?_⟩
      subst e0 e1 e2 e3 e4
      simp only [ActD.v] at hv
      match j, hv with
      | 0, hv => cases hv; exact k0
      | 1, hv => cases hv; exact k1
      | 2, hv => cases hv; exact k2
      | 3, hv => cases hv; exact k3
      | 4, hv => cases hv; exact k4
      | 5, hv => cases hv; exact k5
      | _ + 6, hv => simp at hv
    obtain ⟨l, rfl, hll⟩ := list_of len key
    refine ⟨some a, cap, l, rfl, ⟨Nat.le_refl _, fun x hx => ?_, fun h0 => ?_⟩, hl, by omega⟩
    · obtain ⟨i, hi'⟩ := List.getElem?_of_mem hx
      exact (hll i x hi').1
    · obtain ⟨x, hx⟩ : ∃ x, l[0]? = some x := ⟨_, List.getElem?_eq_getElem h0⟩
      have hc0 := (hll 0 x hx).2 0 _ rfl
      obtain ⟨ab, ao, spot⟩ := a
      have hspot : spot = none := by simpa [Addr.add] using World.cell?_spot hc0
      subst hspot
      have hlt := World.block_lt_of_cell? W _ hc0
      rw [add_none] at hlt
      refine ⟨ab, ao, rfl, hlt, fun i x j v hx hv => ?_⟩
      have := (hll i x hx).2 j v hv
      rwa [add_none, ← Nat.add_assoc] at this
end
end glue
end Go.Proofs.YtliphfgiaioebaaDoor
namespace Go.Proofs.YtliphfgiaioebaaDoor.ropeDepth
set_option linter.unusedVariables false
set_option linter.unusedSimpArgs false
open Go.ChangeShapes Go.WideShapes Go.ChangeAt Go.RowKit Go.Deep Go.Proofs.YtliphfgiaioebaaDoor
set_option maxRecDepth 100000
section
variable {H : Type} {enc : TypeId × Value → H}
theorem contract (W : World) (base : Nat) (args : Array Value) (ds gs : List (DataW H)) (before : List MemPlace)
    (hval : ∀ (j : Nat) t v, Tryd.f9.params[j]? = some t → args[j]? = some v → Value.okWide Tryd.prog W .any base t v)
    (hW : DataW.Whole enc Tryd.prog Tryd.f9.params.toList Rows.ropeDepthSpec.vars false W args.toList ds gs before) (hL : laidMetH Tryd.prog Rows.ropeDepthUptoRow.laid W) (hk : Rows.uptoSmall H (ds ++ gs) = true) :
    Calls Tryd.prog 9 args W fun e W' => ∃ v, e = .returned v ∧ Rows.ropeDepthSpec.post enc Tryd.prog Tryd.f9 false true false false W args v W' := by
  have hW' := hW
  obtain ⟨p, q, hA0, hV, rfl, hfz, hnd⟩ := hW
  have hlt : ∀ x ∈ p, x.block < W.heap.size := fun x hx => hW'.lt x (List.mem_append_left _ hx)
  have hA : DataW.TrodAll enc Tryd.prog W 0 (fun _ => true) true Tryd.f9.params.toList args.toList ds p := hA0
  rw [Tryd.params9] at hA hval
  obtain ⟨v0, d0, hargs, rfl, h0⟩ := trodAll_one hA
  obtain rfl : args = #[v0] := by cases args; simp_all
  obtain ⟨rfl, rfl⟩ := trodVars_none hV
  have hsm : Rows.uptoBulkAll [d0] ≤ 1048576 := by simpa [Rows.uptoSmall] using hk
  simp only [Rows.uptoBulkAll] at hsm
  obtain ⟨A0, c0, l0, rfl, hb0, hc0, hm0⟩ := glue.open_acts (hval 0 22 v0 rfl rfl) h0 (by omega)
  refine (RopeDepth_walk A0 c0 l0 W (tabs_laid hL) hb0 hc0 hm0).mono fun e W' ⟨he, hl⟩ => ?_
  subst he
  have ht : ∀ t ∈ Tryd.f9.params.toList, Tryd.prog.readableRec t = true ∧ t < Tryd.prog.types.size := by
    rw [Tryd.params9]
    intro t ht
    simp only [List.mem_cons, List.not_mem_nil, or_false] at ht
    subst ht
    all_goals exact ⟨by kernel_rfl, of_decide_eq_true (by kernel_rfl)⟩
  exact ⟨_, rfl, _, _, _, _, _, _, hW', trodAll_cons_mk (shut_bool Tryd.underlying4 _) trodAll_mk0, glue.back hl _ _ _ _ hA0 ht hlt, rfl, Below.frame hl _, fun h => by cases h⟩
end
end Go.Proofs.YtliphfgiaioebaaDoor.ropeDepth
