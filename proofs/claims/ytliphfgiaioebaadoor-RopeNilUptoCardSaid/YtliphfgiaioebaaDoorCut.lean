/-
  Package leaf: Cut.
-/
import Derived.Test.YtliphfgiaioebaaDoorSlices
namespace Go.Proofs.YtliphfgiaioebaaDoor
set_option linter.unusedVariables false
set_option linter.unusedSimpArgs false
open Go.RowKit

/-- bytes in blocks below n -/
def BytesN (n : Nat) (w : World) (A : Option Addr) (l : List UInt8) : Prop := n ≤ w.heap.size ∧ BytesAt w A l ∧ (0 < l.length → ∀ a, A = some a → a.block < n)
theorem BytesAt.n {w : World} {A : Option Addr} {l : List UInt8} (h : BytesAt w A l) : BytesN w.heap.size w A l := ⟨Nat.le_refl _, h, fun h0 a e => by
  obtain ⟨b, off, e', hc⟩ := h h0
  rw [e] at e'; cases e'
  exact World.block_lt_of_cell? w ⟨b, off, none⟩ (hc 0 h0)⟩
theorem BytesN.at {n : Nat} {w : World} {A : Option Addr} {l : List UInt8} (h : BytesN n w A l) : BytesAt w A l := h.2.1
theorem BytesN.later {n : Nat} {w w' : World} {A : Option Addr} {l : List UInt8} (h : BytesN n w A l) (hl : Ltr w w') : BytesN n w' A l := ⟨Nat.le_trans h.1 hl.size, h.2.1.later hl, h.2.2⟩
theorem BytesN.gr {n : Nat} {w w' : World} {r : Option Nat} {A : Option Addr} {l : List UInt8} (h : BytesN n w A l) (hg : w.grownBy w' r) (hr : ∀ k, r = some k → n ≤ k) : BytesN n w' A l := ⟨Nat.le_trans h.1 hg.size, by
  by_cases h0 : 0 < l.length
  · exact h.2.1.gr hg (h.2.2 h0) h.1 hr
  · exact fun h1 => absurd h1 h0, h.2.2⟩
theorem BytesN.upd {n g : Nat} {w w' : World} {A : Option Addr} {l : List UInt8} (h : BytesN n w A l) (hu : Upd g w w') (hg : n ≤ g) : BytesN n w' A l := h.gr hu.grown (fun k hk => by cases hk; exact hg)
theorem BytesAt.tail {w : World} {A : Option Addr} {l : List UInt8} (h : BytesAt w A l) (c lo : Nat) (h1 : lo ≤ l.length) (h3 : l.length ≤ c) : BytesAt w (cutA A c lo) (l.drop lo) := by
  have := h.cut c lo l.length h1 (Nat.le_refl _) h3
  rwa [List.take_of_length_le (Nat.le_refl _)] at this
theorem cells_one {w : World} {b : Nat} {t : TypeId} {x : Value} (h : Blk w b t #[x]) : CellsAt w (some ⟨b, 0, none⟩) [x] := fun _ => ⟨b, 0, rfl, fun i v hi => by
  cases i with
  | zero => simp at hi; subst hi; exact h.cell 0
  | succ i => simp at hi⟩
/-- leaves of which a slice tells, apart from its row -/
def Leaves (w : World) (v : Value) (xs : List Value) (ls : List (List UInt8)) : Prop :=
  xs.length = ls.length ∧ ∀ i, i < ls.length → ∃ b, xs[i]? = some (.pointer (some ⟨b, 0, none⟩)) ∧ v.ownBlock ≠ some b ∧ LeafAt w b (ls.getD i [])
theorem Leaves.nil (w : World) (v : Value) : Leaves w v [] [] := ⟨rfl, fun i hi => absurd hi (by simp)⟩
theorem Leaves.later {w w' : World} {v : Value} {xs : List Value} {ls : List (List UInt8)} (h : Leaves w v xs ls) (hl : Ltr w w') : Leaves w' v xs ls := ⟨h.1, fun i hi => by
  obtain ⟨b, h1, h2, h3⟩ := h.2 i hi; exact ⟨b, h1, h2, h3.later hl⟩⟩
theorem Leaves.snoc {w w' : World} {v v' : Value} {xs : List Value} {ls : List (List UInt8)} {p : Nat} {l : List UInt8} (h : Leaves w v xs ls) (hp : LeafAt w p l) (hne : v.ownBlock ≠ some p) (hg : w.grownBy w' v.ownBlock)
    (hv : v'.ownBlock = v.ownBlock ∨ v'.ownBlock = some w.heap.size) : Leaves w' v' (xs ++ [.pointer (some ⟨p, 0, none⟩)]) (ls ++ [l]) := by
  have key : ∀ b l, LeafAt w b l → v.ownBlock ≠ some b → v'.ownBlock ≠ some b ∧ LeafAt w' b l := fun b l hb hn => by
    refine ⟨?_, hb.gr hg hn⟩
    rcases hv with e | e
    · rw [e]; exact hn
    · rw [e]; have := Blk.lt hb; intro e'; cases e'; omega
  refine ⟨by simp [h.1], fun i hi => ?_⟩
  rw [List.length_append, List.length_singleton] at hi
  by_cases hlt : i < ls.length
  · obtain ⟨b, h1, h2, h3⟩ := h.2 i hlt
    obtain ⟨k1, k2⟩ := key b _ h3 h2
    refine ⟨b, by rw [List.getElem?_append_left (by rw [h.1]; exact hlt)]; exact h1, k1, ?_⟩
    rw [List.getD_eq_getElem?_getD, List.getElem?_append_left hlt, ← List.getD_eq_getElem?_getD]; exact k2
  · obtain rfl : i = ls.length := by omega
    obtain ⟨k1, k2⟩ := key p l hp hne
    refine ⟨p, by rw [← h.1]; simp, k1, ?_⟩
    rw [List.getD_eq_getElem?_getD]; simpa using k2
theorem floor_facts (l : List UInt8) (p : Nat) : floorOf l p ≤ p ∧ p ≤ floorOf l p + 3 := by
  have := insideOf_le l p
  unfold floorOf; omega
def CutP (l : List UInt8) (w : World) (e : Ending) (w' : World) : Prop := ∃ (A : Option Addr) (c : Nat) (xs : List Value) (ls : List (List UInt8)), e = .returned (.tuple #[.slice A xs.length c, .int .i64 0]) ∧ Ltr w w' ∧ xs.length ≤ c ∧ CellsAt w' A xs ∧
  xs.length = ls.length ∧ (∀ i, i < ls.length → ∃ b, xs[i]? = some (.pointer (some ⟨b, 0, none⟩)) ∧ LeafAt w' b (ls.getD i [])) ∧ ls.flatten = l ∧ ∀ p ∈ ls, 0 < p.length ∧ p.length ≤ 4096
theorem CutP.mk {w w' : World} {v : Value} {xs : List Value} {ls : List (List UInt8)} {l : List UInt8} (hB : Ltr w w') (hO : Own w.heap.size 116 w' v xs) (hV : Leaves w' v xs ls) (hf : ls.flatten = l) (hk : ∀ p ∈ ls, 0 < p.length ∧ p.length ≤ 4096) :
    CutP l w (.returned (.tuple #[v, .int .i64 0])) w' := by
  obtain ⟨A, c, rfl, hA, hc⟩ := hO.form
  exact ⟨A, c, xs, ls, rfl, hB, hc, hA, hV.1, fun i hi => by obtain ⟨b, h1, _, h3⟩ := hV.2 i hi; exact ⟨b, h1, h3⟩, hf, hk⟩

set_option maxRecDepth 100000 in
set_option maxHeartbeats 8000000 in
theorem Cut_any (A : Option Addr) (c : Nat) (l : List UInt8) (w : World) (hT : Tabs w) (hA' : BytesAt w A l) (hc : l.length ≤ c) (hm : l.length ≤ 200000000) :
    Calls Tryd.prog 80 #[.slice A l.length c, .int .i64 4096] w (CutP l w) := by
  have hB := Ltr.refl w
  have hA := hA'.n
  clear hA'
  go_enter Tryd.func80, Tryd.ntmps80
  have h4 := hT.four
  refine wp_seq_k fun KK1 hKK1 => ?_
  refine rl_begin fun hgK hgo => ?_
  refine rl_take (some 4) (.slice none 0 0) rfl (by kernel_rfl) (by kernel_rfl) ?_
  try simp only [pa, pn, pb, pc, pd]
  refine rl_take (some 5) (.int .i64 0) rfl (by kernel_rfl) (by kernel_rfl) ?_
  try simp only [pa, pn, pb, pc, pd]
  refine rl_nil ?_
  refine hgo.out _ _ ?_
  clear hgo hgK
  refine hKK1 _ _ ?_
  refine wp_seq_k fun KK2 hKK2 => ?_
  refine wp_seq_k fun KK3 hKK3 => ?_
  refine rl_begin fun hgK hgo => ?_
  refine rl_take (some 9) (.int .i64 4096) rfl (by kernel_rfl) (by kernel_rfl) ?_
  try simp only [pa, pn, pb, pc, pd]
  refine rl_take (some 10) (.bool false) rfl (by kernel_rfl) (by exact ex_bool (c := (4096 : Int) < 1) (by kernel_rfl) ⟨fun q => (by cases q), fun q => absurd q (by omega)⟩) ?_
  try simp only [pa, pn, pb, pc, pd]
  refine rl_take (some 11) (.bool false) rfl (by kernel_rfl) (by kernel_rfl) ?_
  try simp only [pa, pn, pb, pc, pd]
  refine rl_take (some 12) (.int .i64 4096) rfl (by kernel_rfl) (by kernel_rfl) ?_
  try simp only [pa, pn, pb, pc, pd]
  refine rl_take (some 13) (.bool false) rfl (by kernel_rfl) (by exact ex_bool (c := (4096 : Int) > 4096) (by kernel_rfl) ⟨fun q => (by cases q), fun q => absurd q (by omega)⟩) ?_
  try simp only [pa, pn, pb, pc, pd]
  refine rl_take (some 14) (.bool false) rfl (by kernel_rfl) (by kernel_rfl) ?_
  try simp only [pa, pn, pb, pc, pd]
  refine rl_nil ?_
  refine hgo.out _ _ ?_
  clear hgo hgK
  refine hKK3 _ _ ?_
  refine wp_cond_false (by kernel_rfl) ?_
  refine wp_skip ?_
  refine hKK2 _ _ ?_
  refine wp_seq_k fun KK4 hKK4 => ?_
  refine wp_seq_k fun KK5 hKK5 => ?_
  refine rl_begin fun hgK hgo => ?_
  refine rl_take (some 15) (.slice A l.length c) rfl (by kernel_rfl) (by kernel_rfl) ?_
  try simp only [pa, pn, pb, pc, pd]
  refine rl_take (some 16) (.int .i64 l.length) rfl (by kernel_rfl) (by kernel_rfl) ?_
  try simp only [pa, pn, pb, pc, pd]
  refine rl_take (some 17) (.bool false) rfl (by kernel_rfl) (by exact ex_bool (c := (l.length : Int) > 268435456) (by kernel_rfl) ⟨fun q => (by cases q), fun q => absurd q (by omega)⟩) ?_
  try simp only [pa, pn, pb, pc, pd]
  refine rl_nil ?_
  refine hgo.out _ _ ?_
  clear hgo hgK
  refine hKK5 _ _ ?_
  refine wp_cond_false (by kernel_rfl) ?_
  refine wp_skip ?_
  refine hKK4 _ _ ?_
  refine wp_seq_k fun KK6 hKK6 => ?_
  refine rl_begin fun hgK hgo => ?_
  refine rl_take (some 6) (.slice none 0 0) rfl (by kernel_rfl) (by kernel_rfl) ?_
  try simp only [pa, pn, pb, pc, pd]
  refine rl_nil ?_
  refine hgo.out _ _ ?_
  clear hgo hgK
  refine hKK6 _ _ ?_
  refine wp_seq_k fun KK7 hKK7 => ?_
  refine rl_begin fun hgK hgo => ?_
  refine rl_take (some 7) (.int .i64 0) rfl (by kernel_rfl) (by kernel_rfl) ?_
  try simp only [pa, pn, pb, pc, pd]
  refine rl_nil ?_
  refine hgo.out _ _ ?_
  clear hgo hgK
  refine hKK7 _ _ ?_
  refine wp_seq_k fun KK8 hKK8 => ?_
  refine wp_block ?_
  refine wp_loop_ghost (fun gn ga wl => ∃ (u : Nat → Value) (at' : Nat) (v : Value) (xs : List Value) (ls : List (List UInt8)), gn = l.length - at' ∧ ga = ⟨#[.slice A l.length c, .int .i64 4096, undef, undef, .slice none 0 0, .int .i64 0, v, .int .i64 at', u 8, .int .i64 4096, .bool false, .bool false, .int .i64 4096, .bool false, .bool false, .slice A l.length c, .int .i64 l.length, .bool false, u 18, u 19, u 20, u 21, u 22, u 23, u 24, u 25, u 26, u 27, u 28, u 29, u 30, u 31, u 32, u 33, u 34, u 35, u 36, u 37, u 38, u 39, u 40, u 41, u 42, u 43, u 44, undef, undef, undef, undef, undef, undef, undef, undef, undef, undef, undef, undef, undef], []⟩ ∧ (Tabs wl) ∧ (Ltr w wl) ∧ (BytesN w.heap.size wl A l) ∧ (Own w.heap.size 116 wl v xs) ∧ (Leaves wl v xs ls) ∧ (at' ≤ l.length) ∧ (ls.flatten = l.take at') ∧ (∀ p ∈ ls, 0 < p.length ∧ p.length ≤ 4096) ∧ (xs.length ≤ at')) ((fun (at' : Nat) (v : Value) (xs : List Value) (ls : List (List UInt8)) => (l.length - at' : Nat)) 0 (.slice none 0 0) [] []) ?_ ?_
  · exact ⟨fun i => (#[.slice A l.length c, .int .i64 4096, undef, undef, .slice none 0 0, .int .i64 0, .slice none 0 0, .int .i64 0, undef, .int .i64 4096, .bool false, .bool false, .int .i64 4096, .bool false, .bool false, .slice A l.length c, .int .i64 l.length, .bool false, undef, undef, undef, undef, undef, undef, undef, undef, undef, undef, undef, undef, undef, undef, undef, undef, undef, undef, undef, undef, undef, undef, undef, undef, undef, undef, undef, undef, undef, undef, undef, undef, undef, undef, undef, undef, undef, undef, undef, undef]).getD i undef, 0, .slice none 0 0, [], [], rfl, rfl, by assumption, by assumption, by assumption, Own.nil _ _ _ hB.size, Leaves.nil _ _, Nat.zero_le _, rfl, (fun p hp => by cases hp), Nat.le_refl _⟩
  rintro n9 a9 w9 ⟨u, at', v, xs, ls, rfl, rfl, hT', hB', hA', hO', hV', hat', hfl', hok', hxn'⟩
  clear hA hB hT
  have hT := hT'
  clear hT'
  have hB := hB'
  clear hB'
  have hA := hA'
  clear hA'
  have hO := hO'
  clear hO'
  have hV := hV'
  clear hV'
  have hat := hat'
  clear hat'
  have hfl := hfl'
  clear hfl'
  have hok := hok'
  clear hok'
  have hxn := hxn'
  clear hxn'
  refine wp_seq_k fun KK10 hKK10 => ?_
  refine wp_seq_k fun KK11 hKK11 => ?_
  refine rl_begin fun hgK hgo => ?_
  refine rl_take (some 18) (.slice A l.length c) rfl (by kernel_rfl) (by kernel_rfl) ?_
  try simp only [pa, pn, pb, pc, pd]
  refine rl_take (some 19) (.int .i64 l.length) rfl (by kernel_rfl) (by kernel_rfl) ?_
  try simp only [pa, pn, pb, pc, pd]
  refine rl_take (some 20) (.int .i64 at') rfl (by kernel_rfl) (by kernel_rfl) ?_
  try simp only [pa, pn, pb, pc, pd]
  refine rl_take (some 21) (.int .i64 ((l.length : Int) - (at'))) rfl (by kernel_rfl) (by exact ex_arith (e := (l.length : Int) - (at')) (r := (l.length : Int) - (at')) (by kernel_rfl) (by omega) (by omega)) ?_
  try simp only [pa, pn, pb, pc, pd]
  refine rl_take (some 22) (.int .i64 4096) rfl (by kernel_rfl) (by kernel_rfl) ?_
  try simp only [pa, pn, pb, pc, pd]
  by_cases hgt : (l.length : Int) - at' > 4096
  · refine rl_take (some 23) (.bool true) rfl (by kernel_rfl) (by exact ex_bool (c := (((l.length : Int) - (at')) : Int) > 4096) (by kernel_rfl) ⟨fun _ => by omega, fun _ => rfl⟩) ?_
    try simp only [pa, pn, pb, pc, pd]
    refine rl_nil ?_
    refine hgo.out _ _ ?_
    clear hgo hgK
    refine hKK11 _ _ ?_
    refine wp_cond_true (by kernel_rfl) ?_
    refine wp_skip ?_
    refine hKK10 _ _ ?_
    refine wp_block ?_
    refine wp_seq_k fun KK12 hKK12 => ?_
    refine rl_begin fun hgK hgo => ?_
    refine rl_take (some 24) (.int .i64 at') rfl (by kernel_rfl) (by kernel_rfl) ?_
    try simp only [pa, pn, pb, pc, pd]
    refine rl_take (some 25) (.int .i64 4096) rfl (by kernel_rfl) (by kernel_rfl) ?_
    try simp only [pa, pn, pb, pc, pd]
    refine rl_take (some 26) (.int .i64 (((at' + 4096 : Nat) : Int))) rfl (by kernel_rfl) (by exact ex_arith (e := (at' : Int) + 4096) (r := ((at' + 4096 : Nat) : Int)) (by kernel_rfl) (by omega) (by omega)) ?_
    try simp only [pa, pn, pb, pc, pd]
    refine rl_take (some 8) (.int .i64 (((at' + 4096 : Nat) : Int))) rfl (by kernel_rfl) (by kernel_rfl) ?_
    try simp only [pa, pn, pb, pc, pd]
    refine rl_nil ?_
    refine hgo.out _ _ ?_
    clear hgo hgK
    refine hKK12 _ _ ?_
    refine wp_seq_k fun KK13 hKK13 => ?_
    refine wp_seq_k fun KK14 hKK14 => ?_
    refine rl_begin fun hgK hgo => ?_
    refine rl_take (some 27) (.int .i64 4096) rfl (by kernel_rfl) (by kernel_rfl) ?_
    try simp only [pa, pn, pb, pc, pd]
    refine rl_take (some 28) (.bool true) rfl (by kernel_rfl) (by exact ex_bool (c := (4096 : Int) ≥ 4) (by kernel_rfl) ⟨fun _ => by omega, fun _ => rfl⟩) ?_
    try simp only [pa, pn, pb, pc, pd]
    refine rl_nil ?_
    refine hgo.out _ _ ?_
    clear hgo hgK
    refine hKK14 _ _ ?_
    refine wp_cond_true (by kernel_rfl) ?_
    refine rl_begin fun hgK hgo => ?_
    refine rl_take (some 30) (.slice A l.length c) rfl (by kernel_rfl) (by kernel_rfl) ?_
    try simp only [pa, pn, pb, pc, pd]
    refine rl_take (some 31) (.int .i64 (((at' + 4096 : Nat) : Int))) rfl (by kernel_rfl) (by kernel_rfl) ?_
    try simp only [pa, pn, pb, pc, pd]
    refine rl_call (some 32) 101 #[.slice A l.length c, .int .i64 (((at' + 4096 : Nat) : Int))] rfl (by kernel_rfl) (by kernel_rfl) (Floor_any A c l (at' + 4096) _ hT hA.at hc (by omega) (by omega)) ?_
    rintro e w15 ⟨rfl, hL15⟩
    refine ⟨_, rfl, ?_⟩
    replace hT := hT.later hL15
    replace hB := hB.later hL15
    replace hA := hA.later hL15
    replace hO := hO.later hL15
    replace hV := hV.later hL15
    have hz15 := hL15.size
    try simp only [pa, pn, pb, pc, pd]
    refine rl_take (some 29) (.tuple #[.int .i64 (floorOf l (at' + 4096)), .int .i64 0]) rfl (by kernel_rfl) (by kernel_rfl) ?_
    try simp only [pa, pn, pb, pc, pd]
    refine rl_take (some 33) (.int .i64 (floorOf l (at' + 4096))) rfl (by kernel_rfl) (by kernel_rfl) ?_
    try simp only [pa, pn, pb, pc, pd]
    refine rl_take (some 34) (.int .i64 0) rfl (by kernel_rfl) (by kernel_rfl) ?_
    try simp only [pa, pn, pb, pc, pd]
    refine rl_take (some 8) (.int .i64 (floorOf l (at' + 4096))) rfl (by kernel_rfl) (by kernel_rfl) ?_
    try simp only [pa, pn, pb, pc, pd]
    refine rl_nil ?_
    refine hgo.out _ _ ?_
    clear hgo hgK
    refine hKK13 _ _ ?_
    refine wp_seq_k fun KK16 hKK16 => ?_
    (have hff := floor_facts l (at' + 4096)); (have hpl : ((l.take (floorOf l (at' + 4096))).drop at').length = floorOf l (at' + 4096) - at' := (by rw [List.length_drop, List.length_take]; omega))
    refine rl_begin fun hgK hgo => ?_
    refine rl_take (some 35) (v) rfl (by kernel_rfl) (by kernel_rfl) ?_
    try simp only [pa, pn, pb, pc, pd]
    refine rl_take (some 36) (.slice A l.length c) rfl (by kernel_rfl) (by kernel_rfl) ?_
    try simp only [pa, pn, pb, pc, pd]
    refine rl_take (some 37) (.int .i64 at') rfl (by kernel_rfl) (by kernel_rfl) ?_
    try simp only [pa, pn, pb, pc, pd]
    refine rl_take (some 38) (.int .i64 (floorOf l (at' + 4096))) rfl (by kernel_rfl) (by kernel_rfl) ?_
    try simp only [pa, pn, pb, pc, pd]
    refine rl_take (some 39) (.slice (cutA A c (at')) (((l.take (floorOf l (at' + 4096))).drop at').length) (c - (at'))) rfl (by kernel_rfl) (by exact ex_cutN (at') (floorOf l (at' + 4096)) (((l.take (floorOf l (at' + 4096))).drop at').length) (by omega) rfl rfl (.inl rfl) (.inl rfl) (by kernel_rfl) (fun _ => by kernel_rfl) (by omega) (by omega) (by omega) _) ?_
    try simp only [pa, pn, pb, pc, pd]
    refine rl_take (some 40) (.string (bs ((l.take (floorOf l (at' + 4096))).drop at'))) rfl (by kernel_rfl) (by exact ex_conv_str _ rfl (cutA A c at') (c - at') ((l.take (floorOf l (at' + 4096))).drop at') rfl (hA.at.cut c at' _ (by omega) (by omega) hc)) ?_
    try simp only [pa, pn, pb, pc, pd]
    have hrw := hO.row
    refine rl_call (some 41) 102 #[.string (bs ((l.take (floorOf l (at' + 4096))).drop at'))] rfl (by kernel_rfl) (by kernel_rfl) (made_any ((l.take (floorOf l (at' + 4096))).drop at') (by omega) _ hT) ?_
    rintro e w17 ⟨p, rfl, hL17, hp, hpn⟩
    refine ⟨_, rfl, ?_⟩
    replace hT := hT.later hL17
    replace hB := hB.later hL17
    replace hA := hA.later hL17
    replace hO := hO.later hL17
    replace hV := hV.later hL17
    have hz17 := hL17.size
    (have hpr : v.ownBlock ≠ some p := (fun e => by have := hO.row p e; have := hrw p e; omega))
    try simp only [pa, pn, pb, pc, pd]
    refine rl_bslice (some 42) 116 #[.pointer (some ⟨p, 0, none⟩)] 1 rfl (by kernel_rfl) (fun W => by kernel_rfl) fun q w18 hL18 hp18 hq => ?_
    replace hT := hT.later hL18
    replace hB := hB.later hL18
    replace hA := hA.later hL18
    replace hO := hO.later hL18
    replace hV := hV.later hL18
    replace hp := hp.later hL18
    have hz18 := hL18.size
    have hlt18 := hq.lt
    try simp only [pa, pn, pb, pc, pd]
    have hrow19 := hO.row
    refine rl_append (z := .pointer none) (bytes := 8) (ys := [.pointer (some ⟨p, 0, none⟩)]) (some 43) rfl (by kernel_rfl) rfl rfl rfl (by kernel_rfl) (by kernel_rfl) (by kernel_rfl) hO (cells_one hq) (fun h => by cases h) (by simp [Value.oneCell']) (by simp only [List.length_singleton]; omega) (by simp only [List.length_singleton]; omega) fun v2 w19 ho19 hG19 hV19 => ?_
    have hV2 := Leaves.snoc hV hp hpr hG19 hV19
    replace hT := hT.gr hG19 (fun k hk => by have := hrow19 k hk; omega)
    replace hB := hB.gr hG19 (fun k hk => by have := hrow19 k hk; omega)
    replace hA := hA.gr hG19 (fun k hk => by have := hrow19 k hk; omega)
    clear hV
    clear hp
    clear hq
    clear hO
    have hO := ho19
    clear ho19
    have hz19 := hG19.size
    try simp only [pa, pn, pb, pc, pd]
    refine rl_take (some 6) (v2) rfl (by kernel_rfl) (by kernel_rfl) ?_
    try simp only [pa, pn, pb, pc, pd]
    refine rl_nil ?_
    refine hgo.out _ _ ?_
    clear hgo hgK
    refine hKK16 _ _ ?_
    refine rl_begin fun hgK hgo => ?_
    refine rl_take (some 44) (.int .i64 (floorOf l (at' + 4096))) rfl (by kernel_rfl) (by kernel_rfl) ?_
    try simp only [pa, pn, pb, pc, pd]
    refine rl_take (some 7) (.int .i64 (floorOf l (at' + 4096))) rfl (by kernel_rfl) (by kernel_rfl) ?_
    try simp only [pa, pn, pb, pc, pd]
    refine rl_nil ?_
    refine hgo.out _ _ ?_
    clear hgo hgK
    exact ⟨_, (by omega), fun i => (#[.slice A l.length c, .int .i64 4096, undef, undef, .slice none 0 0, .int .i64 0, v2, .int .i64 (floorOf l (at' + 4096)), .int .i64 (floorOf l (at' + 4096)), .int .i64 4096, .bool false, .bool false, .int .i64 4096, .bool false, .bool false, .slice A l.length c, .int .i64 l.length, .bool false, .slice A l.length c, .int .i64 l.length, .int .i64 at', .int .i64 ((l.length : Int) - (at')), .int .i64 4096, .bool true, .int .i64 at', .int .i64 4096, .int .i64 (((at' + 4096 : Nat) : Int)), .int .i64 4096, .bool true, .tuple #[.int .i64 (floorOf l (at' + 4096)), .int .i64 0], .slice A l.length c, .int .i64 (((at' + 4096 : Nat) : Int)), .tuple #[.int .i64 (floorOf l (at' + 4096)), .int .i64 0], .int .i64 (floorOf l (at' + 4096)), .int .i64 0, v, .slice A l.length c, .int .i64 at', .int .i64 (floorOf l (at' + 4096)), .slice (cutA A c (at')) (((l.take (floorOf l (at' + 4096))).drop at').length) (c - (at')), .string (bs ((l.take (floorOf l (at' + 4096))).drop at')), .pointer (some ⟨p, 0, none⟩), .slice (some ⟨q, 0, none⟩) 1 1, v2, .int .i64 (floorOf l (at' + 4096)), undef, undef, undef, undef, undef, undef, undef, undef, undef, undef, undef, undef, undef]).getD i undef, floorOf l (at' + 4096), v2, xs ++ [.pointer (some ⟨p, 0, none⟩)], ls ++ [((l.take (floorOf l (at' + 4096))).drop at')], rfl, rfl, by assumption, by assumption, by assumption, by assumption, by assumption, (by omega), (by rw [List.flatten_append, hfl]; simp only [List.flatten_cons, List.flatten_nil, List.append_nil]; rw [show l.take at' = (l.take (floorOf l (at' + 4096))).take at' from by rw [List.take_take]; congr 1; omega, List.take_append_drop]), (by intro z hz; rcases List.mem_append.1 hz with h|h; (exact hok z h); rw [List.mem_singleton.1 h, hpl]; omega), (by simp only [List.length_append, List.length_singleton]; omega)⟩
  · refine rl_take (some 23) (.bool false) rfl (by kernel_rfl) (by exact ex_bool (c := (((l.length : Int) - (at')) : Int) > 4096) (by kernel_rfl) ⟨fun q => (by cases q), fun q => absurd q (by omega)⟩) ?_
    try simp only [pa, pn, pb, pc, pd]
    refine rl_nil ?_
    refine hgo.out _ _ ?_
    clear hgo hgK
    refine hKK11 _ _ ?_
    refine wp_cond_false (by kernel_rfl) ?_
    refine wp_exit ?_
    refine hKK8 _ _ ?_
    refine wp_seq_k fun KK20 hKK20 => ?_
    refine wp_seq_k fun KK21 hKK21 => ?_
    refine rl_begin fun hgK hgo => ?_
    refine rl_take (some 45) (.int .i64 at') rfl (by kernel_rfl) (by kernel_rfl) ?_
    try simp only [pa, pn, pb, pc, pd]
    refine rl_take (some 46) (.slice A l.length c) rfl (by kernel_rfl) (by kernel_rfl) ?_
    try simp only [pa, pn, pb, pc, pd]
    refine rl_take (some 47) (.int .i64 l.length) rfl (by kernel_rfl) (by kernel_rfl) ?_
    try simp only [pa, pn, pb, pc, pd]
    by_cases hlt : (at' : Int) < l.length
    · refine rl_take (some 48) (.bool true) rfl (by kernel_rfl) (by exact ex_bool (c := (at' : Int) < l.length) (by kernel_rfl) ⟨fun _ => by omega, fun _ => rfl⟩) ?_
      try simp only [pa, pn, pb, pc, pd]
      refine rl_nil ?_
      refine hgo.out _ _ ?_
      clear hgo hgK
      refine hKK21 _ _ ?_
      refine wp_cond_true (by kernel_rfl) ?_
      have hpl : (l.drop at').length = l.length - at' := List.length_drop
      refine rl_begin fun hgK hgo => ?_
      refine rl_take (some 49) (v) rfl (by kernel_rfl) (by kernel_rfl) ?_
      try simp only [pa, pn, pb, pc, pd]
      refine rl_take (some 50) (.slice A l.length c) rfl (by kernel_rfl) (by kernel_rfl) ?_
      try simp only [pa, pn, pb, pc, pd]
      refine rl_take (some 51) (.int .i64 at') rfl (by kernel_rfl) (by kernel_rfl) ?_
      try simp only [pa, pn, pb, pc, pd]
      refine rl_take (some 52) (.slice (cutA A c (at')) ((l.drop at').length) (c - (at'))) rfl (by kernel_rfl) (by exact ex_cutN (at') l.length ((l.drop at').length) (by omega) rfl rfl (.inl rfl) (.inr ⟨rfl, rfl⟩) (by kernel_rfl) (fun _ => by kernel_rfl) (by omega) (by omega) (by omega) _) ?_
      try simp only [pa, pn, pb, pc, pd]
      refine rl_take (some 53) (.string (bs (l.drop at'))) rfl (by kernel_rfl) (by exact ex_conv_str _ rfl (cutA A c at') (c - at') (l.drop at') rfl (hA.at.tail c at' (by omega) hc)) ?_
      try simp only [pa, pn, pb, pc, pd]
      have hrw := hO.row
      refine rl_call (some 54) 102 #[.string (bs (l.drop at'))] rfl (by kernel_rfl) (by kernel_rfl) (made_any (l.drop at') (by omega) _ hT) ?_
      rintro e w22 ⟨p, rfl, hL22, hp, hpn⟩
      refine ⟨_, rfl, ?_⟩
      replace hT := hT.later hL22
      replace hB := hB.later hL22
      replace hA := hA.later hL22
      replace hO := hO.later hL22
      replace hV := hV.later hL22
      have hz22 := hL22.size
      (have hpr : v.ownBlock ≠ some p := (fun e => by have := hO.row p e; have := hrw p e; omega))
      try simp only [pa, pn, pb, pc, pd]
      refine rl_bslice (some 55) 116 #[.pointer (some ⟨p, 0, none⟩)] 1 rfl (by kernel_rfl) (fun W => by kernel_rfl) fun q w23 hL23 hp23 hq => ?_
      replace hT := hT.later hL23
      replace hB := hB.later hL23
      replace hA := hA.later hL23
      replace hO := hO.later hL23
      replace hV := hV.later hL23
      replace hp := hp.later hL23
      have hz23 := hL23.size
      have hlt23 := hq.lt
      try simp only [pa, pn, pb, pc, pd]
      have hrow24 := hO.row
      refine rl_append (z := .pointer none) (bytes := 8) (ys := [.pointer (some ⟨p, 0, none⟩)]) (some 56) rfl (by kernel_rfl) rfl rfl rfl (by kernel_rfl) (by kernel_rfl) (by kernel_rfl) hO (cells_one hq) (fun h => by cases h) (by simp [Value.oneCell']) (by simp only [List.length_singleton]; omega) (by simp only [List.length_singleton]; omega) fun v2 w24 ho24 hG24 hV24 => ?_
      have hV2 := Leaves.snoc hV hp hpr hG24 hV24
      replace hT := hT.gr hG24 (fun k hk => by have := hrow24 k hk; omega)
      replace hB := hB.gr hG24 (fun k hk => by have := hrow24 k hk; omega)
      replace hA := hA.gr hG24 (fun k hk => by have := hrow24 k hk; omega)
      clear hV
      clear hp
      clear hq
      clear hO
      have hO := ho24
      clear ho24
      have hz24 := hG24.size
      try simp only [pa, pn, pb, pc, pd]
      refine rl_take (some 6) (v2) rfl (by kernel_rfl) (by kernel_rfl) ?_
      try simp only [pa, pn, pb, pc, pd]
      refine rl_nil ?_
      refine hgo.out _ _ ?_
      clear hgo hgK
      refine hKK20 _ _ ?_
      refine wp_seq_k fun KK25 hKK25 => ?_
      refine rl_begin fun hgK hgo => ?_
      refine rl_take (some 57) (v2) rfl (by kernel_rfl) (by kernel_rfl) ?_
      try simp only [pa, pn, pb, pc, pd]
      refine rl_take (some 4) (v2) rfl (by kernel_rfl) (by kernel_rfl) ?_
      try simp only [pa, pn, pb, pc, pd]
      refine rl_take (some 5) (.int .i64 0) rfl (by kernel_rfl) (by kernel_rfl) ?_
      try simp only [pa, pn, pb, pc, pd]
      refine rl_nil ?_
      refine hgo.out _ _ ?_
      clear hgo hgK
      refine hKK25 _ _ ?_
      refine wp_ret ?_
      try simp only [Exit.then, Exit.inBlock]
      refine bp_ret (v := .tuple #[v2, .int .i64 0]) (res2 rfl (res_tmp (by kernel_rfl)) (res_tmp (by kernel_rfl))) ?_
      exact CutP.mk hB hO hV2 (by rw [List.flatten_append, hfl]; simp) (by intro z hz; rcases List.mem_append.1 hz with h|h; (exact hok z h); rw [List.mem_singleton.1 h, hpl]; omega)
    · refine rl_take (some 48) (.bool false) rfl (by kernel_rfl) (by exact ex_bool (c := (at' : Int) < l.length) (by kernel_rfl) ⟨fun q => (by cases q), fun q => absurd q (by omega)⟩) ?_
      try simp only [pa, pn, pb, pc, pd]
      refine rl_nil ?_
      refine hgo.out _ _ ?_
      clear hgo hgK
      refine hKK21 _ _ ?_
      refine wp_cond_false (by kernel_rfl) ?_
      refine wp_skip ?_
      refine hKK20 _ _ ?_
      refine wp_seq_k fun KK26 hKK26 => ?_
      refine rl_begin fun hgK hgo => ?_
      refine rl_take (some 57) (v) rfl (by kernel_rfl) (by kernel_rfl) ?_
      try simp only [pa, pn, pb, pc, pd]
      refine rl_take (some 4) (v) rfl (by kernel_rfl) (by kernel_rfl) ?_
      try simp only [pa, pn, pb, pc, pd]
      refine rl_take (some 5) (.int .i64 0) rfl (by kernel_rfl) (by kernel_rfl) ?_
      try simp only [pa, pn, pb, pc, pd]
      refine rl_nil ?_
      refine hgo.out _ _ ?_
      clear hgo hgK
      refine hKK26 _ _ ?_
      refine wp_ret ?_
      try simp only [Exit.then, Exit.inBlock]
      refine bp_ret (v := .tuple #[v, .int .i64 0]) (res2 rfl (res_tmp (by kernel_rfl)) (res_tmp (by kernel_rfl))) ?_
      exact CutP.mk hB hO hV (by rw [hfl, List.take_of_length_le (by omega)]) hok
end Go.Proofs.YtliphfgiaioebaaDoor
