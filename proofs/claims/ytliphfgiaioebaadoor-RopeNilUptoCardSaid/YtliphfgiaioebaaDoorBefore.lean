/-
  Package rope: Before.
-/
import Derived.Test.YtliphfgiaioebaaDoorSplit
namespace Go.Proofs.YtliphfgiaioebaaDoor
set_option linter.unusedVariables false
set_option linter.unusedSimpArgs false
open Go.RowKit
def BeforeP (l : List UInt8) (n : Nat) (w : World) (e : Ending) (w' : World) : Prop := e = .returned (.tuple #[wv (l.take n), .int .i64 0]) ∧ Ltr w w'
theorem RopeAt.open {w : World} {b : Nat} {l : List UInt8} (h : RopeAt w b l) : ∃ v, Blk w b 110 #[v] ∧ ((l = [] ∧ v = .nilIface) ∨ ∃ t : Tr, t.ok ∧ t.bytes = l ∧ TreeN w.heap.size w t v) := by
  obtain ⟨v, h1, h2⟩ := h
  exact ⟨v, h1, h2.imp id fun ⟨t, k1, k2, k3⟩ => ⟨t, k1, k2, k3.n⟩⟩
theorem TreeN.open {n : Nat} {w : World} {s : Tr} {v : Value} (h : TreeN n w s v) :
    (∃ m a, s = .tip m ∧ v = .iface 118 (.agg #[.pointer (some ⟨a, 0, none⟩)]) ∧ a < n ∧ LeafAt w a m) ∨
    (∃ x y a vx vy, s = .fork x y ∧ v = .iface 111 (.pointer (some ⟨a, 0, none⟩)) ∧ a < n ∧ Blk w a 115 #[vx, vy, .int .i64 (x.bytes ++ y.bytes).length, .int .i64 ((1 + max x.h y.h : Nat) : Int), .int .i64 (x.bytes ++ y.bytes).length, .int .i64 (runesN (x.bytes ++ y.bytes)), .int .i64 (unitsN (x.bytes ++ y.bytes)), .int .i64 (endsN (x.bytes ++ y.bytes)), .string (bs (headOf (x.bytes ++ y.bytes))), .string (bs (tailOf (x.bytes ++ y.bytes)))] ∧ TreeN n w x vx ∧ TreeN n w y vy) := by
  cases s with
  | tip m => obtain ⟨a, e, h1, h2⟩ := h.2; exact .inl ⟨m, a, rfl, e, h1, h2⟩
  | fork x y => obtain ⟨a, vx, vy, e, h1, h2, h3, h4⟩ := h.2; exact .inr ⟨x, y, a, vx, vy, rfl, e, h1, h2, ⟨h.1, h3⟩, ⟨h.1, h4⟩⟩
/-- below n nothing has changed since a -/
def Bel (n : Nat) (a w : World) : Prop := n ≤ a.heap.size ∧ Below n a w
theorem Bel.refl (n : Nat) (w : World) (h : n ≤ w.heap.size) : Bel n w w := ⟨h, Below.refl _ _⟩
theorem Bel.later {n : Nat} {a w w' : World} (h : Bel n a w) (hl : Ltr w w') : Bel n a w' := ⟨h.1, bel_ltr h.2 hl h.1⟩
theorem Bel.upd {n g : Nat} {a w w' : World} (h : Bel n a w) (hu : Upd g w w') (hg : n ≤ g) : Bel n a w' := ⟨h.1, hu.below h.2 hg⟩
theorem Bel.bel {n m : Nat} {a w w' : World} (h : Bel n a w) (hb : Below m w w') (hm : n ≤ m) : Bel n a w' := ⟨h.1, h.2.trans (Below.mono hb hm)⟩
theorem Bel.gr {n : Nat} {a w w' : World} {r : Option Nat} (h : Bel n a w) (hg : w.grownBy w' r) (hr : ∀ k, r = some k → n ≤ k) : Bel n a w' := ⟨h.1, Below.grown h.2 hg (Nat.le_trans h.1 h.2.size) hr⟩
theorem inv_sizeN {n : Nat} {w : World} {t : Tr} {v : Value} (h : TreeN n w t v) : ∃ f x, Enters v "galley/rope.size" f x ∧ ∀ W, Bel n w W → Calls Tryd.prog f #[x] W fun e w' => e = .returned (.int .i64 t.bytes.length) ∧ Ltr W w' := by
  rcases h.open with ⟨m, a, rfl, rfl, ha, hl⟩ | ⟨x, y, a, vx, vy, rfl, rfl, ha, hb, -, -⟩
  · exact ⟨161, .agg #[.pointer (some ⟨a, 0, none⟩)], fun o ρ r w ho hr => by (rw [enters_resolve ho hr]; kernel_rfl), fun W hW => tsize_any a m W (Blk.bel hl hW.2 ha)⟩
  · exact ⟨158, .pointer (some ⟨a, 0, none⟩), fun o ρ r w ho hr => by (rw [enters_resolve ho hr]; kernel_rfl), fun W hW => fsize_any a vx vy _ _ _ W (hb.bel hW.2 ha)⟩
theorem inv_weldN {n : Nat} {w : World} {t : Tr} {v : Value} (h : TreeN n w t v) : ∃ f x, Enters v "galley/rope.weld" f x ∧ ∀ W, Bel n w W → Calls Tryd.prog f #[x] W fun e w' => e = .returned (wv t.bytes) ∧ Ltr W w' := by
  rcases h.open with ⟨m, a, rfl, rfl, ha, hl⟩ | ⟨x, y, a, vx, vy, rfl, rfl, ha, hb, -, -⟩
  · exact ⟨162, .agg #[.pointer (some ⟨a, 0, none⟩)], fun o ρ r w ho hr => by (rw [enters_resolve ho hr]; kernel_rfl), fun W hW => tweld_any a m W (Blk.bel hl hW.2 ha)⟩
  · exact ⟨159, .pointer (some ⟨a, 0, none⟩), fun o ρ r w ho hr => by (rw [enters_resolve ho hr]; kernel_rfl), fun W hW => fweld_any a vx vy _ _ _ W (hb.bel hW.2 ha)⟩
set_option maxRecDepth 100000 in
set_option maxHeartbeats 8000000 in
theorem Before_0 (b : Nat) (l : List UInt8) (w : World) (hT : Tabs w) (hr : RopeAt w b l) :
    Calls Tryd.prog 43 #[.pointer (some ⟨b, 0, none⟩), .int .i64 0] w (BeforeP l 0 w) := by
  have hB := Ltr.refl w
  have hr0 := hr
  obtain ⟨v, hb, -⟩ := hr
  go_enter Tryd.func43, Tryd.ntmps43
  have h4 := hT.four
  have hlt_hb := hb.lt
  refine wp_seq_k fun KK1 hKK1 => ?_
  refine rl_begin fun hgK hgo => ?_
  refine rl_alloc (some 4) 36 #[.int .i64 0, .int .i64 0, .int .i64 0, .int .i64 0, .string ⟨#[]⟩, .string ⟨#[]⟩] rfl (by kernel_rfl) (fun W => by kernel_rfl) fun r w2 hL2 hp2 hr => ?_
  replace hT := hT.later hL2
  replace hB := hB.later hL2
  replace hr0 := hr0.later hL2
  replace hb := hb.later hL2
  have hz2 := hL2.size
  have hlt2 := hr.lt
  try simp only [pa, pn, pb, pc, pd]
  refine rl_take (some 5) (.int .i64 0) rfl (by kernel_rfl) (by kernel_rfl) ?_
  try simp only [pa, pn, pb, pc, pd]
  refine rl_nil ?_
  refine hgo.out _ _ ?_
  clear hgo hgK
  refine hKK1 _ _ ?_
  refine wp_seq_k fun KK3 hKK3 => ?_
  refine wp_seq_k fun KK4 hKK4 => ?_
  refine rl_begin fun hgK hgo => ?_
  refine rl_take (some 13) (.pointer (some ⟨b, 0, none⟩)) rfl (by kernel_rfl) (by kernel_rfl) ?_
  try simp only [pa, pn, pb, pc, pd]
  refine rl_take (some 14) (.int .i64 0) rfl (by kernel_rfl) (by kernel_rfl) ?_
  try simp only [pa, pn, pb, pc, pd]
  refine rl_call (some 15) 77 #[.pointer (some ⟨b, 0, none⟩), .int .i64 0] rfl (by kernel_rfl) (by kernel_rfl) (place_in b l 0 (Nat.zero_le _) _ hr0) ?_
  rintro e w5 ⟨rfl, hL5⟩
  refine ⟨_, rfl, ?_⟩
  replace hT := hT.later hL5
  replace hB := hB.later hL5
  replace hr0 := hr0.later hL5
  replace hb := hb.later hL5
  replace hr := hr.later hL5
  have hz5 := hL5.size
  clear hr0
  try simp only [pa, pn, pb, pc, pd]
  refine rl_take (some 6) (.int .i64 0) rfl (by kernel_rfl) (by kernel_rfl) ?_
  try simp only [pa, pn, pb, pc, pd]
  refine rl_nil ?_
  refine hgo.out _ _ ?_
  clear hgo hgK
  refine hKK4 _ _ ?_
  refine wp_seq_k fun KK6 hKK6 => ?_
  refine rl_begin fun hgK hgo => ?_
  refine rl_take (some 16) (.int .i64 0) rfl (by kernel_rfl) (by kernel_rfl) ?_
  try simp only [pa, pn, pb, pc, pd]
  refine rl_take (some 17) (.bool false) rfl (by kernel_rfl) (by exact ex_bne (x := 0) (y := 0) (by kernel_rfl) ⟨fun q => (by cases q), fun q => absurd q (by omega)⟩) ?_
  try simp only [pa, pn, pb, pc, pd]
  refine rl_nil ?_
  refine hgo.out _ _ ?_
  clear hgo hgK
  refine hKK6 _ _ ?_
  refine wp_cond_false (by kernel_rfl) ?_
  refine wp_skip ?_
  refine hKK3 _ _ ?_
  refine wp_seq_k fun KK7 hKK7 => ?_
  refine rl_begin fun hgK hgo => ?_
  refine rl_call (some 20) 60 #[.slice none 0 0] rfl (by kernel_rfl) (by kernel_rfl) (Of_wv none 0 [] _ hT (BytesAt.nil _ _) (Nat.zero_le _) (by simp)) ?_
  rintro e w8 ⟨rfl, hL8⟩
  refine ⟨_, rfl, ?_⟩
  replace hT := hT.later hL8
  replace hB := hB.later hL8
  replace hb := hb.later hL8
  replace hr := hr.later hL8
  have hz8 := hL8.size
  try simp only [pa, pn, pb, pc, pd]
  refine rl_alloc (some 7) 36 #[.int .i64 0, .int .i64 0, .int .i64 0, .int .i64 0, .string ⟨#[]⟩, .string ⟨#[]⟩] rfl (by kernel_rfl) (fun W => by kernel_rfl) fun q w9 hL9 hp9 hq => ?_
  replace hT := hT.later hL9
  replace hB := hB.later hL9
  replace hb := hb.later hL9
  replace hr := hr.later hL9
  have hz9 := hL9.size
  have hlt9 := hq.lt
  try simp only [pa, pn, pb, pc, pd]
  refine rl_store q #[.int .i64 (@List.nil UInt8).length, .int .i64 (runesN (@List.nil UInt8)), .int .i64 (unitsN (@List.nil UInt8)), .int .i64 (endsN (@List.nil UInt8)), .string (bs (headOf (@List.nil UInt8))), .string (bs (tailOf (@List.nil UInt8)))] rfl rfl (by kernel_rfl) rfl rfl (by kernel_rfl) hq rfl (by kernel_rfl) fun w10 hU10 hn10 => ?_
  have hz10 := hU10.size
  replace hT := hT.upd hU10 (by omega)
  replace hB := hB.upd hU10 (by omega)
  replace hb := hb.upd hU10 (by omega)
  replace hr := hr.upd hU10 (by omega)
  clear hq
  have hq := hn10
  clear hn10
  try simp only [pa, pn, pb, pc, pd]
  refine rl_nil ?_
  refine hgo.out _ _ ?_
  clear hgo hgK
  refine hKK7 _ _ ?_
  refine wp_seq_k fun KK11 hKK11 => ?_
  refine wp_seq_k fun KK12 hKK12 => ?_
  refine rl_begin fun hgK hgo => ?_
  refine rl_take (some 21) (.pointer (some ⟨b, 0, none⟩)) rfl (by kernel_rfl) (by kernel_rfl) ?_
  try simp only [pa, pn, pb, pc, pd]
  refine rl_take (some 22) (.pointer (some ⟨b, 0, none⟩)) rfl (by kernel_rfl) (by kernel_rfl) ?_
  try simp only [pa, pn, pb, pc, pd]
  refine rl_take (some 23) (.pointer (some ⟨b, 0, none⟩)) rfl (by kernel_rfl) (by kernel_rfl) ?_
  try simp only [pa, pn, pb, pc, pd]
  refine rl_take (some 24) (v) rfl (by kernel_rfl) (by exact ld1 108 _ rfl b 0 rfl (fun _ => by kernel_rfl) _ (hb.cell 0)) ?_
  try simp only [pa, pn, pb, pc, pd]
  refine rl_take (some 8) (v) rfl (by kernel_rfl) (by kernel_rfl) ?_
  try simp only [pa, pn, pb, pc, pd]
  refine rl_nil ?_
  refine hgo.out _ _ ?_
  clear hgo hgK
  refine hKK12 _ _ ?_
  refine wp_block ?_
  refine wp_loop_ghost (fun gn ga wl => ∃ (u : Nat → Value) , gn = 0 ∧ ga = ⟨#[.pointer (some ⟨b, 0, none⟩), .int .i64 0, undef, undef, .pointer (some ⟨r, 0, none⟩), u 5, .int .i64 0, .pointer (some ⟨q, 0, none⟩), u 8, u 9, u 10, u 11, u 12, .pointer (some ⟨b, 0, none⟩), .int .i64 0, .int .i64 0, .int .i64 0, .bool false, undef, undef, .agg #[.int .i64 (@List.nil UInt8).length, .int .i64 (runesN (@List.nil UInt8)), .int .i64 (unitsN (@List.nil UInt8)), .int .i64 (endsN (@List.nil UInt8)), .string (bs (headOf (@List.nil UInt8))), .string (bs (tailOf (@List.nil UInt8)))], .pointer (some ⟨b, 0, none⟩), .pointer (some ⟨b, 0, none⟩), .pointer (some ⟨b, 0, none⟩), v, u 25, u 26, u 27, u 28, u 29, u 30, u 31, u 32, u 33, u 34, u 35, u 36, u 37, u 38, u 39, u 40, u 41, u 42, u 43, u 44, u 45, u 46, u 47, u 48, u 49, u 50, u 51, u 52, u 53, u 54, u 55, u 56, u 57, u 58, u 59, u 60, u 61, u 62, u 63, u 64, u 65, u 66, u 67, u 68, u 69, u 70, u 71, u 72, undef], []⟩ ∧ (Ltr w wl) ∧ (Blk wl r 36 #[.int .i64 0, .int .i64 0, .int .i64 0, .int .i64 0, .string ⟨#[]⟩, .string ⟨#[]⟩]) ∧ (Blk wl q 36 #[.int .i64 (@List.nil UInt8).length, .int .i64 (runesN (@List.nil UInt8)), .int .i64 (unitsN (@List.nil UInt8)), .int .i64 (endsN (@List.nil UInt8)), .string (bs (headOf (@List.nil UInt8))), .string (bs (tailOf (@List.nil UInt8)))])) (0) ?_ ?_
  · exact ⟨fun i => (#[.pointer (some ⟨b, 0, none⟩), .int .i64 0, undef, undef, .pointer (some ⟨r, 0, none⟩), .int .i64 0, .int .i64 0, .pointer (some ⟨q, 0, none⟩), v, undef, undef, undef, undef, .pointer (some ⟨b, 0, none⟩), .int .i64 0, .int .i64 0, .int .i64 0, .bool false, undef, undef, .agg #[.int .i64 (@List.nil UInt8).length, .int .i64 (runesN (@List.nil UInt8)), .int .i64 (unitsN (@List.nil UInt8)), .int .i64 (endsN (@List.nil UInt8)), .string (bs (headOf (@List.nil UInt8))), .string (bs (tailOf (@List.nil UInt8)))], .pointer (some ⟨b, 0, none⟩), .pointer (some ⟨b, 0, none⟩), .pointer (some ⟨b, 0, none⟩), v, undef, undef, undef, undef, undef, undef, undef, undef, undef, undef, undef, undef, undef, undef, undef, undef, undef, undef, undef, undef, undef, undef, undef, undef, undef, undef, undef, undef, undef, undef, undef, undef, undef, undef, undef, undef, undef, undef, undef, undef, undef, undef, undef, undef, undef, undef, undef, undef, undef]).getD i undef, rfl, rfl, by assumption, by assumption, by assumption⟩
  rintro n13 a13 w13 ⟨u, rfl, rfl, hB', hr', hq'⟩
  clear hq hr hb hB hT
  have hB := hB'
  clear hB'
  have hr := hr'
  clear hr'
  have hq := hq'
  clear hq'
  have hlt_hr_13 := hr.lt
  have hlt_hq_13 := hq.lt
  refine wp_seq_k fun KK14 hKK14 => ?_
  refine wp_seq_k fun KK15 hKK15 => ?_
  refine rl_begin fun hgK hgo => ?_
  refine rl_take (some 25) (.int .i64 0) rfl (by kernel_rfl) (by kernel_rfl) ?_
  try simp only [pa, pn, pb, pc, pd]
  refine rl_take (some 26) (.bool false) rfl (by kernel_rfl) (by exact ex_bool (c := (0 : Int) > 0) (by kernel_rfl) ⟨fun q => (by cases q), fun q => absurd q (by omega)⟩) ?_
  try simp only [pa, pn, pb, pc, pd]
  refine rl_nil ?_
  refine hgo.out _ _ ?_
  clear hgo hgK
  refine hKK15 _ _ ?_
  refine wp_cond_false (by kernel_rfl) ?_
  refine wp_exit ?_
  refine hKK11 _ _ ?_
  refine wp_seq_k fun KK16 hKK16 => ?_
  refine rl_begin fun hgK hgo => ?_
  refine rl_take (some 73) (.agg #[.int .i64 (@List.nil UInt8).length, .int .i64 (runesN (@List.nil UInt8)), .int .i64 (unitsN (@List.nil UInt8)), .int .i64 (endsN (@List.nil UInt8)), .string (bs (headOf (@List.nil UInt8))), .string (bs (tailOf (@List.nil UInt8)))]) rfl (by kernel_rfl) (by exact ldN 36 _ rfl q 0 rfl (fun _ => by kernel_rfl) [] [.int .i64 (@List.nil UInt8).length, .int .i64 (runesN (@List.nil UInt8)), .int .i64 (unitsN (@List.nil UInt8)), .int .i64 (endsN (@List.nil UInt8)), .string (bs (headOf (@List.nil UInt8))), .string (bs (tailOf (@List.nil UInt8)))] [] (by kernel_rfl) hq rfl rfl) ?_
  try simp only [pa, pn, pb, pc, pd]
  refine rl_store r #[.int .i64 (@List.nil UInt8).length, .int .i64 (runesN (@List.nil UInt8)), .int .i64 (unitsN (@List.nil UInt8)), .int .i64 (endsN (@List.nil UInt8)), .string (bs (headOf (@List.nil UInt8))), .string (bs (tailOf (@List.nil UInt8)))] rfl rfl (by kernel_rfl) rfl rfl (by kernel_rfl) hr rfl (by kernel_rfl) fun w17 hU17 hn17 => ?_
  have hz17 := hU17.size
  replace hB := hB.upd hU17 (by omega)
  replace hq := hq.upd hU17 (by omega)
  clear hr
  have hr := hn17
  clear hn17
  try simp only [pa, pn, pb, pc, pd]
  refine rl_take (some 5) (.int .i64 0) rfl (by kernel_rfl) (by kernel_rfl) ?_
  try simp only [pa, pn, pb, pc, pd]
  refine rl_nil ?_
  refine hgo.out _ _ ?_
  clear hgo hgK
  refine hKK16 _ _ ?_
  refine wp_ret ?_
  try simp only [Exit.then, Exit.inBlock]
  refine bp_ret (v := .tuple #[.agg #[.int .i64 (@List.nil UInt8).length, .int .i64 (runesN (@List.nil UInt8)), .int .i64 (unitsN (@List.nil UInt8)), .int .i64 (endsN (@List.nil UInt8)), .string (bs (headOf (@List.nil UInt8))), .string (bs (tailOf (@List.nil UInt8)))], .int .i64 0]) (res2 rfl (res_cell (b := r) (cs := [.int .i64 (@List.nil UInt8).length, .int .i64 (runesN (@List.nil UInt8)), .int .i64 (unitsN (@List.nil UInt8)), .int .i64 (endsN (@List.nil UInt8)), .string (bs (headOf (@List.nil UInt8))), .string (bs (tailOf (@List.nil UInt8)))]) (by kernel_rfl) (fun _ => by kernel_rfl) (by kernel_rfl) hr) (res_tmp (by kernel_rfl))) ?_
  exact ⟨rfl, hB⟩
set_option maxRecDepth 100000 in
set_option maxHeartbeats 8000000 in
theorem Before_1 (b : Nat) (l : List UInt8) (n : Nat) (w : World) (hT : Tabs w) (hr : RopeAt w b l) (h0 : 0 < n) (hn : n ≤ l.length) (hm : l.length ≤ 200000000) :
    Calls Tryd.prog 43 #[.pointer (some ⟨b, 0, none⟩), .int .i64 n] w (BeforeP l n w) := by
  have hB := Ltr.refl w
  have hr0 := hr
  obtain ⟨v, hb, hv⟩ := hr.open
  rcases hv with ⟨rfl, -⟩ | ⟨t, ot, rfl, ht⟩
  · simp at hn; omega
  go_enter Tryd.func43, Tryd.ntmps43
  have h4 := hT.four
  have hlt_hb := hb.lt
  refine wp_seq_k fun KK1 hKK1 => ?_
  refine rl_begin fun hgK hgo => ?_
  refine rl_alloc (some 4) 36 #[.int .i64 0, .int .i64 0, .int .i64 0, .int .i64 0, .string ⟨#[]⟩, .string ⟨#[]⟩] rfl (by kernel_rfl) (fun W => by kernel_rfl) fun r w2 hL2 hp2 hr => ?_
  replace hT := hT.later hL2
  replace hB := hB.later hL2
  replace hr0 := hr0.later hL2
  replace ht := ht.later hL2
  replace hb := hb.later hL2
  have hz2 := hL2.size
  have hlt2 := hr.lt
  try simp only [pa, pn, pb, pc, pd]
  refine rl_take (some 5) (.int .i64 0) rfl (by kernel_rfl) (by kernel_rfl) ?_
  try simp only [pa, pn, pb, pc, pd]
  refine rl_nil ?_
  refine hgo.out _ _ ?_
  clear hgo hgK
  refine hKK1 _ _ ?_
  refine wp_seq_k fun KK3 hKK3 => ?_
  refine wp_seq_k fun KK4 hKK4 => ?_
  refine rl_begin fun hgK hgo => ?_
  refine rl_take (some 13) (.pointer (some ⟨b, 0, none⟩)) rfl (by kernel_rfl) (by kernel_rfl) ?_
  try simp only [pa, pn, pb, pc, pd]
  refine rl_take (some 14) (.int .i64 n) rfl (by kernel_rfl) (by kernel_rfl) ?_
  try simp only [pa, pn, pb, pc, pd]
  refine rl_call (some 15) 77 #[.pointer (some ⟨b, 0, none⟩), .int .i64 n] rfl (by kernel_rfl) (by kernel_rfl) (place_in b t.bytes n hn _ hr0) ?_
  rintro e w5 ⟨rfl, hL5⟩
  refine ⟨_, rfl, ?_⟩
  replace hT := hT.later hL5
  replace hB := hB.later hL5
  replace hr0 := hr0.later hL5
  replace ht := ht.later hL5
  replace hb := hb.later hL5
  replace hr := hr.later hL5
  have hz5 := hL5.size
  clear hr0
  try simp only [pa, pn, pb, pc, pd]
  refine rl_take (some 6) (.int .i64 0) rfl (by kernel_rfl) (by kernel_rfl) ?_
  try simp only [pa, pn, pb, pc, pd]
  refine rl_nil ?_
  refine hgo.out _ _ ?_
  clear hgo hgK
  refine hKK4 _ _ ?_
  refine wp_seq_k fun KK6 hKK6 => ?_
  refine rl_begin fun hgK hgo => ?_
  refine rl_take (some 16) (.int .i64 0) rfl (by kernel_rfl) (by kernel_rfl) ?_
  try simp only [pa, pn, pb, pc, pd]
  refine rl_take (some 17) (.bool false) rfl (by kernel_rfl) (by exact ex_bne (x := 0) (y := 0) (by kernel_rfl) ⟨fun q => (by cases q), fun q => absurd q (by omega)⟩) ?_
  try simp only [pa, pn, pb, pc, pd]
  refine rl_nil ?_
  refine hgo.out _ _ ?_
  clear hgo hgK
  refine hKK6 _ _ ?_
  refine wp_cond_false (by kernel_rfl) ?_
  refine wp_skip ?_
  refine hKK3 _ _ ?_
  refine wp_seq_k fun KK7 hKK7 => ?_
  refine rl_begin fun hgK hgo => ?_
  refine rl_call (some 20) 60 #[.slice none 0 0] rfl (by kernel_rfl) (by kernel_rfl) (Of_wv none 0 [] _ hT (BytesAt.nil _ _) (Nat.zero_le _) (by simp)) ?_
  rintro e w8 ⟨rfl, hL8⟩
  refine ⟨_, rfl, ?_⟩
  replace hT := hT.later hL8
  replace hB := hB.later hL8
  replace ht := ht.later hL8
  replace hb := hb.later hL8
  replace hr := hr.later hL8
  have hz8 := hL8.size
  try simp only [pa, pn, pb, pc, pd]
  refine rl_alloc (some 7) 36 #[.int .i64 0, .int .i64 0, .int .i64 0, .int .i64 0, .string ⟨#[]⟩, .string ⟨#[]⟩] rfl (by kernel_rfl) (fun W => by kernel_rfl) fun q w9 hL9 hp9 hq => ?_
  replace hT := hT.later hL9
  replace hB := hB.later hL9
  replace ht := ht.later hL9
  replace hb := hb.later hL9
  replace hr := hr.later hL9
  have hz9 := hL9.size
  have hlt9 := hq.lt
  try simp only [pa, pn, pb, pc, pd]
  refine rl_store q #[.int .i64 (@List.nil UInt8).length, .int .i64 (runesN (@List.nil UInt8)), .int .i64 (unitsN (@List.nil UInt8)), .int .i64 (endsN (@List.nil UInt8)), .string (bs (headOf (@List.nil UInt8))), .string (bs (tailOf (@List.nil UInt8)))] rfl rfl (by kernel_rfl) rfl rfl (by kernel_rfl) hq rfl (by kernel_rfl) fun w10 hU10 hn10 => ?_
  have hz10 := hU10.size
  replace hT := hT.upd hU10 (by omega)
  replace hB := hB.upd hU10 (by omega)
  replace ht := ht.upd hU10 (by omega)
  replace hb := hb.upd hU10 (by omega)
  replace hr := hr.upd hU10 (by omega)
  clear hq
  have hq := hn10
  clear hn10
  try simp only [pa, pn, pb, pc, pd]
  refine rl_nil ?_
  refine hgo.out _ _ ?_
  clear hgo hgK
  refine hKK7 _ _ ?_
  refine wp_seq_k fun KK11 hKK11 => ?_
  refine wp_seq_k fun KK12 hKK12 => ?_
  refine rl_begin fun hgK hgo => ?_
  refine rl_take (some 21) (.pointer (some ⟨b, 0, none⟩)) rfl (by kernel_rfl) (by kernel_rfl) ?_
  try simp only [pa, pn, pb, pc, pd]
  refine rl_take (some 22) (.pointer (some ⟨b, 0, none⟩)) rfl (by kernel_rfl) (by kernel_rfl) ?_
  try simp only [pa, pn, pb, pc, pd]
  refine rl_take (some 23) (.pointer (some ⟨b, 0, none⟩)) rfl (by kernel_rfl) (by kernel_rfl) ?_
  try simp only [pa, pn, pb, pc, pd]
  refine rl_take (some 24) (v) rfl (by kernel_rfl) (by exact ld1 108 _ rfl b 0 rfl (fun _ => by kernel_rfl) _ (hb.cell 0)) ?_
  try simp only [pa, pn, pb, pc, pd]
  refine rl_take (some 8) (v) rfl (by kernel_rfl) (by kernel_rfl) ?_
  try simp only [pa, pn, pb, pc, pd]
  refine rl_nil ?_
  refine hgo.out _ _ ?_
  clear hgo hgK
  refine hKK12 _ _ ?_
  refine wp_block ?_
  refine wp_loop_ghost (fun gn ga wl => ∃ (u : Nat → Value) (k : Nat) (s : Tr) (vs : Value) (pre : List UInt8), gn = s.h ∧ ga = ⟨#[.pointer (some ⟨b, 0, none⟩), .int .i64 k, undef, undef, .pointer (some ⟨r, 0, none⟩), u 5, .int .i64 0, .pointer (some ⟨q, 0, none⟩), vs, u 9, u 10, u 11, u 12, .pointer (some ⟨b, 0, none⟩), .int .i64 n, .int .i64 0, .int .i64 0, .bool false, undef, undef, .agg #[.int .i64 (@List.nil UInt8).length, .int .i64 (runesN (@List.nil UInt8)), .int .i64 (unitsN (@List.nil UInt8)), .int .i64 (endsN (@List.nil UInt8)), .string (bs (headOf (@List.nil UInt8))), .string (bs (tailOf (@List.nil UInt8)))], .pointer (some ⟨b, 0, none⟩), .pointer (some ⟨b, 0, none⟩), .pointer (some ⟨b, 0, none⟩), v, u 25, u 26, u 27, u 28, u 29, u 30, u 31, u 32, u 33, u 34, u 35, u 36, u 37, u 38, u 39, u 40, u 41, u 42, u 43, u 44, u 45, u 46, u 47, u 48, u 49, u 50, u 51, u 52, u 53, u 54, u 55, u 56, u 57, u 58, u 59, u 60, u 61, u 62, u 63, u 64, u 65, u 66, u 67, u 68, u 69, u 70, u 71, u 72, undef], []⟩ ∧ (Tabs wl) ∧ (Ltr w wl) ∧ (TreeN w.heap.size wl s vs) ∧ (Blk wl r 36 #[.int .i64 0, .int .i64 0, .int .i64 0, .int .i64 0, .string ⟨#[]⟩, .string ⟨#[]⟩]) ∧ (Blk wl q 36 #[.int .i64 pre.length, .int .i64 (runesN pre), .int .i64 (unitsN pre), .int .i64 (endsN pre), .string (bs (headOf pre)), .string (bs (tailOf pre))]) ∧ (s.ok) ∧ (k ≤ s.bytes.length) ∧ (pre ++ s.bytes.take k = t.bytes.take n) ∧ (pre.length + s.bytes.length ≤ t.bytes.length) ∧ (w.heap.size ≤ r ∧ w.heap.size ≤ q ∧ r ≠ q)) ((fun (k : Nat) (s : Tr) (vs : Value) (pre : List UInt8) => (s.h : Nat)) n t v []) ?_ ?_
  · exact ⟨fun i => (#[.pointer (some ⟨b, 0, none⟩), .int .i64 n, undef, undef, .pointer (some ⟨r, 0, none⟩), .int .i64 0, .int .i64 0, .pointer (some ⟨q, 0, none⟩), v, undef, undef, undef, undef, .pointer (some ⟨b, 0, none⟩), .int .i64 n, .int .i64 0, .int .i64 0, .bool false, undef, undef, .agg #[.int .i64 (@List.nil UInt8).length, .int .i64 (runesN (@List.nil UInt8)), .int .i64 (unitsN (@List.nil UInt8)), .int .i64 (endsN (@List.nil UInt8)), .string (bs (headOf (@List.nil UInt8))), .string (bs (tailOf (@List.nil UInt8)))], .pointer (some ⟨b, 0, none⟩), .pointer (some ⟨b, 0, none⟩), .pointer (some ⟨b, 0, none⟩), v, undef, undef, undef, undef, undef, undef, undef, undef, undef, undef, undef, undef, undef, undef, undef, undef, undef, undef, undef, undef, undef, undef, undef, undef, undef, undef, undef, undef, undef, undef, undef, undef, undef, undef, undef, undef, undef, undef, undef, undef, undef, undef, undef, undef, undef, undef, undef, undef, undef]).getD i undef, n, t, v, [], rfl, rfl, by assumption, by assumption, by assumption, by assumption, by assumption, by assumption, hn, rfl, (by simp), (by omega)⟩
  rintro n13 a13 w13 ⟨u, k, s, vs, pre, rfl, rfl, hT', hB', hs', hr', hq', os', hk', hpre', hpl', hrN'⟩
  clear hq hr hb ht hB hT
  have hT := hT'
  clear hT'
  have hB := hB'
  clear hB'
  have hs := hs'
  clear hs'
  have hr := hr'
  clear hr'
  have hq := hq'
  clear hq'
  have os := os'
  clear os'
  have hk := hk'
  clear hk'
  have hpre := hpre'
  clear hpre'
  have hpl := hpl'
  clear hpl'
  have hrN := hrN'
  clear hrN'
  have hlt_hr_13 := hr.lt
  have hlt_hq_13 := hq.lt
  refine wp_seq_k fun KK14 hKK14 => ?_
  refine wp_seq_k fun KK15 hKK15 => ?_
  refine rl_begin fun hgK hgo => ?_
  refine rl_take (some 25) (.int .i64 k) rfl (by kernel_rfl) (by kernel_rfl) ?_
  try simp only [pa, pn, pb, pc, pd]
  by_cases hk0 : (k : Int) > 0
  · refine rl_take (some 26) (.bool true) rfl (by kernel_rfl) (by exact ex_bool (c := (k : Int) > 0) (by kernel_rfl) ⟨fun _ => by omega, fun _ => rfl⟩) ?_
    try simp only [pa, pn, pb, pc, pd]
    refine rl_nil ?_
    refine hgo.out _ _ ?_
    clear hgo hgK
    refine hKK15 _ _ ?_
    refine wp_cond_true (by kernel_rfl) ?_
    refine wp_skip ?_
    refine hKK14 _ _ ?_
    refine wp_block ?_
    refine wp_seq_k fun KK16 hKK16 => ?_
    rcases hs.open with ⟨m, a, rfl, rfl, ha, hlf⟩|⟨x, y, a, vx, vy, rfl, rfl, ha, hfk, hx, hy⟩
    · skip
      clear hs
      refine rl_begin fun hgK hgo => ?_
      refine rl_take (some 27) (.iface 118 (.agg #[.pointer (some ⟨a, 0, none⟩)])) rfl (by kernel_rfl) (by kernel_rfl) ?_
      try simp only [pa, pn, pb, pc, pd]
      refine rl_nil ?_
      refine hgo.out _ _ ?_
      clear hgo hgK
      refine hKK16 _ _ ?_
      refine wp_block ?_
      refine wp_seq_k fun KK17 hKK17 => ?_
      refine rl_begin fun hgK hgo => ?_
      refine rl_take (some 28) (.tuple #[.agg #[.pointer (some ⟨a, 0, none⟩)], .bool true]) rfl (by kernel_rfl) (by kernel_rfl) ?_
      try simp only [pa, pn, pb, pc, pd]
      refine rl_take (some 29) (.bool true) rfl (by kernel_rfl) (by kernel_rfl) ?_
      try simp only [pa, pn, pb, pc, pd]
      refine rl_take (some 30) (.agg #[.pointer (some ⟨a, 0, none⟩)]) rfl (by kernel_rfl) (by kernel_rfl) ?_
      try simp only [pa, pn, pb, pc, pd]
      refine rl_nil ?_
      refine hgo.out _ _ ?_
      clear hgo hgK
      refine hKK17 _ _ ?_
      refine wp_cond_true (by kernel_rfl) ?_
      refine wp_seq_k fun KK18 hKK18 => ?_
      refine rl_begin fun hgK hgo => ?_
      refine rl_alloc (some 9) 118 #[.pointer none] rfl (by kernel_rfl) (fun W => by kernel_rfl) fun p19 w19 hL19 hp19 hb19 => ?_
      replace hT := hT.later hL19
      replace hB := hB.later hL19
      replace hr := hr.later hL19
      replace hq := hq.later hL19
      replace hlf := hlf.later hL19
      have hz19 := hL19.size
      have hlt19 := hb19.lt
      try simp only [pa, pn, pb, pc, pd]
      refine rl_store p19 #[.pointer (some ⟨a, 0, none⟩)] rfl rfl (by kernel_rfl) rfl rfl (by kernel_rfl) hb19 rfl (by kernel_rfl) fun w20 hU20 hn20 => ?_
      have hz20 := hU20.size
      replace hT := hT.upd hU20 (by omega)
      replace hB := hB.upd hU20 (by omega)
      replace hr := hr.upd hU20 (by omega)
      replace hq := hq.upd hU20 (by omega)
      replace hlf := hlf.upd hU20 (by omega)
      clear hb19
      have hb19 := hn20
      clear hn20
      try simp only [pa, pn, pb, pc, pd]
      refine rl_nil ?_
      refine hgo.out _ _ ?_
      clear hgo hgK
      refine hKK18 _ _ ?_
      refine wp_seq_k fun KK21 hKK21 => ?_
      refine rl_begin fun hgK hgo => ?_
      refine rl_take (some 32) (.pointer (some ⟨p19, 0, none⟩)) rfl (by kernel_rfl) (by kernel_rfl) ?_
      try simp only [pa, pn, pb, pc, pd]
      refine rl_take (some 33) (.pointer (some ⟨a, 0, none⟩)) rfl (by kernel_rfl) (by exact ld1 116 _ rfl p19 0 rfl (fun _ => by kernel_rfl) _ (hb19.cell 0)) ?_
      try simp only [pa, pn, pb, pc, pd]
      refine rl_take (some 34) (.int .i64 k) rfl (by kernel_rfl) (by kernel_rfl) ?_
      try simp only [pa, pn, pb, pc, pd]
      refine rl_call (some 35) 62 #[.pointer (some ⟨a, 0, none⟩), .int .i64 k] rfl (by kernel_rfl) (by kernel_rfl) (LBefore_any a m k hk (by simp only [Tr.bytes] at hpl; omega) _ hT hlf) ?_
      rintro e w22 ⟨rfl, hL22⟩
      refine ⟨_, rfl, ?_⟩
      replace hT := hT.later hL22
      replace hB := hB.later hL22
      replace hr := hr.later hL22
      replace hq := hq.later hL22
      replace hlf := hlf.later hL22
      replace hb19 := hb19.later hL22
      have hz22 := hL22.size
      try simp only [pa, pn, pb, pc, pd]
      refine rl_take (some 31) (.tuple #[.agg #[.int .i64 (m.take k).length, .int .i64 (runesN (m.take k)), .int .i64 (unitsN (m.take k)), .int .i64 (endsN (m.take k)), .string (bs (headOf (m.take k))), .string (bs (tailOf (m.take k)))], .int .i64 0]) rfl (by kernel_rfl) (by kernel_rfl) ?_
      try simp only [pa, pn, pb, pc, pd]
      refine rl_take (some 36) (.agg #[.int .i64 (m.take k).length, .int .i64 (runesN (m.take k)), .int .i64 (unitsN (m.take k)), .int .i64 (endsN (m.take k)), .string (bs (headOf (m.take k))), .string (bs (tailOf (m.take k)))]) rfl (by kernel_rfl) (by kernel_rfl) ?_
      try simp only [pa, pn, pb, pc, pd]
      refine rl_take (some 37) (.int .i64 0) rfl (by kernel_rfl) (by kernel_rfl) ?_
      try simp only [pa, pn, pb, pc, pd]
      refine rl_alloc (some 10) 36 #[.int .i64 0, .int .i64 0, .int .i64 0, .int .i64 0, .string ⟨#[]⟩, .string ⟨#[]⟩] rfl (by kernel_rfl) (fun W => by kernel_rfl) fun p23 w23 hL23 hp23 hb23 => ?_
      replace hT := hT.later hL23
      replace hB := hB.later hL23
      replace hr := hr.later hL23
      replace hq := hq.later hL23
      replace hlf := hlf.later hL23
      replace hb19 := hb19.later hL23
      have hz23 := hL23.size
      have hlt23 := hb23.lt
      try simp only [pa, pn, pb, pc, pd]
      refine rl_store p23 #[.int .i64 (m.take k).length, .int .i64 (runesN (m.take k)), .int .i64 (unitsN (m.take k)), .int .i64 (endsN (m.take k)), .string (bs (headOf (m.take k))), .string (bs (tailOf (m.take k)))] rfl rfl (by kernel_rfl) rfl rfl (by kernel_rfl) hb23 rfl (by kernel_rfl) fun w24 hU24 hn24 => ?_
      have hz24 := hU24.size
      replace hT := hT.upd hU24 (by omega)
      replace hB := hB.upd hU24 (by omega)
      replace hr := hr.upd hU24 (by omega)
      replace hq := hq.upd hU24 (by omega)
      replace hlf := hlf.upd hU24 (by omega)
      replace hb19 := hb19.upd hU24 (by omega)
      clear hb23
      have hb23 := hn24
      clear hn24
      try simp only [pa, pn, pb, pc, pd]
      refine rl_take (some 11) (.int .i64 0) rfl (by kernel_rfl) (by kernel_rfl) ?_
      try simp only [pa, pn, pb, pc, pd]
      refine rl_nil ?_
      refine hgo.out _ _ ?_
      clear hgo hgK
      refine hKK21 _ _ ?_
      refine wp_seq_k fun KK25 hKK25 => ?_
      refine rl_begin fun hgK hgo => ?_
      refine rl_take (some 38) (.agg #[.int .i64 pre.length, .int .i64 (runesN pre), .int .i64 (unitsN pre), .int .i64 (endsN pre), .string (bs (headOf pre)), .string (bs (tailOf pre))]) rfl (by kernel_rfl) (by exact ldN 36 _ rfl q 0 rfl (fun _ => by kernel_rfl) [] [.int .i64 pre.length, .int .i64 (runesN pre), .int .i64 (unitsN pre), .int .i64 (endsN pre), .string (bs (headOf pre)), .string (bs (tailOf pre))] [] (by kernel_rfl) hq rfl rfl) ?_
      try simp only [pa, pn, pb, pc, pd]
      refine rl_take (some 39) (.agg #[.int .i64 (m.take k).length, .int .i64 (runesN (m.take k)), .int .i64 (unitsN (m.take k)), .int .i64 (endsN (m.take k)), .string (bs (headOf (m.take k))), .string (bs (tailOf (m.take k)))]) rfl (by kernel_rfl) (by exact ldN 36 _ rfl p23 0 rfl (fun _ => by kernel_rfl) [] [.int .i64 (m.take k).length, .int .i64 (runesN (m.take k)), .int .i64 (unitsN (m.take k)), .int .i64 (endsN (m.take k)), .string (bs (headOf (m.take k))), .string (bs (tailOf (m.take k)))] [] (by kernel_rfl) hb23 rfl rfl) ?_
      try simp only [pa, pn, pb, pc, pd]
      refine rl_call (some 40) 61 #[.agg #[.int .i64 pre.length, .int .i64 (runesN pre), .int .i64 (unitsN pre), .int .i64 (endsN pre), .string (bs (headOf pre)), .string (bs (tailOf pre))], .agg #[.int .i64 (m.take k).length, .int .i64 (runesN (m.take k)), .int .i64 (unitsN (m.take k)), .int .i64 (endsN (m.take k)), .string (bs (headOf (m.take k))), .string (bs (tailOf (m.take k)))]] rfl (by kernel_rfl) (by kernel_rfl) (rboth_any pre (m.take k) (by simp only [Tr.bytes] at hpl; rw [List.length_take]; omega) _ hT) ?_
      rintro e w26 ⟨rfl, hL26⟩
      refine ⟨_, rfl, ?_⟩
      replace hT := hT.later hL26
      replace hB := hB.later hL26
      replace hr := hr.later hL26
      replace hq := hq.later hL26
      replace hlf := hlf.later hL26
      replace hb19 := hb19.later hL26
      replace hb23 := hb23.later hL26
      have hz26 := hL26.size
      try simp only [pa, pn, pb, pc, pd]
      refine rl_store r #[.int .i64 (pre ++ m.take k).length, .int .i64 (runesN (pre ++ m.take k)), .int .i64 (unitsN (pre ++ m.take k)), .int .i64 (endsN (pre ++ m.take k)), .string (bs (headOf (pre ++ m.take k))), .string (bs (tailOf (pre ++ m.take k)))] rfl rfl (by kernel_rfl) rfl rfl (by kernel_rfl) hr rfl (by kernel_rfl) fun w27 hU27 hn27 => ?_
      have hz27 := hU27.size
      replace hT := hT.upd hU27 (by omega)
      replace hB := hB.upd hU27 (by omega)
      replace hq := hq.upd hU27 (by omega)
      replace hlf := hlf.upd hU27 (by omega)
      replace hb19 := hb19.upd hU27 (by omega)
      replace hb23 := hb23.upd hU27 (by omega)
      clear hr
      have hr := hn27
      clear hn27
      try simp only [pa, pn, pb, pc, pd]
      refine rl_take (some 5) (.int .i64 0) rfl (by kernel_rfl) (by kernel_rfl) ?_
      try simp only [pa, pn, pb, pc, pd]
      refine rl_nil ?_
      refine hgo.out _ _ ?_
      clear hgo hgK
      refine hKK25 _ _ ?_
      refine wp_ret ?_
      try simp only [Exit.then, Exit.inBlock]
      refine bp_ret (v := .tuple #[.agg #[.int .i64 (pre ++ m.take k).length, .int .i64 (runesN (pre ++ m.take k)), .int .i64 (unitsN (pre ++ m.take k)), .int .i64 (endsN (pre ++ m.take k)), .string (bs (headOf (pre ++ m.take k))), .string (bs (tailOf (pre ++ m.take k)))], .int .i64 0]) (res2 rfl (res_cell (b := r) (cs := [.int .i64 (pre ++ m.take k).length, .int .i64 (runesN (pre ++ m.take k)), .int .i64 (unitsN (pre ++ m.take k)), .int .i64 (endsN (pre ++ m.take k)), .string (bs (headOf (pre ++ m.take k))), .string (bs (tailOf (pre ++ m.take k)))]) (by kernel_rfl) (fun _ => by kernel_rfl) (by kernel_rfl) hr) (res_tmp (by kernel_rfl))) ?_
      exact ⟨by rw [← hpre]; rfl, hB⟩
    · skip
      clear hs
      (have hl := Tr.len_fork x y); (obtain ⟨fs, xs, es, cs⟩ := inv_sizeN hx); (obtain ⟨fw, xw, ew, cw⟩ := inv_weldN hx); (have hL0 := Bel.refl w.heap.size w13 hx.1)
      have hlt_hfk := hfk.lt
      refine rl_begin fun hgK hgo => ?_
      refine rl_take (some 27) (.iface 111 (.pointer (some ⟨a, 0, none⟩))) rfl (by kernel_rfl) (by kernel_rfl) ?_
      try simp only [pa, pn, pb, pc, pd]
      refine rl_nil ?_
      refine hgo.out _ _ ?_
      clear hgo hgK
      refine hKK16 _ _ ?_
      refine wp_block ?_
      refine wp_seq_k fun KK28 hKK28 => ?_
      refine rl_begin fun hgK hgo => ?_
      refine rl_take (some 28) (.tuple #[.agg #[.pointer none], .bool false]) rfl (by kernel_rfl) (by kernel_rfl) ?_
      try simp only [pa, pn, pb, pc, pd]
      refine rl_take (some 29) (.bool false) rfl (by kernel_rfl) (by kernel_rfl) ?_
      try simp only [pa, pn, pb, pc, pd]
      refine rl_take (some 30) (.agg #[.pointer none]) rfl (by kernel_rfl) (by kernel_rfl) ?_
      try simp only [pa, pn, pb, pc, pd]
      refine rl_nil ?_
      refine hgo.out _ _ ?_
      clear hgo hgK
      refine hKK28 _ _ ?_
      refine wp_cond_false (by kernel_rfl) ?_
      refine wp_seq_k fun KK29 hKK29 => ?_
      refine rl_begin fun hgK hgo => ?_
      refine rl_take (some 41) (.tuple #[.pointer (some ⟨a, 0, none⟩), .bool true]) rfl (by kernel_rfl) (by kernel_rfl) ?_
      try simp only [pa, pn, pb, pc, pd]
      refine rl_take (some 42) (.bool true) rfl (by kernel_rfl) (by kernel_rfl) ?_
      try simp only [pa, pn, pb, pc, pd]
      refine rl_take (some 43) (.pointer (some ⟨a, 0, none⟩)) rfl (by kernel_rfl) (by kernel_rfl) ?_
      try simp only [pa, pn, pb, pc, pd]
      refine rl_nil ?_
      refine hgo.out _ _ ?_
      clear hgo hgK
      refine hKK29 _ _ ?_
      refine wp_cond_true (by kernel_rfl) ?_
      refine wp_seq_k fun KK30 hKK30 => ?_
      refine rl_begin fun hgK hgo => ?_
      refine rl_take (some 12) (.pointer (some ⟨a, 0, none⟩)) rfl (by kernel_rfl) (by kernel_rfl) ?_
      try simp only [pa, pn, pb, pc, pd]
      refine rl_nil ?_
      refine hgo.out _ _ ?_
      clear hgo hgK
      refine hKK30 _ _ ?_
      refine wp_seq_k fun KK31 hKK31 => ?_
      refine wp_seq_k fun KK32 hKK32 => ?_
      refine rl_begin fun hgK hgo => ?_
      refine rl_take (some 44) (.int .i64 k) rfl (by kernel_rfl) (by kernel_rfl) ?_
      try simp only [pa, pn, pb, pc, pd]
      refine rl_take (some 45) (.pointer (some ⟨a, 0, none⟩)) rfl (by kernel_rfl) (by kernel_rfl) ?_
      try simp only [pa, pn, pb, pc, pd]
      refine rl_take (some 46) (.pointer (some ⟨a, 0, none⟩)) rfl (by kernel_rfl) (by kernel_rfl) ?_
      try simp only [pa, pn, pb, pc, pd]
      refine rl_take (some 47) (.pointer (some ⟨a, 0, none⟩)) rfl (by kernel_rfl) (by kernel_rfl) ?_
      try simp only [pa, pn, pb, pc, pd]
      refine rl_take (some 48) (vx) rfl (by kernel_rfl) (by exact ld1 108 _ rfl a 0 rfl (fun _ => by kernel_rfl) _ (hfk.cell 0)) ?_
      try simp only [pa, pn, pb, pc, pd]
      refine rl_call (some 49) fs #[xs] rfl (by kernel_rfl) (by exact es _ _ _ _ rfl rfl) (cs _ hL0) ?_
      rintro e w33 ⟨rfl, hL33⟩
      refine ⟨_, rfl, ?_⟩
      replace hT := hT.later hL33
      replace hB := hB.later hL33
      replace hr := hr.later hL33
      replace hq := hq.later hL33
      replace hx := hx.later hL33
      replace hy := hy.later hL33
      replace hL0 := hL0.later hL33
      replace hfk := hfk.later hL33
      have hz33 := hL33.size
      try simp only [pa, pn, pb, pc, pd]
      by_cases hlt : (k : Int) < x.bytes.length
      · refine rl_take (some 50) (.bool true) rfl (by kernel_rfl) (by exact ex_bool (c := (k : Int) < x.bytes.length) (by kernel_rfl) ⟨fun _ => by omega, fun _ => rfl⟩) ?_
        try simp only [pa, pn, pb, pc, pd]
        refine rl_nil ?_
        refine hgo.out _ _ ?_
        clear hgo hgK
        refine hKK32 _ _ ?_
        refine wp_cond_true (by kernel_rfl) ?_
        refine wp_seq_k fun KK34 hKK34 => ?_
        refine rl_begin fun hgK hgo => ?_
        refine rl_take (some 51) (.pointer (some ⟨a, 0, none⟩)) rfl (by kernel_rfl) (by kernel_rfl) ?_
        try simp only [pa, pn, pb, pc, pd]
        refine rl_take (some 52) (.pointer (some ⟨a, 0, none⟩)) rfl (by kernel_rfl) (by kernel_rfl) ?_
        try simp only [pa, pn, pb, pc, pd]
        refine rl_take (some 53) (.pointer (some ⟨a, 0, none⟩)) rfl (by kernel_rfl) (by kernel_rfl) ?_
        try simp only [pa, pn, pb, pc, pd]
        refine rl_take (some 54) (vx) rfl (by kernel_rfl) (by exact ld1 108 _ rfl a 0 rfl (fun _ => by kernel_rfl) _ (hfk.cell 0)) ?_
        try simp only [pa, pn, pb, pc, pd]
        refine rl_take (some 8) (vx) rfl (by kernel_rfl) (by kernel_rfl) ?_
        try simp only [pa, pn, pb, pc, pd]
        refine rl_nil ?_
        refine hgo.out _ _ ?_
        clear hgo hgK
        refine hKK34 _ _ ?_
        refine wp_exit ?_
        exact ⟨_, (by simp only [Tr.h]; omega), fun i => (#[.pointer (some ⟨b, 0, none⟩), .int .i64 k, undef, undef, .pointer (some ⟨r, 0, none⟩), u 5, .int .i64 0, .pointer (some ⟨q, 0, none⟩), vx, u 9, u 10, u 11, .pointer (some ⟨a, 0, none⟩), .pointer (some ⟨b, 0, none⟩), .int .i64 n, .int .i64 0, .int .i64 0, .bool false, undef, undef, .agg #[.int .i64 (@List.nil UInt8).length, .int .i64 (runesN (@List.nil UInt8)), .int .i64 (unitsN (@List.nil UInt8)), .int .i64 (endsN (@List.nil UInt8)), .string (bs (headOf (@List.nil UInt8))), .string (bs (tailOf (@List.nil UInt8)))], .pointer (some ⟨b, 0, none⟩), .pointer (some ⟨b, 0, none⟩), .pointer (some ⟨b, 0, none⟩), v, .int .i64 k, .bool true, .iface 111 (.pointer (some ⟨a, 0, none⟩)), .tuple #[.agg #[.pointer none], .bool false], .bool false, .agg #[.pointer none], u 31, u 32, u 33, u 34, u 35, u 36, u 37, u 38, u 39, u 40, .tuple #[.pointer (some ⟨a, 0, none⟩), .bool true], .bool true, .pointer (some ⟨a, 0, none⟩), .int .i64 k, .pointer (some ⟨a, 0, none⟩), .pointer (some ⟨a, 0, none⟩), .pointer (some ⟨a, 0, none⟩), vx, .int .i64 x.bytes.length, .bool true, .pointer (some ⟨a, 0, none⟩), .pointer (some ⟨a, 0, none⟩), .pointer (some ⟨a, 0, none⟩), vx, u 55, u 56, u 57, u 58, u 59, u 60, u 61, u 62, u 63, u 64, u 65, u 66, u 67, u 68, u 69, u 70, u 71, u 72, undef]).getD i undef, k, x, vx, pre, rfl, rfl, by assumption, by assumption, by assumption, by assumption, by assumption, os.1, (by omega), (by rw [← hpre, Tr.b_fork, List.take_append_of_le_length (by omega)]), (by omega), by assumption⟩
      · refine rl_take (some 50) (.bool false) rfl (by kernel_rfl) (by exact ex_bool (c := (k : Int) < x.bytes.length) (by kernel_rfl) ⟨fun q => (by cases q), fun q => absurd q (by omega)⟩) ?_
        try simp only [pa, pn, pb, pc, pd]
        refine rl_nil ?_
        refine hgo.out _ _ ?_
        clear hgo hgK
        refine hKK32 _ _ ?_
        refine wp_cond_false (by kernel_rfl) ?_
        refine wp_skip ?_
        refine hKK31 _ _ ?_
        refine wp_seq_k fun KK35 hKK35 => ?_
        refine rl_begin fun hgK hgo => ?_
        refine rl_take (some 55) (.int .i64 k) rfl (by kernel_rfl) (by kernel_rfl) ?_
        try simp only [pa, pn, pb, pc, pd]
        refine rl_take (some 56) (.pointer (some ⟨a, 0, none⟩)) rfl (by kernel_rfl) (by kernel_rfl) ?_
        try simp only [pa, pn, pb, pc, pd]
        refine rl_take (some 57) (.pointer (some ⟨a, 0, none⟩)) rfl (by kernel_rfl) (by kernel_rfl) ?_
        try simp only [pa, pn, pb, pc, pd]
        refine rl_take (some 58) (.pointer (some ⟨a, 0, none⟩)) rfl (by kernel_rfl) (by kernel_rfl) ?_
        try simp only [pa, pn, pb, pc, pd]
        refine rl_take (some 59) (vx) rfl (by kernel_rfl) (by exact ld1 108 _ rfl a 0 rfl (fun _ => by kernel_rfl) _ (hfk.cell 0)) ?_
        try simp only [pa, pn, pb, pc, pd]
        refine rl_call (some 60) fs #[xs] rfl (by kernel_rfl) (by exact es _ _ _ _ rfl rfl) (cs _ hL0) ?_
        rintro e w36 ⟨rfl, hL36⟩
        refine ⟨_, rfl, ?_⟩
        replace hT := hT.later hL36
        replace hB := hB.later hL36
        replace hr := hr.later hL36
        replace hq := hq.later hL36
        replace hx := hx.later hL36
        replace hy := hy.later hL36
        replace hL0 := hL0.later hL36
        replace hfk := hfk.later hL36
        have hz36 := hL36.size
        try simp only [pa, pn, pb, pc, pd]
        refine rl_take (some 61) (.int .i64 (((k - x.bytes.length : Nat) : Int))) rfl (by kernel_rfl) (by exact ex_arith (e := (k : Int) - x.bytes.length) (r := ((k - x.bytes.length : Nat) : Int)) (by kernel_rfl) (by omega) (by omega)) ?_
        try simp only [pa, pn, pb, pc, pd]
        refine rl_take (some 1) (.int .i64 (((k - x.bytes.length : Nat) : Int))) rfl (by kernel_rfl) (by kernel_rfl) ?_
        try simp only [pa, pn, pb, pc, pd]
        refine rl_nil ?_
        refine hgo.out _ _ ?_
        clear hgo hgK
        refine hKK35 _ _ ?_
        refine wp_seq_k fun KK37 hKK37 => ?_
        have hNz38 : w.heap.size ≤ (w36).heap.size := by omega
        refine rm_begin (fun W => Below w.heap.size w36 W ∧ Blk W r 36 #[.int .i64 0, .int .i64 0, .int .i64 0, .int .i64 0, .string ⟨#[]⟩, .string ⟨#[]⟩]) (by kernel_rfl) (by exact ⟨Below.drew (Below.refl _ _), Blk.drew hr⟩) fun K38 hgo w38 hE hS38 => ?_
        have hv38 : Ltr w36 w38 := by rw [hE]; exact bl_drew (bl_refl _)
        have hz38 := hv38.size
        clear hE hS38
        refine rm_take 1 (some 63) (.pointer (some ⟨a, 0, none⟩)) (oi := { dst := some 63, op := Go.Op.move (Go.Operand.tmp 12), type := 111, pos := "rope.go:179", after := #[], guard := none }) rfl rfl (by kernel_rfl) (by kernel_rfl) (by kernel_rfl) (by kernel_rfl) (fun W hW => by (kernel_rfl)) ?_
        try simp only [pa, pn, pb, pc, pd]
        refine rm_take 2 (some 64) (.pointer (some ⟨a, 0, none⟩)) (oi := { dst := some 64, op := Go.Op.nilCheck (Go.Operand.tmp 63), type := 0, pos := "rope.go:179", after := #[{ on := 1, ground := Go.Ground.data }], guard := none }) rfl rfl (by kernel_rfl) (by kernel_rfl) (by kernel_rfl) (by kernel_rfl) (fun W hW => by (kernel_rfl)) ?_
        try simp only [pa, pn, pb, pc, pd]
        refine rm_take 3 (some 65) (.pointer (some ⟨a, 0, none⟩)) (oi := { dst := some 65, op := Go.Op.fieldAddr 115 (Go.Operand.tmp 64) 0, type := 0, pos := "rope.go:179", after := #[{ on := 2, ground := Go.Ground.data }], guard := none }) rfl rfl (by kernel_rfl) (by kernel_rfl) (by kernel_rfl) (by kernel_rfl) (fun W hW => by (kernel_rfl)) ?_
        try simp only [pa, pn, pb, pc, pd]
        refine rm_take 4 (some 66) (vx) (oi := { dst := some 66, op := Go.Op.load 108 (Go.Operand.tmp 65), type := 108, pos := "rope.go:179", after := #[{ on := 3, ground := Go.Ground.data }], guard := none }) rfl rfl (by kernel_rfl) (by kernel_rfl) (by kernel_rfl) (by kernel_rfl) (fun W hW => by (exact ld1 108 _ rfl a 0 rfl (fun _ => by kernel_rfl) _ ((hfk.bel hW.1 (by omega)).cell 0))) ?_
        try simp only [pa, pn, pb, pc, pd]
        refine rm_call 5 (some 67) (.agg #[.int .i64 (x.bytes).length, .int .i64 (runesN (x.bytes)), .int .i64 (unitsN (x.bytes)), .int .i64 (endsN (x.bytes)), .string (bs (headOf (x.bytes))), .string (bs (tailOf (x.bytes)))]) fw #[xw] (oi := { dst := some 67, op := Go.Op.call { callee := Go.Callee.invoke (Go.Operand.tmp 66) "galley/rope.weld", args := #[], argTypes := #[] }, type := 36, pos := "rope.go:179", after := #[{ on := 4, ground := Go.Ground.data }], guard := none }) rfl rfl (by kernel_rfl) (by kernel_rfl) (by kernel_rfl) (by kernel_rfl) (fun W hW => by exact ew _ _ _ _ rfl rfl) (fun W hW => cw _ (hL0.bel hW.1 (by omega))) (fun _ _ h k => ⟨bel_ltr h.1 k hNz38, (h.2).later k⟩) ?_
        try simp only [pa, pn, pb, pc, pd]
        refine rm_pick1 (i := 0) (by kernel_rfl) ?_
        refine rm_read (some 62) (.agg #[.int .i64 pre.length, .int .i64 (runesN pre), .int .i64 (unitsN pre), .int .i64 (endsN pre), .string (bs (headOf pre)), .string (bs (tailOf pre))]) (oi := { dst := some 62, op := Go.Op.load 36 (Go.Operand.tmp 7), type := 36, pos := "rope.go:179", after := #[], guard := none }) rfl rfl (by kernel_rfl) (fun W hlz hW => by exact ldN 36 _ rfl q 0 rfl (fun _ => by kernel_rfl) [] [.int .i64 pre.length, .int .i64 (runesN pre), .int .i64 (unitsN pre), .int .i64 (endsN pre), .string (bs (headOf pre)), .string (bs (tailOf pre))] [] (by kernel_rfl) (hq.later (hv38.trans hlz)) rfl rfl) fun w39 hL39 hS39 => ?_
        have hv38_ := hv38.trans hL39
        clear hv38
        have hv38 := hv38_
        clear hv38_
        try simp only [pa, pn, pb, pc, pd]
        refine rm_call 6 (some 68) (.agg #[.int .i64 (pre ++ x.bytes).length, .int .i64 (runesN (pre ++ x.bytes)), .int .i64 (unitsN (pre ++ x.bytes)), .int .i64 (endsN (pre ++ x.bytes)), .string (bs (headOf (pre ++ x.bytes))), .string (bs (tailOf (pre ++ x.bytes)))]) 61 #[.agg #[.int .i64 pre.length, .int .i64 (runesN pre), .int .i64 (unitsN pre), .int .i64 (endsN pre), .string (bs (headOf pre)), .string (bs (tailOf pre))], .agg #[.int .i64 (x.bytes).length, .int .i64 (runesN (x.bytes)), .int .i64 (unitsN (x.bytes)), .int .i64 (endsN (x.bytes)), .string (bs (headOf (x.bytes))), .string (bs (tailOf (x.bytes)))]] (oi := { dst := some 68, op := Go.Op.call { callee := Go.Callee.value (Go.Operand.func 61), args := #[Go.Operand.tmp 62, Go.Operand.tmp 67], argTypes := #[36, 36] }, type := 36, pos := "rope.go:179", after := #[{ on := 0, ground := Go.Ground.data }, { on := 5, ground := Go.Ground.data }, { on := 5, ground := Go.Ground.chain }], guard := none }) rfl rfl (by kernel_rfl) (by kernel_rfl) (by kernel_rfl) (by kernel_rfl) (fun W hW => by kernel_rfl) (fun W hW => rboth_any pre x.bytes (by omega) _ (hT.bel hW.1 (by omega))) (fun _ _ h k => ⟨bel_ltr h.1 k hNz38, (h.2).later k⟩) ?_
        try simp only [pa, pn, pb, pc, pd]
        refine rm_pick1 (i := 7) (by kernel_rfl) ?_
        have hq_ := hq.later hv38
        clear hq
        have hq := hq_
        clear hq_
        refine rm_store q #[.int .i64 (pre ++ x.bytes).length, .int .i64 (runesN (pre ++ x.bytes)), .int .i64 (unitsN (pre ++ x.bytes)), .int .i64 (endsN (pre ++ x.bytes)), .string (bs (headOf (pre ++ x.bytes))), .string (bs (tailOf (pre ++ x.bytes)))] (oi := { dst := none, op := Go.Op.store 36 (Go.Operand.tmp 7) (Go.Operand.tmp 68), type := 0, pos := "rope.go:179", after := #[{ on := 6, ground := Go.Ground.data }, { on := 6, ground := Go.Ground.chain }, { on := 0, ground := Go.Ground.phase }, { on := 1, ground := Go.Ground.phase }, { on := 2, ground := Go.Ground.phase }, { on := 3, ground := Go.Ground.phase }, { on := 4, ground := Go.Ground.phase }, { on := 5, ground := Go.Ground.phase }, { on := 6, ground := Go.Ground.phase }], guard := none }) rfl rfl rfl (by kernel_rfl) rfl rfl (by kernel_rfl) (fun W hlz hW => hq.later hlz) rfl (fun _ _ hX hU => ⟨hU.below hX.1 (by omega), (hX.2).upd hU (by omega)⟩) (by kernel_rfl) fun q40 w40 hq40 hQ40 hU40 hn40 hS40 => ?_
        have hz40 := hU40.size
        have hy40 := hq40.size
        clear hq
        have hq := hn40
        clear hn40
        try simp only [pa, pn, pb, pc, pd]
        refine rm_done (by kernel_rfl) (fun w41 hL41 hS41 => hgo.out _ _ ?_) _
        clear hgo K38
        replace hq := hq.later hL41
        replace hT := hT.bel (hS41.1) (by omega)
        replace hB := hB.bel (hS41.1) (by omega)
        replace hr := hS41.2
        replace hx := hx.bel (hS41.1) (by omega)
        replace hy := hy.bel (hS41.1) (by omega)
        replace hL0 := hL0.bel (hS41.1) (by omega)
        replace hfk := hfk.bel (hS41.1) (by omega)
        have hz41 := (hS41.1).size
        have hy41 := hL41.size
        refine hKK37 _ _ ?_
        refine rl_begin fun hgK hgo => ?_
        refine rl_take (some 69) (.pointer (some ⟨a, 0, none⟩)) rfl (by kernel_rfl) (by kernel_rfl) ?_
        try simp only [pa, pn, pb, pc, pd]
        refine rl_take (some 70) (.pointer (some ⟨a, 0, none⟩)) rfl (by kernel_rfl) (by kernel_rfl) ?_
        try simp only [pa, pn, pb, pc, pd]
        refine rl_take (some 71) (.pointer (some ⟨a, 1, none⟩)) rfl (by kernel_rfl) (by kernel_rfl) ?_
        try simp only [pa, pn, pb, pc, pd]
        refine rl_take (some 72) (vy) rfl (by kernel_rfl) (by exact ld1 108 _ rfl a 1 rfl (fun _ => by kernel_rfl) _ (hfk.cell 1)) ?_
        try simp only [pa, pn, pb, pc, pd]
        refine rl_take (some 8) (vy) rfl (by kernel_rfl) (by kernel_rfl) ?_
        try simp only [pa, pn, pb, pc, pd]
        refine rl_nil ?_
        refine hgo.out _ _ ?_
        clear hgo hgK
        exact ⟨_, (by simp only [Tr.h]; omega), fun i => (#[.pointer (some ⟨b, 0, none⟩), .int .i64 (((k - x.bytes.length : Nat) : Int)), undef, undef, .pointer (some ⟨r, 0, none⟩), u 5, .int .i64 0, .pointer (some ⟨q, 0, none⟩), vy, u 9, u 10, u 11, .pointer (some ⟨a, 0, none⟩), .pointer (some ⟨b, 0, none⟩), .int .i64 n, .int .i64 0, .int .i64 0, .bool false, undef, undef, .agg #[.int .i64 (@List.nil UInt8).length, .int .i64 (runesN (@List.nil UInt8)), .int .i64 (unitsN (@List.nil UInt8)), .int .i64 (endsN (@List.nil UInt8)), .string (bs (headOf (@List.nil UInt8))), .string (bs (tailOf (@List.nil UInt8)))], .pointer (some ⟨b, 0, none⟩), .pointer (some ⟨b, 0, none⟩), .pointer (some ⟨b, 0, none⟩), v, .int .i64 k, .bool true, .iface 111 (.pointer (some ⟨a, 0, none⟩)), .tuple #[.agg #[.pointer none], .bool false], .bool false, .agg #[.pointer none], u 31, u 32, u 33, u 34, u 35, u 36, u 37, u 38, u 39, u 40, .tuple #[.pointer (some ⟨a, 0, none⟩), .bool true], .bool true, .pointer (some ⟨a, 0, none⟩), .int .i64 k, .pointer (some ⟨a, 0, none⟩), .pointer (some ⟨a, 0, none⟩), .pointer (some ⟨a, 0, none⟩), vx, .int .i64 x.bytes.length, .bool false, u 51, u 52, u 53, u 54, .int .i64 k, .pointer (some ⟨a, 0, none⟩), .pointer (some ⟨a, 0, none⟩), .pointer (some ⟨a, 0, none⟩), vx, .int .i64 x.bytes.length, .int .i64 (((k - x.bytes.length : Nat) : Int)), .agg #[.int .i64 pre.length, .int .i64 (runesN pre), .int .i64 (unitsN pre), .int .i64 (endsN pre), .string (bs (headOf pre)), .string (bs (tailOf pre))], .pointer (some ⟨a, 0, none⟩), .pointer (some ⟨a, 0, none⟩), .pointer (some ⟨a, 0, none⟩), vx, .agg #[.int .i64 (x.bytes).length, .int .i64 (runesN (x.bytes)), .int .i64 (unitsN (x.bytes)), .int .i64 (endsN (x.bytes)), .string (bs (headOf (x.bytes))), .string (bs (tailOf (x.bytes)))], .agg #[.int .i64 (pre ++ x.bytes).length, .int .i64 (runesN (pre ++ x.bytes)), .int .i64 (unitsN (pre ++ x.bytes)), .int .i64 (endsN (pre ++ x.bytes)), .string (bs (headOf (pre ++ x.bytes))), .string (bs (tailOf (pre ++ x.bytes)))], .pointer (some ⟨a, 0, none⟩), .pointer (some ⟨a, 0, none⟩), .pointer (some ⟨a, 1, none⟩), vy, undef]).getD i undef, k - x.bytes.length, y, vy, pre ++ x.bytes, rfl, rfl, by assumption, by assumption, by assumption, by assumption, by assumption, os.2.1, (by omega), (by rw [← hpre, Tr.b_fork, List.take_append, List.take_of_length_le (l := x.bytes) (by omega), List.append_assoc]), (by rw [List.length_append]; omega), by assumption⟩
  · refine rl_take (some 26) (.bool false) rfl (by kernel_rfl) (by exact ex_bool (c := (k : Int) > 0) (by kernel_rfl) ⟨fun q => (by cases q), fun q => absurd q (by omega)⟩) ?_
    try simp only [pa, pn, pb, pc, pd]
    refine rl_nil ?_
    refine hgo.out _ _ ?_
    clear hgo hgK
    refine hKK15 _ _ ?_
    refine wp_cond_false (by kernel_rfl) ?_
    refine wp_exit ?_
    refine hKK11 _ _ ?_
    refine wp_seq_k fun KK42 hKK42 => ?_
    refine rl_begin fun hgK hgo => ?_
    refine rl_take (some 73) (.agg #[.int .i64 pre.length, .int .i64 (runesN pre), .int .i64 (unitsN pre), .int .i64 (endsN pre), .string (bs (headOf pre)), .string (bs (tailOf pre))]) rfl (by kernel_rfl) (by exact ldN 36 _ rfl q 0 rfl (fun _ => by kernel_rfl) [] [.int .i64 pre.length, .int .i64 (runesN pre), .int .i64 (unitsN pre), .int .i64 (endsN pre), .string (bs (headOf pre)), .string (bs (tailOf pre))] [] (by kernel_rfl) hq rfl rfl) ?_
    try simp only [pa, pn, pb, pc, pd]
    refine rl_store r #[.int .i64 pre.length, .int .i64 (runesN pre), .int .i64 (unitsN pre), .int .i64 (endsN pre), .string (bs (headOf pre)), .string (bs (tailOf pre))] rfl rfl (by kernel_rfl) rfl rfl (by kernel_rfl) hr rfl (by kernel_rfl) fun w43 hU43 hn43 => ?_
    have hz43 := hU43.size
    replace hT := hT.upd hU43 (by omega)
    replace hB := hB.upd hU43 (by omega)
    replace hs := hs.upd hU43 (by omega)
    replace hq := hq.upd hU43 (by omega)
    clear hr
    have hr := hn43
    clear hn43
    try simp only [pa, pn, pb, pc, pd]
    refine rl_take (some 5) (.int .i64 0) rfl (by kernel_rfl) (by kernel_rfl) ?_
    try simp only [pa, pn, pb, pc, pd]
    refine rl_nil ?_
    refine hgo.out _ _ ?_
    clear hgo hgK
    refine hKK42 _ _ ?_
    refine wp_ret ?_
    try simp only [Exit.then, Exit.inBlock]
    refine bp_ret (v := .tuple #[.agg #[.int .i64 pre.length, .int .i64 (runesN pre), .int .i64 (unitsN pre), .int .i64 (endsN pre), .string (bs (headOf pre)), .string (bs (tailOf pre))], .int .i64 0]) (res2 rfl (res_cell (b := r) (cs := [.int .i64 pre.length, .int .i64 (runesN pre), .int .i64 (unitsN pre), .int .i64 (endsN pre), .string (bs (headOf pre)), .string (bs (tailOf pre))]) (by kernel_rfl) (fun _ => by kernel_rfl) (by kernel_rfl) hr) (res_tmp (by kernel_rfl))) ?_
    exact ⟨by rw [← hpre, show k = 0 by omega]; simp [wv], hB⟩
end Go.Proofs.YtliphfgiaioebaaDoor
