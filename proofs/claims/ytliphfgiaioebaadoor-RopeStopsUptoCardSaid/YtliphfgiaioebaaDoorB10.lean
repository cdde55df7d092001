/-
  Package rope: Before.
  Fenced walks: the steps of a region where yield is called, or within a round of a range over a function; the law of such a range where the yielded value comes with memory.
  Rows of bytes that are a call's own; leaf.Bytes hands over such a row.
  A function that holds a range over a function: its marks; facts behind a turn of a block that holds no cells.
-/
import Derived.Test.YtliphfgiaioebaaDoorB09
import Derived.Sort.LoopGhostIn
namespace Go.Proofs.YtliphfgiaioebaaDoor
set_option linter.unusedVariables false
set_option linter.unusedSimpArgs false
open Go.RowKit
def BeforeP (l : List UInt8) (n : Nat) (w : World) (e : Ending) (w' : World) : Prop := e = .returned (.tuple #[wv (l.take n), .int .i64 0]) ∧ Ltr w w'
theorem RopeAt.open {w : World} {b : Nat} {l : List UInt8} (h : RopeAt w b l) : ∃ v, Blk w b 110 #[v] ∧ ((l = [] ∧ v = .nilIface) ∨ ∃ t : Tr, t.ok ∧ t.bytes = l ∧ TreeN w.heap.size w t v) := by
  obtain ⟨v, h1, h2⟩ := h
  exact ⟨v, h1, h2.imp id fun ⟨t, k1, k2, k3⟩ => ⟨t, k1, k2, k3.n⟩⟩
theorem TreeN.open {n : Nat} {w : World} {s : Tr} {v : Value} (h : TreeN n w s v) :
    (∃ m a, s = .tip m ∧ v = .iface 118 (.agg #[.pointer (some ⟨a, 0, none⟩)]) ∧ a < n ∧ LeafAt w a m) ∨
    (∃ x y a vx vy, s = .fork x y ∧ v = .iface 111 (.pointer (some ⟨a, 0, none⟩)) ∧ a < n ∧ Blk w a 115 #[vx, vy, .int .i64 (x.bytes ++ y.bytes).length, .int .i64 ((1 + max x.h y.h : Nat) : Int), .int .i64 (x.bytes ++ y.bytes).length, .int .i64 (runesN (x.bytes ++ y.bytes)), .int .i64 (unitsN (x.bytes ++ y.bytes)), .int .i64 (endsN (x.bytes ++ y.bytes)), .string (bs (headOf (x.bytes ++ y.bytes))), .string (bs (tailOf (x.bytes ++ y.bytes)))] ∧ TreeN n w x vx ∧ TreeN n w y vy) := by
  cases s with
  | tip m => obtain ⟨a, e, h1, h2⟩ := h.2; exact .inl ⟨m, a, rfl, e, h1, h2⟩
  | fork x y => obtain ⟨a, vx, vy, e, h1, h2, h3, h4⟩ := h.2; exact .inr ⟨x, y, a, vx, vy, rfl, e, h1, h2, ⟨h.1, h3⟩, ⟨h.1, h4⟩⟩
/-- below n nothing has changed since a -/
def Bel (n : Nat) (a w : World) : Prop := n ≤ a.heap.size ∧ Below n a w
theorem Bel.refl (n : Nat) (w : World) (h : n ≤ w.heap.size) : Bel n w w := ⟨h, Below.refl _ _⟩
theorem Bel.later {n : Nat} {a w w' : World} (h : Bel n a w) (hl : Ltr w w') : Bel n a w' := ⟨h.1, bel_ltr h.2 hl h.1⟩
theorem Bel.upd {n g : Nat} {a w w' : World} (h : Bel n a w) (hu : Upd g w w') (hg : n ≤ g) : Bel n a w' := ⟨h.1, hu.below h.2 hg⟩
theorem Bel.bel {n m : Nat} {a w w' : World} (h : Bel n a w) (hb : Below m w w') (hm : n ≤ m) : Bel n a w' := ⟨h.1, h.2.trans (Below.mono hb hm)⟩
theorem Bel.gr {n : Nat} {a w w' : World} {r : Option Nat} (h : Bel n a w) (hg : w.grownBy w' r) (hr : ∀ k, r = some k → n ≤ k) : Bel n a w' := ⟨h.1, Below.grown h.2 hg (Nat.le_trans h.1 h.2.size) hr⟩
theorem inv_sizeN {n : Nat} {w : World} {t : Tr} {v : Value} (h : TreeN n w t v) : ∃ f x, Enters v "galley/rope.size" f x ∧ ∀ W, Bel n w W → Calls Tryd.prog f #[x] W fun e w' => e = .returned (.int .i64 t.bytes.length) ∧ Ltr W w' := by
  rcases h.open with ⟨m, a, rfl, rfl, ha, hl⟩ | ⟨x, y, a, vx, vy, rfl, rfl, ha, hb, -, -⟩
  · exact ⟨161, .agg #[.pointer (some ⟨a, 0, none⟩)], fun o ρ r w ho hr => by (rw [enters_resolve ho hr]; kernel_rfl), fun W hW => tsize_any a m W (Blk.bel hl hW.2 ha)⟩
  · exact ⟨158, .pointer (some ⟨a, 0, none⟩), fun o ρ r w ho hr => by (rw [enters_resolve ho hr]; kernel_rfl), fun W hW => fsize_any a vx vy _ _ _ W (hb.bel hW.2 ha)⟩
theorem inv_weldN {n : Nat} {w : World} {t : Tr} {v : Value} (h : TreeN n w t v) : ∃ f x, Enters v "galley/rope.weld" f x ∧ ∀ W, Bel n w W → Calls Tryd.prog f #[x] W fun e w' => e = .returned (wv t.bytes) ∧ Ltr W w' := by
  rcases h.open with ⟨m, a, rfl, rfl, ha, hl⟩ | ⟨x, y, a, vx, vy, rfl, rfl, ha, hb, -, -⟩
  · exact ⟨162, .agg #[.pointer (some ⟨a, 0, none⟩)], fun o ρ r w ho hr => by (rw [enters_resolve ho hr]; kernel_rfl), fun W hW => tweld_any a m W (Blk.bel hl hW.2 ha)⟩
  · exact ⟨159, .pointer (some ⟨a, 0, none⟩), fun o ρ r w ho hr => by (rw [enters_resolve ho hr]; kernel_rfl), fun W hW => fweld_any a vx vy _ _ _ W (hb.bel hW.2 ha)⟩
set_option maxRecDepth 100000 in
set_option maxHeartbeats 8000000 in
theorem Before_0 (b : Nat) (l : List UInt8) (w : World) (hT : Tabs w) (hr : RopeAt w b l) :
    Calls Tryd.prog 43 #[.pointer (some ⟨b, 0, none⟩), .int .i64 0] w (BeforeP l 0 w) := by
  have hB := Ltr.refl w
  have hr0 := hr
  obtain ⟨v, hb, -⟩ := hr
  go_enter Tryd.func43, Tryd.ntmps43
  have h4 := hT.four
  have hlt_hb := hb.lt
  refine wp_seq_k fun KK1 hKK1 => rl_begin fun hgK hgo => ?_
  refine rl_alloc (some 4) 36 #[.int .i64 0, .int .i64 0, .int .i64 0, .int .i64 0, .string ⟨#[]⟩, .string ⟨#[]⟩] rfl (by kernel_rfl) (fun W => by kernel_rfl) fun r w2 hL2 hp2 hr => ?_
  have hz2 := hL2.size
  have hlt2 := hr.lt
  try simp only [pp]
  refine tk 5 (.int .i64 0) ?_
  simp only [pp]
  refine rl_end hgo <| hKK1 _ _ <| wp_seq_k fun KK3 hKK3 => wp_seq_k fun KK4 hKK4 => rl_begin fun hgK hgo => tk 13 (.pointer (some ⟨b, 0, none⟩)) <| tk 14 (.int .i64 0) ?_
  simp only [pp]
  replace hr0 := hr0.later hL2
  refine rl_call (some 15) 77 #[.pointer (some ⟨b, 0, none⟩), .int .i64 0] rfl (by kernel_rfl) (by kernel_rfl) (place_in b l 0 (Nat.zero_le _) _ hr0) ?_
  rintro e w5 ⟨rfl, hL5⟩
  refine ⟨_, rfl, ?_⟩
  have hz5 := hL5.size
  clear hr0
  try simp only [pp]
  refine tk 6 (.int .i64 0) ?_
  simp only [pp]
  refine rl_end hgo <| hKK4 _ _ <| wp_seq_k fun KK6 hKK6 => rl_begin fun hgK hgo => tk 16 (.int .i64 0) ?_
  simp only [pp]
  refine tx 17 (.bool false) (by exact nef (x := 0) (y := 0) (by omega)) ?_
  simp only [pp]
  refine rl_end hgo <| hKK6 _ _ <| wp_cond_false (by kernel_rfl) <| wp_skip <| hKK3 _ _ <| wp_seq_k fun KK7 hKK7 => rl_begin fun hgK hgo => ?_
  replace hT := (hT.later hL2).later hL5
  refine rl_call (some 20) 60 #[.slice none 0 0] rfl (by kernel_rfl) (by kernel_rfl) (Of_wv none 0 [] _ hT (BytesAt.nil _ _) (Nat.zero_le _) (by simp)) ?_
  rintro e w8 ⟨rfl, hL8⟩
  refine ⟨_, rfl, ?_⟩
  have hz8 := hL8.size
  try simp only [pp]
  refine rl_alloc (some 7) 36 #[.int .i64 0, .int .i64 0, .int .i64 0, .int .i64 0, .string ⟨#[]⟩, .string ⟨#[]⟩] rfl (by kernel_rfl) (fun W => by kernel_rfl) fun q w9 hL9 hp9 hq => ?_
  have hz9 := hL9.size
  have hlt9 := hq.lt
  try simp only [pp]
  refine rl_store q #[.int .i64 (@List.nil UInt8).length, .int .i64 (runesN (@List.nil UInt8)), .int .i64 (unitsN (@List.nil UInt8)), .int .i64 (endsN (@List.nil UInt8)), .string (bs (headOf (@List.nil UInt8))), .string (bs (tailOf (@List.nil UInt8)))] rfl rfl (by kernel_rfl) rfl rfl (by kernel_rfl) hq rfl (by kernel_rfl) fun w10 hU10 hn10 => ?_
  have hz10 := hU10.size
  replace hT := (hT.later hL8).later hL9
  replace hT := hT.upd hU10 (by omega)
  replace hB := (((hB.later hL2).later hL5).later hL8).later hL9
  replace hB := hB.upd hU10 (by omega)
  replace hb := (((hb.later hL2).later hL5).later hL8).later hL9
  replace hb := hb.upd hU10 (by omega)
  replace hr := ((hr.later hL5).later hL8).later hL9
  replace hr := hr.upd hU10 (by omega)
  clear hq
  have hq := hn10
  clear hn10
  try simp only [pp]
  refine rl_end hgo <| hKK7 _ _ <| wp_seq_k fun KK11 hKK11 => wp_seq_k fun KK12 hKK12 => rl_begin fun hgK hgo => tk 21 (.pointer (some ⟨b, 0, none⟩)) <| tk 22 (.pointer (some ⟨b, 0, none⟩)) <| tk 23 (.pointer (some ⟨b, 0, none⟩)) ?_
  simp only [pp]
  refine tx 24 v (by exact ld 108 b 0 (hb.cell 0)) <| tk 8 v ?_
  simp only [pp]
  refine rl_end hgo <| hKK12 _ _ <| wp_block ?_
  refine wp_loop_ghost (fun gn ga wl => ∃ (u : Nat → Value) , gn = 0 ∧ ga = ⟨#[.pointer (some ⟨b, 0, none⟩), .int .i64 0, undef, undef, .pointer (some ⟨r, 0, none⟩), u 5, .int .i64 0, .pointer (some ⟨q, 0, none⟩), u 8, u 9, u 10, u 11, u 12, .pointer (some ⟨b, 0, none⟩), .int .i64 0, .int .i64 0, .int .i64 0, .bool false, undef, undef, .agg #[.int .i64 (@List.nil UInt8).length, .int .i64 (runesN (@List.nil UInt8)), .int .i64 (unitsN (@List.nil UInt8)), .int .i64 (endsN (@List.nil UInt8)), .string (bs (headOf (@List.nil UInt8))), .string (bs (tailOf (@List.nil UInt8)))], .pointer (some ⟨b, 0, none⟩), .pointer (some ⟨b, 0, none⟩), .pointer (some ⟨b, 0, none⟩), v, u 25, u 26, u 27, u 28, u 29, u 30, u 31, u 32, u 33, u 34, u 35, u 36, u 37, u 38, u 39, u 40, u 41, u 42, u 43, u 44, u 45, u 46, u 47, u 48, u 49, u 50, u 51, u 52, u 53, u 54, u 55, u 56, u 57, u 58, u 59, u 60, u 61, u 62, u 63, u 64, u 65, u 66, u 67, u 68, u 69, u 70, u 71, u 72, undef], []⟩ ∧ (Ltr w wl) ∧ (Blk wl r 36 #[.int .i64 0, .int .i64 0, .int .i64 0, .int .i64 0, .string ⟨#[]⟩, .string ⟨#[]⟩]) ∧ (Blk wl q 36 #[.int .i64 (@List.nil UInt8).length, .int .i64 (runesN (@List.nil UInt8)), .int .i64 (unitsN (@List.nil UInt8)), .int .i64 (endsN (@List.nil UInt8)), .string (bs (headOf (@List.nil UInt8))), .string (bs (tailOf (@List.nil UInt8)))])) (0) ?_ ?_
  ·exact ⟨fun gj => (#[.pointer (some ⟨b, 0, none⟩), .int .i64 0, undef, undef, .pointer (some ⟨r, 0, none⟩), .int .i64 0, .int .i64 0, .pointer (some ⟨q, 0, none⟩), v, undef, undef, undef, undef, .pointer (some ⟨b, 0, none⟩), .int .i64 0, .int .i64 0, .int .i64 0, .bool false, undef, undef, .agg #[.int .i64 (@List.nil UInt8).length, .int .i64 (runesN (@List.nil UInt8)), .int .i64 (unitsN (@List.nil UInt8)), .int .i64 (endsN (@List.nil UInt8)), .string (bs (headOf (@List.nil UInt8))), .string (bs (tailOf (@List.nil UInt8)))], .pointer (some ⟨b, 0, none⟩), .pointer (some ⟨b, 0, none⟩), .pointer (some ⟨b, 0, none⟩), v, undef, undef, undef, undef, undef, undef, undef, undef, undef, undef, undef, undef, undef, undef, undef, undef, undef, undef, undef, undef, undef, undef, undef, undef, undef, undef, undef, undef, undef, undef, undef, undef, undef, undef, undef, undef, undef, undef, undef, undef, undef, undef, undef, undef, undef, undef, undef, undef, undef]).getD gj undef, rfl, rfl, by assumption, by assumption, by assumption⟩
  rintro n13 a13 w13 ⟨u, rfl, rfl, hB', hr', hq'⟩
  clear hq hr hb hB hT
  have hB := hB'
  clear hB'
  have hr := hr'
  clear hr'
  have hq := hq'
  clear hq'
  have hlt_hr_13 := hr.lt
  have hlt_hq_13 := hq.lt
  refine wp_seq_k fun KK14 hKK14 => wp_seq_k fun KK15 hKK15 => rl_begin fun hgK hgo => tk 25 (.int .i64 0) ?_
  simp only [pp]
  refine tx 26 (.bool false) (by exact ebf (c := (0 : Int) > 0) (by omega)) ?_
  simp only [pp]
  refine rl_end hgo <| hKK15 _ _ <| wp_cond_false (by kernel_rfl) <| wp_exit <| hKK11 _ _ <| wp_seq_k fun KK16 hKK16 => rl_begin fun hgK hgo => ?_
  refine tx 73 (.agg #[.int .i64 (@List.nil UInt8).length, .int .i64 (runesN (@List.nil UInt8)), .int .i64 (unitsN (@List.nil UInt8)), .int .i64 (endsN (@List.nil UInt8)), .string (bs (headOf (@List.nil UInt8))), .string (bs (tailOf (@List.nil UInt8)))]) (by exact ldN 36 _ rfl q 0 rfl (fun _ => by kernel_rfl) [] [.int .i64 (@List.nil UInt8).length, .int .i64 (runesN (@List.nil UInt8)), .int .i64 (unitsN (@List.nil UInt8)), .int .i64 (endsN (@List.nil UInt8)), .string (bs (headOf (@List.nil UInt8))), .string (bs (tailOf (@List.nil UInt8)))] [] (by kernel_rfl) hq rfl rfl) ?_
  simp only [pp]
  refine rl_store r #[.int .i64 (@List.nil UInt8).length, .int .i64 (runesN (@List.nil UInt8)), .int .i64 (unitsN (@List.nil UInt8)), .int .i64 (endsN (@List.nil UInt8)), .string (bs (headOf (@List.nil UInt8))), .string (bs (tailOf (@List.nil UInt8)))] rfl rfl (by kernel_rfl) rfl rfl (by kernel_rfl) hr rfl (by kernel_rfl) fun w17 hU17 hn17 => ?_
  have hz17 := hU17.size
  replace hB := hB.upd hU17 (by omega)
  replace hq := hq.upd hU17 (by omega)
  clear hr
  have hr := hn17
  clear hn17
  try simp only [pp]
  refine tk 5 (.int .i64 0) ?_
  simp only [pp]
  refine rl_end hgo <| hKK16 _ _ ?_
  refine wp_ret ?_
  try simp only [Exit.then, Exit.inBlock]
  refine bp_ret (v := .tuple #[.agg #[.int .i64 (@List.nil UInt8).length, .int .i64 (runesN (@List.nil UInt8)), .int .i64 (unitsN (@List.nil UInt8)), .int .i64 (endsN (@List.nil UInt8)), .string (bs (headOf (@List.nil UInt8))), .string (bs (tailOf (@List.nil UInt8)))], .int .i64 0]) (res2 rfl (res_cell (b := r) (cs := [.int .i64 (@List.nil UInt8).length, .int .i64 (runesN (@List.nil UInt8)), .int .i64 (unitsN (@List.nil UInt8)), .int .i64 (endsN (@List.nil UInt8)), .string (bs (headOf (@List.nil UInt8))), .string (bs (tailOf (@List.nil UInt8)))]) (by kernel_rfl) (fun _ => by kernel_rfl) (by kernel_rfl) hr) (res_tmp (by kernel_rfl))) ?_
  exact ⟨rfl, hB⟩
set_option maxRecDepth 100000 in
set_option maxHeartbeats 8000000 in
theorem Before_1 (b : Nat) (l : List UInt8) (n : Nat) (w : World) (hT : Tabs w) (hr : RopeAt w b l) (h0 : 0 < n) (hn : n ≤ l.length) (hm : l.length ≤ 200000000) :
    Calls Tryd.prog 43 #[.pointer (some ⟨b, 0, none⟩), .int .i64 n] w (BeforeP l n w) := by
  have hB := Ltr.refl w
  have hr0 := hr
  obtain ⟨v, hb, hv⟩ := hr.open
  rcases hv with ⟨rfl, -⟩ | ⟨t, ot, rfl, ht⟩
  · simp at hn; omega
  go_enter Tryd.func43, Tryd.ntmps43
  have h4 := hT.four
  have hlt_hb := hb.lt
  refine wp_seq_k fun KK1 hKK1 => rl_begin fun hgK hgo => ?_
  refine rl_alloc (some 4) 36 #[.int .i64 0, .int .i64 0, .int .i64 0, .int .i64 0, .string ⟨#[]⟩, .string ⟨#[]⟩] rfl (by kernel_rfl) (fun W => by kernel_rfl) fun r w2 hL2 hp2 hr => ?_
  have hz2 := hL2.size
  have hlt2 := hr.lt
  try simp only [pp]
  refine tk 5 (.int .i64 0) ?_
  simp only [pp]
  refine rl_end hgo <| hKK1 _ _ <| wp_seq_k fun KK3 hKK3 => wp_seq_k fun KK4 hKK4 => rl_begin fun hgK hgo => tk 13 (.pointer (some ⟨b, 0, none⟩)) <| tk 14 (.int .i64 n) ?_
  simp only [pp]
  replace hr0 := hr0.later hL2
  refine rl_call (some 15) 77 #[.pointer (some ⟨b, 0, none⟩), .int .i64 n] rfl (by kernel_rfl) (by kernel_rfl) (place_in b t.bytes n hn _ hr0) ?_
  rintro e w5 ⟨rfl, hL5⟩
  refine ⟨_, rfl, ?_⟩
  have hz5 := hL5.size
  clear hr0
  try simp only [pp]
  refine tk 6 (.int .i64 0) ?_
  simp only [pp]
  refine rl_end hgo <| hKK4 _ _ <| wp_seq_k fun KK6 hKK6 => rl_begin fun hgK hgo => tk 16 (.int .i64 0) ?_
  simp only [pp]
  refine tx 17 (.bool false) (by exact nef (x := 0) (y := 0) (by omega)) ?_
  simp only [pp]
  refine rl_end hgo <| hKK6 _ _ <| wp_cond_false (by kernel_rfl) <| wp_skip <| hKK3 _ _ <| wp_seq_k fun KK7 hKK7 => rl_begin fun hgK hgo => ?_
  replace hT := (hT.later hL2).later hL5
  refine rl_call (some 20) 60 #[.slice none 0 0] rfl (by kernel_rfl) (by kernel_rfl) (Of_wv none 0 [] _ hT (BytesAt.nil _ _) (Nat.zero_le _) (by simp)) ?_
  rintro e w8 ⟨rfl, hL8⟩
  refine ⟨_, rfl, ?_⟩
  have hz8 := hL8.size
  try simp only [pp]
  refine rl_alloc (some 7) 36 #[.int .i64 0, .int .i64 0, .int .i64 0, .int .i64 0, .string ⟨#[]⟩, .string ⟨#[]⟩] rfl (by kernel_rfl) (fun W => by kernel_rfl) fun q w9 hL9 hp9 hq => ?_
  have hz9 := hL9.size
  have hlt9 := hq.lt
  try simp only [pp]
  refine rl_store q #[.int .i64 (@List.nil UInt8).length, .int .i64 (runesN (@List.nil UInt8)), .int .i64 (unitsN (@List.nil UInt8)), .int .i64 (endsN (@List.nil UInt8)), .string (bs (headOf (@List.nil UInt8))), .string (bs (tailOf (@List.nil UInt8)))] rfl rfl (by kernel_rfl) rfl rfl (by kernel_rfl) hq rfl (by kernel_rfl) fun w10 hU10 hn10 => ?_
  have hz10 := hU10.size
  replace hT := (hT.later hL8).later hL9
  replace hT := hT.upd hU10 (by omega)
  replace hB := (((hB.later hL2).later hL5).later hL8).later hL9
  replace hB := hB.upd hU10 (by omega)
  replace ht := (((ht.later hL2).later hL5).later hL8).later hL9
  replace ht := ht.upd hU10 (by omega)
  replace hb := (((hb.later hL2).later hL5).later hL8).later hL9
  replace hb := hb.upd hU10 (by omega)
  replace hr := ((hr.later hL5).later hL8).later hL9
  replace hr := hr.upd hU10 (by omega)
  clear hq
  have hq := hn10
  clear hn10
  try simp only [pp]
  refine rl_end hgo <| hKK7 _ _ <| wp_seq_k fun KK11 hKK11 => wp_seq_k fun KK12 hKK12 => rl_begin fun hgK hgo => tk 21 (.pointer (some ⟨b, 0, none⟩)) <| tk 22 (.pointer (some ⟨b, 0, none⟩)) <| tk 23 (.pointer (some ⟨b, 0, none⟩)) ?_
  simp only [pp]
  refine tx 24 v (by exact ld 108 b 0 (hb.cell 0)) <| tk 8 v ?_
  simp only [pp]
  refine rl_end hgo <| hKK12 _ _ <| wp_block ?_
  refine wp_loop_ghost (fun gn ga wl => ∃ (u : Nat → Value) (k : Nat) (s : Tr) (vs : Value) (pre : List UInt8), gn = s.h ∧ ga = ⟨#[.pointer (some ⟨b, 0, none⟩), .int .i64 k, undef, undef, .pointer (some ⟨r, 0, none⟩), u 5, .int .i64 0, .pointer (some ⟨q, 0, none⟩), vs, u 9, u 10, u 11, u 12, .pointer (some ⟨b, 0, none⟩), .int .i64 n, .int .i64 0, .int .i64 0, .bool false, undef, undef, .agg #[.int .i64 (@List.nil UInt8).length, .int .i64 (runesN (@List.nil UInt8)), .int .i64 (unitsN (@List.nil UInt8)), .int .i64 (endsN (@List.nil UInt8)), .string (bs (headOf (@List.nil UInt8))), .string (bs (tailOf (@List.nil UInt8)))], .pointer (some ⟨b, 0, none⟩), .pointer (some ⟨b, 0, none⟩), .pointer (some ⟨b, 0, none⟩), v, u 25, u 26, u 27, u 28, u 29, u 30, u 31, u 32, u 33, u 34, u 35, u 36, u 37, u 38, u 39, u 40, u 41, u 42, u 43, u 44, u 45, u 46, u 47, u 48, u 49, u 50, u 51, u 52, u 53, u 54, u 55, u 56, u 57, u 58, u 59, u 60, u 61, u 62, u 63, u 64, u 65, u 66, u 67, u 68, u 69, u 70, u 71, u 72, undef], []⟩ ∧ (Tabs wl) ∧ (Ltr w wl) ∧ (TreeN w.heap.size wl s vs) ∧ (Blk wl r 36 #[.int .i64 0, .int .i64 0, .int .i64 0, .int .i64 0, .string ⟨#[]⟩, .string ⟨#[]⟩]) ∧ (Blk wl q 36 #[.int .i64 pre.length, .int .i64 (runesN pre), .int .i64 (unitsN pre), .int .i64 (endsN pre), .string (bs (headOf pre)), .string (bs (tailOf pre))]) ∧ (s.ok) ∧ (k ≤ s.bytes.length) ∧ (pre ++ s.bytes.take k = t.bytes.take n) ∧ (pre.length + s.bytes.length ≤ t.bytes.length) ∧ (w.heap.size ≤ r ∧ w.heap.size ≤ q ∧ r ≠ q)) ((fun (k : Nat) (s : Tr) (vs : Value) (pre : List UInt8) => (s.h : Nat)) n t v []) ?_ ?_
  ·exact ⟨fun gj => (#[.pointer (some ⟨b, 0, none⟩), .int .i64 n, undef, undef, .pointer (some ⟨r, 0, none⟩), .int .i64 0, .int .i64 0, .pointer (some ⟨q, 0, none⟩), v, undef, undef, undef, undef, .pointer (some ⟨b, 0, none⟩), .int .i64 n, .int .i64 0, .int .i64 0, .bool false, undef, undef, .agg #[.int .i64 (@List.nil UInt8).length, .int .i64 (runesN (@List.nil UInt8)), .int .i64 (unitsN (@List.nil UInt8)), .int .i64 (endsN (@List.nil UInt8)), .string (bs (headOf (@List.nil UInt8))), .string (bs (tailOf (@List.nil UInt8)))], .pointer (some ⟨b, 0, none⟩), .pointer (some ⟨b, 0, none⟩), .pointer (some ⟨b, 0, none⟩), v, undef, undef, undef, undef, undef, undef, undef, undef, undef, undef, undef, undef, undef, undef, undef, undef, undef, undef, undef, undef, undef, undef, undef, undef, undef, undef, undef, undef, undef, undef, undef, undef, undef, undef, undef, undef, undef, undef, undef, undef, undef, undef, undef, undef, undef, undef, undef, undef, undef]).getD gj undef, n, t, v, [], rfl, rfl, by assumption, by assumption, by assumption, by assumption, by assumption, by assumption, hn, rfl, (by simp), (by omega)⟩
  rintro n13 a13 w13 ⟨u, k, s, vs, pre, rfl, rfl, hT', hB', hs', hr', hq', os', hk', hpre', hpl', hrN'⟩
  clear hq hr hb ht hB hT
  have hT := hT'
  clear hT'
  have hB := hB'
  clear hB'
  have hs := hs'
  clear hs'
  have hr := hr'
  clear hr'
  have hq := hq'
  clear hq'
  have os := os'
  clear os'
  have hk := hk'
  clear hk'
  have hpre := hpre'
  clear hpre'
  have hpl := hpl'
  clear hpl'
  have hrN := hrN'
  clear hrN'
  have hlt_hr_13 := hr.lt
  have hlt_hq_13 := hq.lt
  refine wp_seq_k fun KK14 hKK14 => wp_seq_k fun KK15 hKK15 => rl_begin fun hgK hgo => tk 25 (.int .i64 k) ?_
  simp only [pp]
  by_cases hk0 : (k : Int) > 0
  ·refine tx 26 (.bool true) (by exact ebt (c := (k : Int) > 0) (by omega)) ?_
   simp only [pp]
   refine rl_end hgo <| hKK15 _ _ <| wp_cond_true (by kernel_rfl) <| wp_skip <| hKK14 _ _ <| wp_block <| wp_seq_k fun KK16 hKK16 => ?_
   rcases hs.open with ⟨m, a, rfl, rfl, ha, hlf⟩|⟨x, y, a, vx, vy, rfl, rfl, ha, hfk, hx, hy⟩
   ·skip
    clear hs
    refine rl_begin fun hgK hgo => tk 27 (.iface 118 (.agg #[.pointer (some ⟨a, 0, none⟩)])) ?_
    simp only [pp]
    refine rl_end hgo <| hKK16 _ _ <| wp_block <| wp_seq_k fun KK17 hKK17 => rl_begin fun hgK hgo => tk 28 (.tuple #[.agg #[.pointer (some ⟨a, 0, none⟩)], .bool true]) <| tk 29 (.bool true) <| tk 30 (.agg #[.pointer (some ⟨a, 0, none⟩)]) ?_
    simp only [pp]
    refine rl_end hgo <| hKK17 _ _ <| wp_cond_true (by kernel_rfl) <| wp_seq_k fun KK18 hKK18 => rl_begin fun hgK hgo => ?_
    refine rl_alloc (some 9) 118 #[.pointer none] rfl (by kernel_rfl) (fun W => by kernel_rfl) fun p19 w19 hL19 hp19 hb19 => ?_
    have hz19 := hL19.size
    have hlt19 := hb19.lt
    try simp only [pp]
    refine rl_store p19 #[.pointer (some ⟨a, 0, none⟩)] rfl rfl (by kernel_rfl) rfl rfl (by kernel_rfl) hb19 rfl (by kernel_rfl) fun w20 hU20 hn20 => ?_
    have hz20 := hU20.size
    replace hT := hT.later hL19
    replace hT := hT.upd hU20 (by omega)
    replace hB := hB.later hL19
    replace hB := hB.upd hU20 (by omega)
    replace hr := hr.later hL19
    replace hr := hr.upd hU20 (by omega)
    replace hq := hq.later hL19
    replace hq := hq.upd hU20 (by omega)
    replace hlf := hlf.later hL19
    replace hlf := hlf.upd hU20 (by omega)
    clear hb19
    have hb19 := hn20
    clear hn20
    try simp only [pp]
    refine rl_end hgo <| hKK18 _ _ <| wp_seq_k fun KK21 hKK21 => rl_begin fun hgK hgo => tk 32 (.pointer (some ⟨p19, 0, none⟩)) ?_
    simp only [pp]
    refine tx 33 (.pointer (some ⟨a, 0, none⟩)) (by exact ld 116 p19 0 (hb19.cell 0)) <| tk 34 (.int .i64 k) ?_
    simp only [pp]
    refine rl_call (some 35) 62 #[.pointer (some ⟨a, 0, none⟩), .int .i64 k] rfl (by kernel_rfl) (by kernel_rfl) (LBefore_any a m k hk (by simp only [Tr.bytes] at hpl; omega) _ hT hlf) ?_
    rintro e w22 ⟨rfl, hL22⟩
    refine ⟨_, rfl, ?_⟩
    have hz22 := hL22.size
    try simp only [pp]
    refine tk 31 (.tuple #[.agg #[.int .i64 (m.take k).length, .int .i64 (runesN (m.take k)), .int .i64 (unitsN (m.take k)), .int .i64 (endsN (m.take k)), .string (bs (headOf (m.take k))), .string (bs (tailOf (m.take k)))], .int .i64 0]) <| tk 36 (.agg #[.int .i64 (m.take k).length, .int .i64 (runesN (m.take k)), .int .i64 (unitsN (m.take k)), .int .i64 (endsN (m.take k)), .string (bs (headOf (m.take k))), .string (bs (tailOf (m.take k)))]) <| tk 37 (.int .i64 0) ?_
    simp only [pp]
    refine rl_alloc (some 10) 36 #[.int .i64 0, .int .i64 0, .int .i64 0, .int .i64 0, .string ⟨#[]⟩, .string ⟨#[]⟩] rfl (by kernel_rfl) (fun W => by kernel_rfl) fun p23 w23 hL23 hp23 hb23 => ?_
    have hz23 := hL23.size
    have hlt23 := hb23.lt
    try simp only [pp]
    refine rl_store p23 #[.int .i64 (m.take k).length, .int .i64 (runesN (m.take k)), .int .i64 (unitsN (m.take k)), .int .i64 (endsN (m.take k)), .string (bs (headOf (m.take k))), .string (bs (tailOf (m.take k)))] rfl rfl (by kernel_rfl) rfl rfl (by kernel_rfl) hb23 rfl (by kernel_rfl) fun w24 hU24 hn24 => ?_
    have hz24 := hU24.size
    replace hT := (hT.later hL22).later hL23
    replace hT := hT.upd hU24 (by omega)
    replace hB := (hB.later hL22).later hL23
    replace hB := hB.upd hU24 (by omega)
    replace hr := (hr.later hL22).later hL23
    replace hr := hr.upd hU24 (by omega)
    replace hq := (hq.later hL22).later hL23
    replace hq := hq.upd hU24 (by omega)
    replace hlf := (hlf.later hL22).later hL23
    replace hlf := hlf.upd hU24 (by omega)
    replace hb19 := (hb19.later hL22).later hL23
    replace hb19 := hb19.upd hU24 (by omega)
    clear hb23
    have hb23 := hn24
    clear hn24
    try simp only [pp]
    refine tk 11 (.int .i64 0) ?_
    simp only [pp]
    refine rl_end hgo <| hKK21 _ _ <| wp_seq_k fun KK25 hKK25 => rl_begin fun hgK hgo => ?_
    refine tx 38 (.agg #[.int .i64 pre.length, .int .i64 (runesN pre), .int .i64 (unitsN pre), .int .i64 (endsN pre), .string (bs (headOf pre)), .string (bs (tailOf pre))]) (by exact ldN 36 _ rfl q 0 rfl (fun _ => by kernel_rfl) [] [.int .i64 pre.length, .int .i64 (runesN pre), .int .i64 (unitsN pre), .int .i64 (endsN pre), .string (bs (headOf pre)), .string (bs (tailOf pre))] [] (by kernel_rfl) hq rfl rfl) ?_
    simp only [pp]
    refine tx 39 (.agg #[.int .i64 (m.take k).length, .int .i64 (runesN (m.take k)), .int .i64 (unitsN (m.take k)), .int .i64 (endsN (m.take k)), .string (bs (headOf (m.take k))), .string (bs (tailOf (m.take k)))]) (by exact ldN 36 _ rfl p23 0 rfl (fun _ => by kernel_rfl) [] [.int .i64 (m.take k).length, .int .i64 (runesN (m.take k)), .int .i64 (unitsN (m.take k)), .int .i64 (endsN (m.take k)), .string (bs (headOf (m.take k))), .string (bs (tailOf (m.take k)))] [] (by kernel_rfl) hb23 rfl rfl) ?_
    simp only [pp]
    refine rl_call (some 40) 61 #[.agg #[.int .i64 pre.length, .int .i64 (runesN pre), .int .i64 (unitsN pre), .int .i64 (endsN pre), .string (bs (headOf pre)), .string (bs (tailOf pre))], .agg #[.int .i64 (m.take k).length, .int .i64 (runesN (m.take k)), .int .i64 (unitsN (m.take k)), .int .i64 (endsN (m.take k)), .string (bs (headOf (m.take k))), .string (bs (tailOf (m.take k)))]] rfl (by kernel_rfl) (by kernel_rfl) (rboth_any pre (m.take k) (by simp only [Tr.bytes] at hpl; rw [List.length_take]; omega) _ hT) ?_
    rintro e w26 ⟨rfl, hL26⟩
    refine ⟨_, rfl, ?_⟩
    have hz26 := hL26.size
    try simp only [pp]
    replace hr := hr.later hL26
    refine rl_store r #[.int .i64 (pre ++ m.take k).length, .int .i64 (runesN (pre ++ m.take k)), .int .i64 (unitsN (pre ++ m.take k)), .int .i64 (endsN (pre ++ m.take k)), .string (bs (headOf (pre ++ m.take k))), .string (bs (tailOf (pre ++ m.take k)))] rfl rfl (by kernel_rfl) rfl rfl (by kernel_rfl) hr rfl (by kernel_rfl) fun w27 hU27 hn27 => ?_
    have hz27 := hU27.size
    replace hT := hT.later hL26
    replace hT := hT.upd hU27 (by omega)
    replace hB := hB.later hL26
    replace hB := hB.upd hU27 (by omega)
    replace hq := hq.later hL26
    replace hq := hq.upd hU27 (by omega)
    replace hlf := hlf.later hL26
    replace hlf := hlf.upd hU27 (by omega)
    replace hb19 := hb19.later hL26
    replace hb19 := hb19.upd hU27 (by omega)
    replace hb23 := hb23.later hL26
    replace hb23 := hb23.upd hU27 (by omega)
    clear hr
    have hr := hn27
    clear hn27
    try simp only [pp]
    refine tk 5 (.int .i64 0) ?_
    simp only [pp]
    refine rl_end hgo <| hKK25 _ _ ?_
    refine wp_ret ?_
    try simp only [Exit.then, Exit.inBlock]
    refine bp_ret (v := .tuple #[.agg #[.int .i64 (pre ++ m.take k).length, .int .i64 (runesN (pre ++ m.take k)), .int .i64 (unitsN (pre ++ m.take k)), .int .i64 (endsN (pre ++ m.take k)), .string (bs (headOf (pre ++ m.take k))), .string (bs (tailOf (pre ++ m.take k)))], .int .i64 0]) (res2 rfl (res_cell (b := r) (cs := [.int .i64 (pre ++ m.take k).length, .int .i64 (runesN (pre ++ m.take k)), .int .i64 (unitsN (pre ++ m.take k)), .int .i64 (endsN (pre ++ m.take k)), .string (bs (headOf (pre ++ m.take k))), .string (bs (tailOf (pre ++ m.take k)))]) (by kernel_rfl) (fun _ => by kernel_rfl) (by kernel_rfl) hr) (res_tmp (by kernel_rfl))) ?_
    exact ⟨by rw [← hpre]; rfl, hB⟩
   ·skip
    clear hs
    (have hl := Tr.len_fork x y); (obtain ⟨fs, xs, es, cs⟩ := inv_sizeN hx); (obtain ⟨fw, xw, ew, cw⟩ := inv_weldN hx); (have hL0 := Bel.refl w.heap.size w13 hx.1)
    have hlt_hfk := hfk.lt
    refine rl_begin fun hgK hgo => tk 27 (.iface 111 (.pointer (some ⟨a, 0, none⟩))) ?_
    simp only [pp]
    refine rl_end hgo <| hKK16 _ _ <| wp_block <| wp_seq_k fun KK28 hKK28 => rl_begin fun hgK hgo => tk 28 (.tuple #[.agg #[.pointer none], .bool false]) <| tk 29 (.bool false) <| tk 30 (.agg #[.pointer none]) ?_
    simp only [pp]
    refine rl_end hgo <| hKK28 _ _ <| wp_cond_false (by kernel_rfl) <| wp_seq_k fun KK29 hKK29 => rl_begin fun hgK hgo => tk 41 (.tuple #[.pointer (some ⟨a, 0, none⟩), .bool true]) <| tk 42 (.bool true) <| tk 43 (.pointer (some ⟨a, 0, none⟩)) ?_
    simp only [pp]
    refine rl_end hgo <| hKK29 _ _ <| wp_cond_true (by kernel_rfl) <| wp_seq_k fun KK30 hKK30 => rl_begin fun hgK hgo => tk 12 (.pointer (some ⟨a, 0, none⟩)) ?_
    simp only [pp]
    refine rl_end hgo <| hKK30 _ _ <| wp_seq_k fun KK31 hKK31 => wp_seq_k fun KK32 hKK32 => rl_begin fun hgK hgo => tk 44 (.int .i64 k) <| tk 45 (.pointer (some ⟨a, 0, none⟩)) <| tk 46 (.pointer (some ⟨a, 0, none⟩)) <| tk 47 (.pointer (some ⟨a, 0, none⟩)) ?_
    simp only [pp]
    refine tx 48 vx (by exact ld 108 a 0 (hfk.cell 0)) ?_
    simp only [pp]
    refine rl_call (some 49) fs #[xs] rfl (by kernel_rfl) (by exact es _ _ _ _ rfl rfl) (cs _ hL0) ?_
    rintro e w33 ⟨rfl, hL33⟩
    refine ⟨_, rfl, ?_⟩
    have hz33 := hL33.size
    try simp only [pp]
    replace hT := hT.later hL33
    replace hB := hB.later hL33
    replace hr := hr.later hL33
    replace hq := hq.later hL33
    replace hx := hx.later hL33
    replace hy := hy.later hL33
    replace hL0 := hL0.later hL33
    replace hfk := hfk.later hL33
    by_cases hlt : (k : Int) < x.bytes.length
    ·refine tx 50 (.bool true) (by exact ebt (c := (k : Int) < x.bytes.length) (by omega)) ?_
     simp only [pp]
     refine rl_end hgo <| hKK32 _ _ <| wp_cond_true (by kernel_rfl) <| wp_seq_k fun KK34 hKK34 => rl_begin fun hgK hgo => tk 51 (.pointer (some ⟨a, 0, none⟩)) <| tk 52 (.pointer (some ⟨a, 0, none⟩)) <| tk 53 (.pointer (some ⟨a, 0, none⟩)) ?_
     simp only [pp]
     refine tx 54 vx (by exact ld 108 a 0 (hfk.cell 0)) <| tk 8 vx ?_
     simp only [pp]
     refine rl_end hgo <| hKK34 _ _ <| wp_exit ?_
     exact ⟨_, (by simp only [Tr.h]; omega), fun gj => (#[.pointer (some ⟨b, 0, none⟩), .int .i64 k, undef, undef, .pointer (some ⟨r, 0, none⟩), u 5, .int .i64 0, .pointer (some ⟨q, 0, none⟩), vx, u 9, u 10, u 11, .pointer (some ⟨a, 0, none⟩), .pointer (some ⟨b, 0, none⟩), .int .i64 n, .int .i64 0, .int .i64 0, .bool false, undef, undef, .agg #[.int .i64 (@List.nil UInt8).length, .int .i64 (runesN (@List.nil UInt8)), .int .i64 (unitsN (@List.nil UInt8)), .int .i64 (endsN (@List.nil UInt8)), .string (bs (headOf (@List.nil UInt8))), .string (bs (tailOf (@List.nil UInt8)))], .pointer (some ⟨b, 0, none⟩), .pointer (some ⟨b, 0, none⟩), .pointer (some ⟨b, 0, none⟩), v, .int .i64 k, .bool true, .iface 111 (.pointer (some ⟨a, 0, none⟩)), .tuple #[.agg #[.pointer none], .bool false], .bool false, .agg #[.pointer none], u 31, u 32, u 33, u 34, u 35, u 36, u 37, u 38, u 39, u 40, .tuple #[.pointer (some ⟨a, 0, none⟩), .bool true], .bool true, .pointer (some ⟨a, 0, none⟩), .int .i64 k, .pointer (some ⟨a, 0, none⟩), .pointer (some ⟨a, 0, none⟩), .pointer (some ⟨a, 0, none⟩), vx, .int .i64 x.bytes.length, .bool true, .pointer (some ⟨a, 0, none⟩), .pointer (some ⟨a, 0, none⟩), .pointer (some ⟨a, 0, none⟩), vx, u 55, u 56, u 57, u 58, u 59, u 60, u 61, u 62, u 63, u 64, u 65, u 66, u 67, u 68, u 69, u 70, u 71, u 72, undef]).getD gj undef, k, x, vx, pre, rfl, rfl, by assumption, by assumption, by assumption, by assumption, by assumption, os.1, (by omega), (by rw [← hpre, Tr.b_fork, List.take_append_of_le_length (by omega)]), (by omega), by assumption⟩
    ·refine tx 50 (.bool false) (by exact ebf (c := (k : Int) < x.bytes.length) (by omega)) ?_
     simp only [pp]
     refine rl_end hgo <| hKK32 _ _ <| wp_cond_false (by kernel_rfl) <| wp_skip <| hKK31 _ _ <| wp_seq_k fun KK35 hKK35 => rl_begin fun hgK hgo => tk 55 (.int .i64 k) <| tk 56 (.pointer (some ⟨a, 0, none⟩)) <| tk 57 (.pointer (some ⟨a, 0, none⟩)) <| tk 58 (.pointer (some ⟨a, 0, none⟩)) ?_
     simp only [pp]
     refine tx 59 vx (by exact ld 108 a 0 (hfk.cell 0)) ?_
     simp only [pp]
     refine rl_call (some 60) fs #[xs] rfl (by kernel_rfl) (by exact es _ _ _ _ rfl rfl) (cs _ hL0) ?_
     rintro e w36 ⟨rfl, hL36⟩
     refine ⟨_, rfl, ?_⟩
     have hz36 := hL36.size
     try simp only [pp]
     refine tx 61 (.int .i64 (((k - x.bytes.length : Nat) : Int))) (by exact ex_arith (e := (k : Int) - x.bytes.length) (r := ((k - x.bytes.length : Nat) : Int)) (by kernel_rfl) (by omega) (by omega)) <| tk 1 (.int .i64 (((k - x.bytes.length : Nat) : Int))) ?_
     simp only [pp]
     refine rl_end hgo <| hKK35 _ _ <| wp_seq_k fun KK37 hKK37 => ?_
     have hNz38 : w.heap.size ≤ (w36).heap.size := by omega
     replace hr := hr.later hL36
     refine rm_begin (fun W => Below w.heap.size w36 W ∧ Blk W r 36 #[.int .i64 0, .int .i64 0, .int .i64 0, .int .i64 0, .string ⟨#[]⟩, .string ⟨#[]⟩]) (by kernel_rfl) (by exact ⟨Below.drew (Below.refl _ _), Blk.drew hr⟩) fun K38 hgo w38 hE hS38 => ?_
     have hv38 : Ltr w36 w38 := by rw [hE]; exact bl_drew (bl_refl _)
     have hz38 := hv38.size
     clear hE hS38
     refine mk 1 63 (.pointer (some ⟨a, 0, none⟩)) <| mk 2 64 (.pointer (some ⟨a, 0, none⟩)) <| mk 3 65 (.pointer (some ⟨a, 0, none⟩)) ?_
     try simp only [pp]
     replace hfk := hfk.later hL36
     refine mx 4 66 vx rfl (fun W hW => by (exact ld 108 a 0 ((hfk.bel hW.1 (by omega)).cell 0))) ?_
     try simp only [pp]
     replace hL0 := hL0.later hL36
     refine rm_call 5 (some 67) (.agg #[.int .i64 (x.bytes).length, .int .i64 (runesN (x.bytes)), .int .i64 (unitsN (x.bytes)), .int .i64 (endsN (x.bytes)), .string (bs (headOf (x.bytes))), .string (bs (tailOf (x.bytes)))]) fw #[xw] rfl rfl (by kernel_rfl) (by kernel_rfl) (by kernel_rfl) (by kernel_rfl) (fun W hW => by exact ew _ _ _ _ rfl rfl) (fun W hW => cw _ (hL0.bel hW.1 (by omega))) (fun _ _ h k => ⟨bel_ltr h.1 k hNz38, (h.2).later k⟩) ?_
     try simp only [pp]
     refine rm_pick1 (i := 0) (by kernel_rfl) ?_
     replace hq := hq.later hL36
     refine rm_read (some 62) (.agg #[.int .i64 pre.length, .int .i64 (runesN pre), .int .i64 (unitsN pre), .int .i64 (endsN pre), .string (bs (headOf pre)), .string (bs (tailOf pre))]) rfl rfl (by kernel_rfl) (fun W hlz hW => by exact ldN 36 _ rfl q 0 rfl (fun _ => by kernel_rfl) [] [.int .i64 pre.length, .int .i64 (runesN pre), .int .i64 (unitsN pre), .int .i64 (endsN pre), .string (bs (headOf pre)), .string (bs (tailOf pre))] [] (by kernel_rfl) (hq.later (hv38.trans hlz)) rfl rfl) fun w39 hL39 hS39 => ?_
     have hv38_ := hv38.trans hL39
     clear hv38
     have hv38 := hv38_
     clear hv38_
     try simp only [pp]
     replace hT := hT.later hL36
     refine rm_call 6 (some 68) (.agg #[.int .i64 (pre ++ x.bytes).length, .int .i64 (runesN (pre ++ x.bytes)), .int .i64 (unitsN (pre ++ x.bytes)), .int .i64 (endsN (pre ++ x.bytes)), .string (bs (headOf (pre ++ x.bytes))), .string (bs (tailOf (pre ++ x.bytes)))]) 61 #[.agg #[.int .i64 pre.length, .int .i64 (runesN pre), .int .i64 (unitsN pre), .int .i64 (endsN pre), .string (bs (headOf pre)), .string (bs (tailOf pre))], .agg #[.int .i64 (x.bytes).length, .int .i64 (runesN (x.bytes)), .int .i64 (unitsN (x.bytes)), .int .i64 (endsN (x.bytes)), .string (bs (headOf (x.bytes))), .string (bs (tailOf (x.bytes)))]] rfl rfl (by kernel_rfl) (by kernel_rfl) (by kernel_rfl) (by kernel_rfl) (fun W hW => by kernel_rfl) (fun W hW => rboth_any pre x.bytes (by omega) _ (hT.bel hW.1 (by omega))) (fun _ _ h k => ⟨bel_ltr h.1 k hNz38, (h.2).later k⟩) ?_
     try simp only [pp]
     refine rm_pick1 (i := 7) (by kernel_rfl) ?_
     have hq_ := hq.later hv38
     clear hq
     have hq := hq_
     clear hq_
     refine rm_store q #[.int .i64 (pre ++ x.bytes).length, .int .i64 (runesN (pre ++ x.bytes)), .int .i64 (unitsN (pre ++ x.bytes)), .int .i64 (endsN (pre ++ x.bytes)), .string (bs (headOf (pre ++ x.bytes))), .string (bs (tailOf (pre ++ x.bytes)))] rfl rfl rfl (by kernel_rfl) rfl rfl (by kernel_rfl) (fun W hlz hW => hq.later hlz) rfl (fun _ _ hX hU => ⟨hU.below hX.1 (by omega), (hX.2).upd hU (by omega)⟩) (by kernel_rfl) fun q40 w40 hq40 hQ40 hU40 hn40 hS40 => ?_
     have hz40 := hU40.size
     have hy40 := hq40.size
     clear hq
     have hq := hn40
     clear hn40
     try simp only [pp]
     refine rm_done (by kernel_rfl) (fun w41 hL41 hS41 => hgo.out _ _ ?_) _
     clear hgo K38
     replace hT := hT.bel (hS41.1) (by omega)
     replace hB := hB.later hL36
     replace hB := hB.bel (hS41.1) (by omega)
     replace hr := hS41.2
     replace hx := hx.later hL36
     replace hx := hx.bel (hS41.1) (by omega)
     replace hy := hy.later hL36
     replace hy := hy.bel (hS41.1) (by omega)
     replace hL0 := hL0.bel (hS41.1) (by omega)
     replace hfk := hfk.bel (hS41.1) (by omega)
     have hz41 := (hS41.1).size
     have hy41 := hL41.size
     refine hKK37 _ _ <| rl_begin fun hgK hgo => tk 69 (.pointer (some ⟨a, 0, none⟩)) <| tk 70 (.pointer (some ⟨a, 0, none⟩)) <| tk 71 (.pointer (some ⟨a, 1, none⟩)) ?_
     simp only [pp]
     refine tx 72 vy (by exact ld 108 a 1 (hfk.cell 1)) <| tk 8 vy ?_
     simp only [pp]
     refine rl_end hgo ?_
     replace hq := hq.later hL41
     exact ⟨_, (by simp only [Tr.h]; omega), fun gj => (#[.pointer (some ⟨b, 0, none⟩), .int .i64 (((k - x.bytes.length : Nat) : Int)), undef, undef, .pointer (some ⟨r, 0, none⟩), u 5, .int .i64 0, .pointer (some ⟨q, 0, none⟩), vy, u 9, u 10, u 11, .pointer (some ⟨a, 0, none⟩), .pointer (some ⟨b, 0, none⟩), .int .i64 n, .int .i64 0, .int .i64 0, .bool false, undef, undef, .agg #[.int .i64 (@List.nil UInt8).length, .int .i64 (runesN (@List.nil UInt8)), .int .i64 (unitsN (@List.nil UInt8)), .int .i64 (endsN (@List.nil UInt8)), .string (bs (headOf (@List.nil UInt8))), .string (bs (tailOf (@List.nil UInt8)))], .pointer (some ⟨b, 0, none⟩), .pointer (some ⟨b, 0, none⟩), .pointer (some ⟨b, 0, none⟩), v, .int .i64 k, .bool true, .iface 111 (.pointer (some ⟨a, 0, none⟩)), .tuple #[.agg #[.pointer none], .bool false], .bool false, .agg #[.pointer none], u 31, u 32, u 33, u 34, u 35, u 36, u 37, u 38, u 39, u 40, .tuple #[.pointer (some ⟨a, 0, none⟩), .bool true], .bool true, .pointer (some ⟨a, 0, none⟩), .int .i64 k, .pointer (some ⟨a, 0, none⟩), .pointer (some ⟨a, 0, none⟩), .pointer (some ⟨a, 0, none⟩), vx, .int .i64 x.bytes.length, .bool false, u 51, u 52, u 53, u 54, .int .i64 k, .pointer (some ⟨a, 0, none⟩), .pointer (some ⟨a, 0, none⟩), .pointer (some ⟨a, 0, none⟩), vx, .int .i64 x.bytes.length, .int .i64 (((k - x.bytes.length : Nat) : Int)), .agg #[.int .i64 pre.length, .int .i64 (runesN pre), .int .i64 (unitsN pre), .int .i64 (endsN pre), .string (bs (headOf pre)), .string (bs (tailOf pre))], .pointer (some ⟨a, 0, none⟩), .pointer (some ⟨a, 0, none⟩), .pointer (some ⟨a, 0, none⟩), vx, .agg #[.int .i64 (x.bytes).length, .int .i64 (runesN (x.bytes)), .int .i64 (unitsN (x.bytes)), .int .i64 (endsN (x.bytes)), .string (bs (headOf (x.bytes))), .string (bs (tailOf (x.bytes)))], .agg #[.int .i64 (pre ++ x.bytes).length, .int .i64 (runesN (pre ++ x.bytes)), .int .i64 (unitsN (pre ++ x.bytes)), .int .i64 (endsN (pre ++ x.bytes)), .string (bs (headOf (pre ++ x.bytes))), .string (bs (tailOf (pre ++ x.bytes)))], .pointer (some ⟨a, 0, none⟩), .pointer (some ⟨a, 0, none⟩), .pointer (some ⟨a, 1, none⟩), vy, undef]).getD gj undef, k - x.bytes.length, y, vy, pre ++ x.bytes, rfl, rfl, by assumption, by assumption, by assumption, by assumption, by assumption, os.2.1, (by omega), (by rw [← hpre, Tr.b_fork, List.take_append, List.take_of_length_le (l := x.bytes) (by omega), List.append_assoc]), (by rw [List.length_append]; omega), by assumption⟩
  ·refine tx 26 (.bool false) (by exact ebf (c := (k : Int) > 0) (by omega)) ?_
   simp only [pp]
   refine rl_end hgo <| hKK15 _ _ <| wp_cond_false (by kernel_rfl) <| wp_exit <| hKK11 _ _ <| wp_seq_k fun KK42 hKK42 => rl_begin fun hgK hgo => ?_
   refine tx 73 (.agg #[.int .i64 pre.length, .int .i64 (runesN pre), .int .i64 (unitsN pre), .int .i64 (endsN pre), .string (bs (headOf pre)), .string (bs (tailOf pre))]) (by exact ldN 36 _ rfl q 0 rfl (fun _ => by kernel_rfl) [] [.int .i64 pre.length, .int .i64 (runesN pre), .int .i64 (unitsN pre), .int .i64 (endsN pre), .string (bs (headOf pre)), .string (bs (tailOf pre))] [] (by kernel_rfl) hq rfl rfl) ?_
   simp only [pp]
   refine rl_store r #[.int .i64 pre.length, .int .i64 (runesN pre), .int .i64 (unitsN pre), .int .i64 (endsN pre), .string (bs (headOf pre)), .string (bs (tailOf pre))] rfl rfl (by kernel_rfl) rfl rfl (by kernel_rfl) hr rfl (by kernel_rfl) fun w43 hU43 hn43 => ?_
   have hz43 := hU43.size
   replace hT := hT.upd hU43 (by omega)
   replace hB := hB.upd hU43 (by omega)
   replace hs := hs.upd hU43 (by omega)
   replace hq := hq.upd hU43 (by omega)
   clear hr
   have hr := hn43
   clear hn43
   try simp only [pp]
   refine tk 5 (.int .i64 0) ?_
   simp only [pp]
   refine rl_end hgo <| hKK42 _ _ ?_
   refine wp_ret ?_
   try simp only [Exit.then, Exit.inBlock]
   refine bp_ret (v := .tuple #[.agg #[.int .i64 pre.length, .int .i64 (runesN pre), .int .i64 (unitsN pre), .int .i64 (endsN pre), .string (bs (headOf pre)), .string (bs (tailOf pre))], .int .i64 0]) (res2 rfl (res_cell (b := r) (cs := [.int .i64 pre.length, .int .i64 (runesN pre), .int .i64 (unitsN pre), .int .i64 (endsN pre), .string (bs (headOf pre)), .string (bs (tailOf pre))]) (by kernel_rfl) (fun _ => by kernel_rfl) (by kernel_rfl) hr) (res_tmp (by kernel_rfl))) ?_
   exact ⟨by rw [← hpre, show k = 0 by omega]; simp [wv], hB⟩
def Fn : Option Nat → Fence
  | none => Fence.wide
  | some l => Fence.wide.inRound l
theorem Fn_fn (r : Option Nat) (f : FuncId) : (Fn r).fn f := by cases r <;> trivial
theorem Fn_round (r : Option Nat) : (Fn r).round = r := by cases r <;> rfl
theorem Fn_depth (r : Option Nat) (n : Nat) : (Fn r).depth.isSome = true → 1 ≤ n := by cases r <;> (intro h; cases h)
theorem Fn_calls {r : Option Nat} {n : Nat} {P : Program} {f : FuncId} {args : Array Value} {w : World} {R : Ending → World → Prop} (h : Calls P f args w R) : CallsIn (Fn r) n P f args w R := by
  cases r with
  | none => exact callsIn_wide.2 h
  | some l => exact CallsIn.inRound l (callsIn_wide.2 h)
theorem semAt_val {r : Option Nat} {ρ : Operand → Value} {o : Oper} {P : Program} {w w' : World} {v : Value} (he : (execOp ρ o).run P w = .ok (.value v) w') : (Oper.semAt r ρ o).run P w = .ok (.value v) w' := by
  cases r with
  | none => exact he
  | some l =>
    by_cases hd : ∃ c, o.op = .defer c
    · obtain ⟨c, ho⟩ := hd
      exfalso
      unfold execOp at he
      simp only [ho, Sem.run_bind] at he
      cases hh : (resolve ρ c o.type).run P w <;> simp [hh, Result.andThen] at he
    · rw [Oper.semAt_eq _ _ _ (fun c hc => hd ⟨c, hc⟩)]; exact he
theorem semAt_skip {r : Option Nat} {ρ : Operand → Value} {o : Oper} {P : Program} {w w' : World} (he : (execOp ρ o).run P w = .ok .skip w') : (Oper.semAt r ρ o).run P w = .ok .skip w' := by
  cases r with
  | none => exact he
  | some l =>
    by_cases hd : ∃ c, o.op = .defer c
    · obtain ⟨c, ho⟩ := hd
      exfalso
      unfold execOp at he
      simp only [ho, Sem.run_bind] at he
      cases hh : (resolve ρ c o.type).run P w <;> simp [hh, Result.andThen] at he
    · rw [Oper.semAt_eq _ _ _ (fun c hc => hd ⟨c, hc⟩)]; exact he
theorem semAt_enter {r : Option Nat} {ρ : Operand → Value} {o : Oper} {P : Program} {w w' : World} {f : FuncId} {args : Array Value} (he : (execOp ρ o).run P w = .ok (.enter f args) w') : (Oper.semAt r ρ o).run P w = .ok (.enter f args) w' := by
  cases r with
  | none => exact he
  | some l =>
    by_cases hd : ∃ c, o.op = .defer c
    · obtain ⟨c, ho⟩ := hd
      exfalso
      unfold execOp at he
      simp only [ho, Sem.run_bind] at he
      cases hh : (resolve ρ c o.type).run P w <;> simp [hh, Result.andThen] at he
    · rw [Oper.semAt_eq _ _ _ (fun c hc => hd ⟨c, hc⟩)]; exact he
section
variable {P : Program} {ops : Array Oper} {r : Option Nat} {Q : Exit → Act → World → Prop} {K : Act → World → Prop}
def wpJ (r : Option Nat) (P : Program) (ops : Array Oper) (K : Act → World → Prop) : List Oper → Act → World → Prop
  | [], a, w => K a w
  | o :: rest, a, w => if Region.wanted o (yielded ops a.tmps) then o.wpIn (Fn r) 0 P a w (wpJ r P ops K rest) (Ko K) else wpJ r P ops K rest (a.put o.dst undef) w
theorem wpJ_list : ∀ (l : List Oper) (a : Act) (w : World), wpJ r P ops K l a w → wpListIn (Fn r) 0 P ops (Ko K) l a w
  | [], _, _, h => Ko.ok h
  | o :: rest, a, w, h => by
    unfold wpJ at h
    unfold wpListIn
    split
    · rename_i hw; rw [if_pos hw] at h; exact Oper.wpIn_mono (wpJ_list rest) h
    · rename_i hw; rw [if_neg hw] at h; exact ⟨fun f _ => Fn_fn r f, wpJ_list rest _ _ h⟩
theorem rj_begin {id : Nat} {l : List Oper} {a : Act} {w : World} (h : ∀ K : Act → World → Prop, RowKit.Hid (∀ a w, Q .normal a w → K a w) → wpJ r P l.toArray K l a w) : (Code.region id l.toArray false).wpIn (Fn r) 0 P Q a w := by
  have h1 := h (fun a w => Q .normal a w) (Lib.hid fun _ _ h => h)
  exact wpIn_mono (wpIn_region_lit (wpJ_list _ _ _ h1)) (fun e a w h => by obtain ⟨rfl, h⟩ := h; exact h)
section
variable {o : Oper} {rest : List Oper} {a : Act} {w : World}
theorem rj_nil (h : K a w) : wpJ r P ops K [] a w := h
theorem wpIn_val {v : Value} {w' : World} {K' : Act → World → Prop} (he : (execOp a.eval o).run P w = .ok (.value v) w') (h : K' (a.put o.dst v) w') : o.wpIn (Fn r) 0 P a w K' (Ko K) := by
  unfold Oper.wpIn
  refine ⟨fun f _ => Fn_fn r f, ?_⟩
  rw [Fn_round, semAt_val he, Oper.uponIn_value]; exact h
theorem wpIn_skp {w' : World} {K' : Act → World → Prop} (he : (execOp a.eval o).run P w = .ok .skip w') (h : K' (a.put o.dst undef) w') : o.wpIn (Fn r) 0 P a w K' (Ko K) := by
  unfold Oper.wpIn
  refine ⟨fun f _ => Fn_fn r f, ?_⟩
  rw [Fn_round, semAt_skip he, Oper.uponIn_skip]; exact h
theorem rj_take (d : Option Tmp) (v : Value) (hd : o.dst = d) (hw : Region.wanted o (yielded ops a.tmps) = true) (he : (execOp a.eval o).run P w = .ok (.value v) w) (h : wpJ r P ops K rest (a.put d v) w) : wpJ r P ops K (o :: rest) a w := by
  unfold wpJ; rw [if_pos hw]; exact wpIn_val he (hd ▸ h)
theorem rj_end (hgo : RowKit.Hid (∀ a w, Q .normal a w → K a w)) (h : Q .normal a w) : wpJ r P ops K [] a w := hgo.out _ _ h
theorem sx (t : Tmp) (v : Value) (he : (execOp a.eval o).run P w = .ok (.value v) w) (h : wpJ r P ops K rest (a.put (some t) v) w) (hd : o.dst = some t := by rfl) (hw : Region.wanted o (yielded ops a.tmps) = true := by kernel_rfl) : wpJ r P ops K (o :: rest) a w := rj_take _ _ hd hw he h
theorem sk (t : Tmp) (v : Value) (h : wpJ r P ops K rest (a.put (some t) v) w) (hd : o.dst = some t := by rfl) (hw : Region.wanted o (yielded ops a.tmps) = true := by kernel_rfl) (he : (execOp a.eval o).run P w = .ok (.value v) w := by kernel_rfl) : wpJ r P ops K (o :: rest) a w := rj_take _ _ hd hw he h
theorem rj_pass (d : Option Tmp) (hd : o.dst = d) (hw : Region.wanted o (yielded ops a.tmps) = false) (h : wpJ r P ops K rest (a.put d undef) w) : wpJ r P ops K (o :: rest) a w := by
  unfold wpJ; rw [if_neg (by rw [hw]; simp)]; exact hd ▸ h
theorem rj_call (d : Option Tmp) (f : FuncId) (args : Array Value) {R : Ending → World → Prop} (hd : o.dst = d) (hw : Region.wanted o (yielded ops a.tmps) = true) (he : (execOp a.eval o).run P w = .ok (.enter f args) w)
    (hc : Calls P f args w R) (h : ∀ e w', R e w' → ∃ v, e = .returned v ∧ wpJ r P ops K rest (a.put d v) w') : wpJ r P ops K (o :: rest) a w := by
  unfold wpJ; rw [if_pos hw]
  unfold Oper.wpIn
  refine ⟨fun f _ => Fn_fn r f, ?_⟩
  rw [Fn_round, semAt_enter he, Oper.uponIn_enter]
  refine ⟨Fn_depth r 0, (Fn_calls hc).mono fun e w' he => ?_⟩
  obtain ⟨v, rfl, hv⟩ := h e w' he
  exact hd ▸ hv
/-- a call of yield -/
theorem rj_yield (d : Option Tmp) (l : Nat) (args : Array Value) {R : Ending → World → Prop} (hd : o.dst = d) (hw : Region.wanted o (yielded ops a.tmps) = true) (he : (execOp a.eval o).run P w = (Instr.yield l args).run P w)
    (hy : YieldAt Fence.wide 0 P l args w R) (h : ∀ e w', R e w' → ∃ v, e = .returned v ∧ wpJ none P ops K rest (a.put d v) w') : wpJ none P ops K (o :: rest) a w := by
  unfold wpJ; rw [if_pos hw]
  unfold Oper.wpIn
  refine ⟨fun f _ => Fn_fn none f, ?_⟩
  obtain ⟨fn, tmps, assign, body, hr, hR⟩ := hy
  rw [Fn_round, Oper.semAt_none, he, hr, Oper.uponIn_round]
  refine ⟨Fn_depth none 0, hR.mono fun e w' he => ?_⟩
  obtain ⟨v, rfl, hv⟩ := h e w' he
  exact hd ▸ hv
theorem rj_alloc (d : Option Tmp) (t : TypeId) (cells : Array Value) (hd : o.dst = d) (hw : Region.wanted o (yielded ops a.tmps) = true)
    (he : ∀ w', (execOp a.eval o).run P w' = .ok (.value (.pointer (some ⟨w'.heap.size, 0, none⟩))) (w'.alloc (.cells cells t)))
    (h : ∀ p w', Ltr w w' → w.heap.size ≤ p → Blk w' p t cells → wpJ r P ops K rest (a.put d (.pointer (some ⟨p, 0, none⟩))) w') : wpJ r P ops K (o :: rest) a w := by
  unfold wpJ; rw [if_pos hw]
  exact wpIn_val (he w) (hd ▸ h _ _ (bl_alloc (bl_refl _)) (Nat.le_refl _) (Blk.new _ _ _ rfl))
theorem rj_bslice (d : Option Tmp) (t : TypeId) (cells : Array Value) (n : Nat) (hd : o.dst = d) (hw : Region.wanted o (yielded ops a.tmps) = true)
    (he : ∀ w', (execOp a.eval o).run P w' = .ok (.value (.slice (some ⟨w'.heap.size, 0, none⟩) n n)) (w'.alloc (.cells cells t)))
    (h : ∀ p w', Ltr w w' → w.heap.size ≤ p → Blk w' p t cells → wpJ r P ops K rest (a.put d (.slice (some ⟨p, 0, none⟩) n n)) w') : wpJ r P ops K (o :: rest) a w := by
  unfold wpJ; rw [if_pos hw]
  exact wpIn_val (he w) (hd ▸ h _ _ (bl_alloc (bl_refl _)) (Nat.le_refl _) (Blk.new _ _ _ rfl))
theorem rj_new (d : Option Tmp) {R : Value → World → Prop} (hd : o.dst = d) (hw : Region.wanted o (yielded ops a.tmps) = true) (he : ∃ v w', (execOp a.eval o).run P w = .ok (.value v) w' ∧ R v w')
    (h : ∀ v w', R v w' → wpJ r P ops K rest (a.put d v) w') : wpJ r P ops K (o :: rest) a w := by
  unfold wpJ; rw [if_pos hw]
  obtain ⟨v, w', hr, hR⟩ := he
  exact wpIn_val hr (hd ▸ h v w' hR)
theorem run_storeR {g : Nat} {cells : Array Value} {ty : TypeId} {x y : Operand} {t : TypeId} {old : Array Value} {ρ : Operand → Value} (ho : o.op = .store ty x y)
    (hx : ρ x = .pointer (some ⟨g, 0, none⟩)) (hy : ρ y = .agg cells) (hn : (P.info? ty).map (·.size) = some cells.size) (hg : Blk w g t old) (hold : old.size = cells.size) (h1 : cells.all (·.oneCell') = true) :
    (execOp ρ o).run P w = .ok .skip (w.setRow g cells) := by
  unfold execOp
  simp only [ho, hx, hy, Instr.storeAt, Instr.sureAddr, Sem.run_bind, Sem.run_pure, Result.andThen_ok, run_storeVar_row w g t ty old cells hg hn hold h1]
theorem rj_store (g : Nat) (cells : Array Value) {ty : TypeId} {x y : Operand} {t : TypeId} {old : Array Value} (hd : o.dst = none) (ho : o.op = .store ty x y) (hw : Region.wanted o (yielded ops a.tmps) = true)
    (hx : a.eval x = .pointer (some ⟨g, 0, none⟩)) (hy : a.eval y = .agg cells) (hn : (P.info? ty).map (·.size) = some cells.size) (hg : Blk w g t old) (hold : old.size = cells.size) (h1 : cells.all (·.oneCell') = true)
    (h : ∀ w', Upd g w w' → Blk w' g t cells → wpJ r P ops K rest (a.put none undef) w') : wpJ r P ops K (o :: rest) a w := by
  unfold wpJ; rw [if_pos hw]
  exact wpIn_skp (run_storeR ho hx hy hn hg hold h1) (hd ▸ h _ (setRow_upd _ _ _) (setRow_blk _ hg))
theorem rj_store1 (g : Nat) (v : Value) {ty : TypeId} {x y : Operand} {t : TypeId} {old : Value} (hd : o.dst = none) (ho : o.op = .store ty x y) (hw : Region.wanted o (yielded ops a.tmps) = true)
    (hx : a.eval x = .pointer (some ⟨g, 0, none⟩)) (hy : a.eval y = v) (hn : (P.info? ty).map (·.size) = some 1) (hg : Blk w g t #[old]) (h1 : v.oneCell' = true)
    (h : ∀ w', Upd g w w' → Blk w' g t #[v] → wpJ r P ops K rest (a.put none undef) w') : wpJ r P ops K (o :: rest) a w := by
  unfold wpJ; rw [if_pos hw]
  exact wpIn_skp (run_store1 ty x y ho g v hx hy hn h1 hg) (hd ▸ h _ (setRow_upd _ _ _) (setRow_blk _ hg))
end
end
theorem rj_append {ops : Array Oper} {r : Option Nat} {K : Act → World → Prop} {o : Oper} {rest : List Oper} {a : Act} {w : World} (d : Option Tmp) {n : Nat} {E t : TypeId} {bytes : Nat} {z : Value} {s x : Operand} {v : Value} {xs ys : List Value} {A : Option Addr} {c : Nat}
    (hd : o.dst = d) (hw : Region.wanted o (yielded ops a.tmps) = true) (ho : o.op = .call { callee := .builtin .append, args := #[s, x], argTypes := #[t, t] }) (hs : a.eval s = v) (hx : a.eval x = .slice A ys.length c)
    (ht : Tryd.prog.underlying t = some (.slice E)) (hi : (Tryd.prog.info? E).map (fun i => (i.zero, i.size, i.bytes)) = some (some z, 1, bytes)) (hz : z.cells.size = 1)
    (hown : Own n E w v xs) (hA : CellsAt w A ys) (hc0 : A = none → c = 0) (h1 : ∀ u ∈ ys, u.oneCell' = true) (hb : (xs.length + ys.length) * bytes ≤ 140737488355328) (hm : xs.length + ys.length ≤ 140737488355328)
    (h : ∀ v' w', Own n E w' v' (xs ++ ys) → w.grownBy w' v.ownBlock → (v'.ownBlock = v.ownBlock ∨ v'.ownBlock = some w.heap.size) → wpJ r Tryd.prog ops K rest (a.put d v') w') : wpJ r Tryd.prog ops K (o :: rest) a w := by
  obtain ⟨v', w', hr, h2, h3, h4⟩ := ap_own (ty := o.type) ht hi hz hown hA hc0 h1 hb hm
  have he : (execOp a.eval o).run Tryd.prog w = .ok (.value v') w' := by
    unfold execOp
    simp only [ho, resolve, invoke, builtin, Sem.run_bind, Sem.run_pure, Result.andThen_ok, List.map_toArray, List.map_cons, List.map_nil, hs, hx, hr]
  unfold wpJ; rw [if_pos hw]
  exact wpIn_val he (hd ▸ h v' w' h2 h3 h4)
attribute [irreducible] wpJ Fn

/-! ### a range over a function -/
/-- an iterator that hands over values with their memory: g its code, lb its boxes; what lies below n₀ must lie on -/
def SeqP {α : Type} (P : Program) (g : Nat) (lb : Array Value) (enc : α → Value) (n₀ : Nat) (Px : α → World → Prop) (Ok S : List α → Prop) (w : World) : Prop :=
  ∀ (l : Nat) (J Jx : List α → World → Prop) (W : World), Ltr w W → (∀ s A B, J s A → Ltr A B → J s B) → (∀ s A B, Jx s A → Ltr A B → Jx s B) →
    (∀ pre x W1, J pre W1 → Px x W1 → Ok (pre ++ [x]) → YieldAt Fence.wide 0 P l #[enc x] W1 fun e W' =>
      (e = .returned (.bool true) ∧ J (pre ++ [x]) W' ∧ Bel n₀ W1 W') ∨ (e = .returned (.bool false) ∧ Jx (pre ++ [x]) W')) →
    n₀ ≤ W.heap.size → J [] W →
    Calls P g (#[.func (.yield l) #[] #[]] ++ lb) W fun e W' => (∃ v, e = .returned v) ∧ ((∃ xs, S xs ∧ J xs W') ∨ (∃ pre, Ok pre ∧ Jx pre W'))
def NC (B : Nat) (w : World) : Prop := ∃ o : Obj, w.heap[B]? = some o ∧ o.isCells = false
/-- the two blocks that the statement itself has laid, at B, lie as they lay -/
structure Two (B : Nat) (W w : World) : Prop where
  size : B + 2 ≤ w.heap.size
  a : w.heap[B]? = W.heap[B]?
  b : w.heap[B + 1]? = W.heap[B + 1]?
  na : NC B w
  nb : NC (B + 1) w
theorem NC.of_eq {B : Nat} {w w' : World} (h : NC B w) (e : w'.heap[B]? = w.heap[B]?) : NC B w' := by obtain ⟨o, h1, h2⟩ := h; exact ⟨o, e.trans h1, h2⟩
theorem Two.step {B : Nat} {W w w' : World} (h : Two B W w) (hs : w.heap.size ≤ w'.heap.size) (h1 : w'.heap[B]? = w.heap[B]?) (h2 : w'.heap[B + 1]? = w.heap[B + 1]?) : Two B W w' :=
  ⟨Nat.le_trans h.size hs, h1.trans h.a, h2.trans h.b, h.na.of_eq h1, h.nb.of_eq h2⟩
theorem Two.later {B : Nat} {W w w' : World} (h : Two B W w) (hl : Ltr w w') : Two B W w' := h.step hl.size (hl.block B (by have := h.size; omega)) (hl.block (B + 1) (by have := h.size; omega))
theorem Two.upd {B g : Nat} {W w w' : World} (h : Two B W w) (hu : Upd g w w') (hg : g < B ∨ B + 1 < g) : Two B W w' := h.step (by rw [hu.size]; exact Nat.le_refl _) (hu.block B (by omega)) (hu.block (B + 1) (by omega))
theorem Two.gr {B : Nat} {W w w' : World} {r : Option Nat} (h : Two B W w) (hg : w.grownBy w' r) (hr : ∀ k, r = some k → k ≠ B ∧ k ≠ B + 1) : Two B W w' :=
  h.step hg.size (hg.block B (by have := h.size; omega) (fun e => (hr B e.symm).1 rfl)) (hg.block (B + 1) (by have := h.size; omega) (fun e => (hr _ e.symm).2 rfl))
theorem Two.row {B n : Nat} {W w : World} {E : TypeId} {v : Value} {xs : List Value} (h : Two B W w) (ho : Own n E w v xs) : ∀ k, v.ownBlock = some k → k ≠ B ∧ k ≠ B + 1 := fun k hk => by
  have key : ∀ C, NC C w → k ≠ C := fun C hC e => by
    subst e
    obtain ⟨o, h1, h2⟩ := hC
    rcases ho.2.2 with ⟨rfl, _⟩ | ⟨g, cap, cur, rfl, _, hgb, _⟩
    · simp [Value.ownBlock] at hk
    · obtain rfl : g = k := by simpa [Value.ownBlock] using hk
      rw [hgb] at h1; cases h1; cases h2
  exact ⟨key _ h.na, key _ h.nb⟩
def bodyP {α : Type} (n₀ B : Nat) (I : List α → World → Prop) (Ix : Code → List α → World → Prop) (xs : List α) (W : World) : Exit → Act → World → Prop
  | .normal, _, W' => Two B W W' ∧ Bel n₀ W W' ∧ I xs W'
  | .ret, _, W' => Two B W W' ∧ Ix .ret xs W'
  | .exit id, _, W' => Two B W W' ∧ Ix (.exit id) xs W'
  | .goto t, _, W' => Two B W W' ∧ Ix (.goto t) xs W'
  | .panic _, _, _ => False
  | .outgrown, _, _ => False
theorem ofl {β : Type} {B : Nat} {I : β → World → Prop} (h : OwnFrom B I) {s : β} {A C : World} (hs : I s A) (hl : Ltr A C) : I s C := h s A C none hs hl.grown (fun r e => by cases e)
theorem putObj_bel {n₀ : Nat} {W : World} {l : Nat} {o' : Obj} (h : n₀ ≤ W.heap.size) (hl : n₀ ≤ l) : Bel n₀ W (W.putObj l o') :=
  ⟨h, Below.grown (Below.refl _ _) (grownBy_putObj' W l o') h (fun k e => by cases e; exact hl)⟩
set_option maxHeartbeats 1000000 in
theorem range_p {α : Type} {P : Program} {g : Operand} {p : Tmp} {assign body : Code} {Q : Exit → Act → World → Prop} {a : Act} {w : World}
    {gf : Nat} {lb : Array Value} (hg : a.eval g = .func (.func gf) #[] lb) (eg : ∀ args w, (callFunc gf args).run P w = .ok (.enter gf args) w)
    {enc : α → Value} {n₀ : Nat} {Px : α → World → Prop} {Ok S : List α → Prop} (hseq : SeqP P gf lb enc n₀ Px Ok S w) (hn₀ : n₀ ≤ w.heap.size)
    (I : List α → World → Prop) (Ix : Code → List α → World → Prop) (hI : OwnFrom w.heap.size I) (hIx : ∀ c, OwnFrom w.heap.size (Ix c)) (h0 : I [] w)
    (Ax : α → Act → World → Prop) (hAx : ∀ x a', OwnFrom w.heap.size (fun (_ : Unit) W => Ax x a' W))
    (hassign : ∀ (l : Nat) (pre : List α) (x : α) (W : World), w.heap.size + 2 ≤ W.heap.size → I pre W → Px x W → Ok (pre ++ [x]) →
      assign.wpIn (Fn (some l)) 0 P (Exit.then (fun a' W' => Ltr W W' ∧ Ax x a' W') (fun _ _ _ => False)) { tmps := a.tmps.setIfInBounds p (enc x), defers := [] } W)
    (hbody : ∀ (l : Nat) (pre : List α) (x : α) (a' : Act) (W : World), Two w.heap.size W W → I pre W → Ax x a' W → Ok (pre ++ [x]) →
      body.wpIn (Fn (some l)) 0 P (bodyP n₀ w.heap.size I Ix (pre ++ [x]) W) a' W)
    (hdone : ∀ (xs : List α) (W : World), w.heap.size + 2 ≤ W.heap.size → S xs → I xs W → W.heap[w.heap.size]? = some (.deferred (some [])) → Q .normal { a with defers := { target := .collected w.heap.size, args := #[] } :: a.defers } W)
    (hstop : ∀ (c : Code) (pre : List α) (W : World), w.heap.size + 2 ≤ W.heap.size → Ok pre → Ix c pre W → W.heap[w.heap.size]? = some (.deferred (some [])) → c.wp P Q { a with defers := { target := .collected w.heap.size, args := #[] } :: a.defers } W) :
    (Code.rangeFunc g #[p] assign body).wp P Q a w := by
  refine (wpIn_wide (n := 0)).1 (wpIn_rangeFunc ?_)
  intro fn hfn
  obtain ⟨rec, hrec⟩ : ∃ rec : LoopState → Option Code → Loop, rec = fun st pe => { state := st, pending := pe, fn, tmps := a.tmps, params := #[p], assign, body, defers := w.heap.size } := ⟨_, rfl⟩
  obtain ⟨W1, hW1⟩ : ∃ W1, (w.alloc (.deferred (some []))).alloc (.loop (rec .ready none)) = W1 := ⟨_, rfl⟩
  have hL1 : W1.heap[w.heap.size + 1]? = some (.loop (rec .ready none)) := by
    rw [← hW1]; have := World.alloc_heap_new (w.alloc (.deferred (some []))) (.loop (rec .ready none)); rwa [World.size_alloc] at this
  have hK1 : W1.heap[w.heap.size]? = some (.deferred (some [])) := by
    rw [← hW1]; exact (Below.heap_alloc _ _ _ (by simp)).trans (World.alloc_heap_new w _)
  have hb1 : Ltr w W1 := by rw [← hW1]; exact bl_alloc (bl_alloc (bl_refl _))
  have hI1 : I [] W1 := ofl hI h0 hb1
  refine ⟨w.heap.size + 1, [{ target := .collected w.heap.size, args := #[] }], W1, { target := .fn (.func gf) lb, args := #[.func (.yield (w.heap.size + 1)) #[] #[]] }, W1, gf,
    #[.func (.yield (w.heap.size + 1)) #[] #[]] ++ lb, W1, ?_, ?_, ?_, ?_, (fun h => by cases h), ?_⟩
  · rw [← hW1, hrec]; exact run_enterLoop_outer _ _ _ _ _
  · simp only [resolve, hg]
    simp [go_sem]
  · intro f' hf'; trivial
  · simp [invoke, go_sem, eg]
  · have hz1 : w.heap.size + 2 ≤ W1.heap.size := by have := (Array.getElem?_eq_some_iff.1 hL1).1; omega
    refine (callsIn_wide.2 (hseq (w.heap.size + 1)
      (fun pre W => I pre W ∧ w.heap.size + 2 ≤ W.heap.size ∧ W.heap[w.heap.size + 1]? = some (.loop (rec .ready none)) ∧ W.heap[w.heap.size]? = some (.deferred (some [])))
      (fun pre W => ∃ c, Ix c pre W ∧ w.heap.size + 2 ≤ W.heap.size ∧ W.heap[w.heap.size + 1]? = some (.loop (rec .done (some c))) ∧ W.heap[w.heap.size]? = some (.deferred (some [])))
      W1 hb1 (fun s A B hs hl => ⟨ofl hI hs.1 hl, Nat.le_trans hs.2.1 hl.size, (hl.block _ (by have := hs.2.1; omega)).trans hs.2.2.1, (hl.block _ (by have := hs.2.1; omega)).trans hs.2.2.2⟩)
      (fun s A B hs hl => by
        obtain ⟨c, h1, h2, h3, h4⟩ := hs
        exact ⟨c, ofl (hIx c) h1 hl, Nat.le_trans h2 hl.size, (hl.block _ (by omega)).trans h3, (hl.block _ (by omega)).trans h4⟩)
      ?_ (Nat.le_trans hn₀ hb1.size) ⟨hI1, hz1, hL1, hK1⟩)).mono ?_
    · -- one round
      rintro pre x W ⟨hi, hz, hl, hk⟩ hpx hok
      have hlt : w.heap.size + 1 < W.heap.size := by omega
      have hy := run_yield (P := P) (args := #[enc x]) hl (by rw [hrec]; rfl)
      rw [hrec] at hy
      refine ⟨fn, _, assign, body, hy, roundIn_of_wpIn hfn ?_⟩
      clear hy
      have has := hassign (w.heap.size + 1) pre x W hz hi hpx hok
      rw [show Fn (some (w.heap.size + 1)) = Fence.wide.inRound (w.heap.size + 1) by unfold Fn; rfl] at has
      have hzp : ({ tmps := (#[p].zip #[enc x]).foldl (fun tmps (t, a) => tmps.setIfInBounds t a) a.tmps, defers := [] } : Act) = { tmps := a.tmps.setIfInBounds p (enc x), defers := [] } := by
        simp [Array.zip, Array.zipWith, Array.zipWithMAux]
      rw [← hzp] at has
      refine wpIn_mono has ?_
      rintro e a' Wa hp
      cases e with
      | ret => exact hp.elim
      | exit id => exact hp.elim
      | goto t => exact hp.elim
      | panic ch => exact hp.elim
      | outgrown => exact hp.elim
      | normal =>
      obtain ⟨hla, hax⟩ := hp
      have hia := ofl hI hi hla
      replace hl := (hla.block _ hlt).trans hl
      replace hk := (hla.block _ (by omega)).trans hk
      have hza := Nat.le_trans hz hla.size
      have hbla : Bel n₀ W Wa := Bel.later (Bel.refl _ _ (by omega)) hla
      clear hz hi hlt hpx
      refine ⟨_, run_beginRound hl (by rw [hrec]), ?_⟩
      have hlt : w.heap.size + 1 < Wa.heap.size := by omega
      obtain ⟨Wb, hWb⟩ : ∃ Wb, Wb = Wa.putObj (w.heap.size + 1) (.loop { rec .ready none with state := .busy }) := ⟨_, rfl⟩
      have hl2 : Wb.heap[w.heap.size + 1]? = some (.loop { rec .ready none with state := .busy }) := by rw [hWb]; exact World.putObj_heap_same hlt
      have hk2 : Wb.heap[w.heap.size]? = some (.deferred (some [])) := by rw [hWb]; exact (World.putObj_heap_other (by omega)).trans hk
      have hw2 : Bel n₀ Wa Wb := by rw [hWb]; exact putObj_bel (by omega) (by omega)
      have hi2 : I pre Wb := by rw [hWb]; exact hI.putObj _ hia (by omega) hl rfl
      have hx2 : Ax x a' Wb := by rw [hWb]; exact (hAx x a').putObj (s := ()) _ hax (by omega) hl rfl
      have hz2 : w.heap.size + 2 ≤ Wb.heap.size := by rw [hWb]; simpa using hza
      rw [← hWb]
      clear hWb hia hax hl hk
      have hbo := hbody (w.heap.size + 1) pre x a' Wb ⟨hz2, rfl, rfl, ⟨_, hk2, rfl⟩, ⟨_, hl2, rfl⟩⟩ hi2 hx2 hok
      rw [show Fn (some (w.heap.size + 1)) = Fence.wide.inRound (w.heap.size + 1) by unfold Fn; rfl] at hbo
      refine wpIn_mono hbo ?_
      have fin : ∀ (jump : Option Code) (W3 : World), Two w.heap.size Wb W3 →
          (Instr.endRound (w.heap.size + 1) jump).run P W3 = .ok (.bool jump.isNone) (W3.putObj (w.heap.size + 1) (.loop (rec (if jump.isNone then .ready else .done) jump))) ∧
          W3.heap[w.heap.size + 1]? = some (.loop { rec .ready none with state := .busy }) ∧
          (W3.putObj (w.heap.size + 1) (.loop (rec (if jump.isNone then .ready else .done) jump))).heap[w.heap.size + 1]? = some (.loop (rec (if jump.isNone then .ready else .done) jump)) ∧
          (W3.putObj (w.heap.size + 1) (.loop (rec (if jump.isNone then .ready else .done) jump))).heap[w.heap.size]? = some (.deferred (some [])) ∧
          w.heap.size + 2 ≤ (W3.putObj (w.heap.size + 1) (.loop (rec (if jump.isNone then .ready else .done) jump))).heap.size := fun jump W3 hk3 => by
        have hl3 := hk3.b.trans hl2
        have := run_endRound (P := P) jump hl3
        rw [hrec] at this ⊢
        exact ⟨this, by rw [hrec] at hl3; exact hl3, World.putObj_heap_same (by have := hk3.size; omega), (World.putObj_heap_other (by omega)).trans (hk3.a.trans hk2), by have := hk3.size; simpa using this⟩
      rintro e a3 W3 hp
      cases e with
      | normal =>
        obtain ⟨hk3, hkp3, hi3⟩ := hp
        obtain ⟨hr, hl3, hl4, hk4, hz4⟩ := fin none W3 hk3
        exact ⟨_, _, hr, .inl ⟨rfl, ⟨hI.putObj _ hi3 (by omega) hl3 rfl, hz4, hl4, hk4⟩, hbla.1, (hbla.2.trans hw2.2).trans (hkp3.2.trans (putObj_bel (by have := hk3.size; omega) (by omega)).2)⟩⟩
      | ret =>
        obtain ⟨hk3, hi3⟩ := hp
        obtain ⟨hr, hl3, hl4, hk4, hz4⟩ := fin (some .ret) W3 hk3
        exact ⟨_, _, hr, .inr ⟨rfl, .ret, (hIx _).putObj _ hi3 (by omega) hl3 rfl, hz4, hl4, hk4⟩⟩
      | exit id =>
        obtain ⟨hk3, hi3⟩ := hp
        obtain ⟨hr, hl3, hl4, hk4, hz4⟩ := fin (some (.exit id)) W3 hk3
        exact ⟨_, _, hr, .inr ⟨rfl, .exit id, (hIx _).putObj _ hi3 (by omega) hl3 rfl, hz4, hl4, hk4⟩⟩
      | goto t =>
        obtain ⟨hk3, hi3⟩ := hp
        obtain ⟨hr, hl3, hl4, hk4, hz4⟩ := fin (some (.goto t)) W3 hk3
        exact ⟨_, _, hr, .inr ⟨rfl, .goto t, (hIx _).putObj _ hi3 (by omega) hl3 rfl, hz4, hl4, hk4⟩⟩
      | panic ch => exact hp.elim
      | outgrown => exact hp.elim
    · rintro e W2 ⟨⟨v, rfl⟩, (⟨xs, hS, hi, hz, hl, hk⟩ | ⟨pre, hSp, c, hi, hz, hl, hk⟩)⟩
      · exact ⟨none, _, by have := run_endLoop (P := P) hl (by rw [hrec]; simp); rw [hrec] at this; exact this, hdone xs _ (by simpa using hz) hS (hI.putObj _ hi (by omega) hl rfl) ((World.putObj_heap_other (by omega)).trans hk)⟩
      · exact ⟨some c, _, by have := run_endLoop (P := P) hl (by rw [hrec]; simp); rw [hrec] at this; exact this, (wpIn_wide (n := 0)).2 (hstop c pre _ (by simpa using hz) hSp ((hIx c).putObj _ hi (by omega) hl rfl) ((World.putObj_heap_other (by omega)).trans hk))⟩
/-- bytes in a block at or above n, which may be written -/
def BRow (n : Nat) (w : World) (A : Option Addr) (c : Nat) (l : List UInt8) : Prop :=
  n ≤ w.heap.size ∧ l.length ≤ c ∧ ∃ g off, A = some ⟨g, off, none⟩ ∧ n ≤ g ∧ g < w.heap.size ∧ ∀ i, i < l.length → w.cell? ⟨g, off + i, none⟩ = some (.int .u8 (gb l i)) ∧ w.frozen? ⟨g, off + i, none⟩ = false
theorem BRow.later {n : Nat} {w w' : World} {A : Option Addr} {c : Nat} {l : List UInt8} (h : BRow n w A c l) (hl : Ltr w w') : BRow n w' A c l := by
  obtain ⟨h1, h2, g, off, e, h3, h4, h5⟩ := h
  have hz := hl.size
  exact ⟨Nat.le_trans h1 hz, h2, g, off, e, h3, by omega, fun i hi => ⟨bl_cell hl (h5 i hi).1, (hl.frozen (p := ⟨g, off + i, none⟩) h4).trans (h5 i hi).2⟩⟩
theorem BRow.bytes {n : Nat} {w : World} {A : Option Addr} {c : Nat} {l : List UInt8} (h : BRow n w A c l) : BytesAt w A l := by
  obtain ⟨h1, h2, g, off, e, h3, h4, h5⟩ := h
  exact fun _ => ⟨g, off, e, fun i hi => (h5 i hi).1⟩
theorem BRow.mono {n m : Nat} {w : World} {A : Option Addr} {c : Nat} {l : List UInt8} (h : BRow n w A c l) (hm : m ≤ n) : BRow m w A c l := by
  obtain ⟨h1, h2, g, off, e, h3, h4, h5⟩ := h
  exact ⟨by omega, h2, g, off, e, by omega, h4, h5⟩
theorem gb_cut (l : List UInt8) (lo hi i : Nat) (h : i < ((l.take hi).drop lo).length) : gb ((l.take hi).drop lo) i = gb l (lo + i) := by
  rw [List.length_drop, List.length_take] at h
  unfold gb
  rw [List.getD_eq_getElem?_getD, List.getD_eq_getElem?_getD, List.getElem?_drop, List.getElem?_take, if_pos (by omega)]
theorem BRow.cut {n : Nat} {w : World} {A : Option Addr} {c : Nat} {l : List UInt8} (h : BRow n w A c l) (lo hi d : Nat) (h1 : lo ≤ hi) (h2 : hi ≤ l.length) (hd : hi - lo ≤ d) : BRow n w (cutA A c lo) d ((l.take hi).drop lo) := by
  obtain ⟨k1, k2, g, off, rfl, h3, h4, h5⟩ := h
  have hlen : ((l.take hi).drop lo).length = hi - lo := by rw [List.length_drop, List.length_take]; omega
  by_cases hc : c = lo
  · refine ⟨k1, by omega, g, off, ?_, h3, h4, fun i hi' => by omega⟩
    unfold cutA; rw [if_pos hc]
  · refine ⟨k1, by omega, g, off + lo, ?_, h3, h4, fun i hi' => ?_⟩
    · unfold cutA; rw [if_neg hc]; simp [add_none]
    · rw [gb_cut l lo hi i hi', Nat.add_assoc]; exact h5 (lo + i) (by omega)
theorem ex_conv_own {o : Oper} {ρ : Operand → Value} (x : Operand) (ho : o.op = .convert 9 41 x) (l : List UInt8) (hx : ρ x = .string (bs l)) (w : World) :
    ∃ v w', (execOp ρ o).run Tryd.prog w = .ok (.value v) w' ∧ ∃ A c, v = .slice A l.length c ∧ Ltr w w' ∧ BRow w.heap.size w' A c l := by
  refine ⟨_, Lib.bytesWorld w 5 (bs l), ?_, some ⟨w.heap.size, 0, none⟩, grownCap w l.length 0 5, rfl, ?_, ?_⟩
  · unfold execOp
    simp only [ho, hx, Sem.run_bind, conv_to w l, Result.andThen_ok]
    rfl
  · exact bl_bytes (bl_refl _)
  · refine ⟨by rw [Lib.bytesWorld_size]; omega, grownCap_ge _ _ _ _, w.heap.size, 0, rfl, Nat.le_refl _, by rw [Lib.bytesWorld_size]; omega, fun i hi => ?_⟩
    have hi' : i < (bs l).size := by rw [bs_size]; exact hi
    have := Lib.bytesWorld_cell w 5 (bs l) i hi'
    refine ⟨by rw [Nat.zero_add, this, bs_toList]; rfl, ?_⟩
    have hsz : i < (Lib.bytesCells w 5 (bs l)).size := by
      have h1 := World.block_lt_of_cell? _ _ this
      simp only [Lib.bytesCells, Array.size_append, Array.size_map, List.size_toArray, List.length_map, Array.length_toList] at *
      show i < _ + _
      have : (bs l).data.size = (bs l).size := rfl
      omega
    simp only [World.frozen?, Lib.bytesWorld_at_new, Nat.zero_add]
    simp; omega
set_option maxRecDepth 100000 in
set_option maxHeartbeats 4000000 in
theorem LBytes_own (b : Nat) (l : List UInt8) (w : World) (hb : LeafAt w b l) :
    Calls Tryd.prog 100 #[.pointer (some ⟨b, 0, none⟩)] w fun e w' => ∃ A c, e = .returned (.slice A l.length c) ∧ Ltr w w' ∧ BRow w.heap.size w' A c l := by
  have hB := Ltr.refl w
  unfold LeafAt at hb
  go_enter Tryd.func100, Tryd.ntmps100
  have hlt_hb := hb.lt
  refine wp_seq_k fun KK1 hKK1 => rl_begin fun hgK hgo => tk 2 (.slice none 0 0) ?_
  simp only [pp]
  refine rl_end hgo <| hKK1 _ _ <| wp_seq_k fun KK2 hKK2 => wp_seq_k fun KK3 hKK3 => rl_begin fun hgK hgo => tk 3 (.pointer (some ⟨b, 0, none⟩)) <| tk 4 (.bool false) ?_
  simp only [pp]
  refine rl_end hgo <| hKK3 _ _ <| wp_cond_false (by kernel_rfl) <| wp_skip <| hKK2 _ _ <| wp_seq_k fun KK4 hKK4 => rl_begin fun hgK hgo => tk 5 (.pointer (some ⟨b, 0, none⟩)) <| tk 6 (.pointer (some ⟨b, 0, none⟩)) <| tk 7 (.pointer (some ⟨b, 0, none⟩)) ?_
  simp only [pp]
  refine tx 8 (.string (bs l)) (by exact ld 9 b 0 (hb.cell 0)) ?_
  simp only [pp]
  refine rl_new (some 9) rfl (by kernel_rfl) (ex_conv_own _ rfl l rfl _) ?_
  rintro v5 w5 ⟨A1, c1, rfl, hL5, hA⟩
  have hz5 := hL5.size
  try simp only [pp]
  refine tk 2 (.slice A1 l.length c1) ?_
  simp only [pp]
  refine rl_end hgo <| hKK4 _ _ ?_
  refine wp_ret ?_
  try simp only [Exit.then, Exit.inBlock]
  refine bp_ret (v := .slice A1 l.length c1) (res1 rfl (res_tmp (by kernel_rfl))) ?_
  replace hB := hB.later hL5
  exact ⟨_, _, rfl, hB, hA.mono (by omega)⟩
theorem Fn_none : Fence.wide = Fn none := by unfold Fn; rfl
def Mark (D : Nat) (w : World) : Prop := w.heap[D]? = some (.deferred (some []))
theorem Mark.lt {D : Nat} {w : World} (h : Mark D w) : D < w.heap.size := (Array.getElem?_eq_some_iff.1 h).1
theorem Mark.later {D : Nat} {w w' : World} (h : Mark D w) (hl : Ltr w w') : Mark D w' := (hl.block D h.lt).trans h
theorem Mark.upd {D g : Nat} {w w' : World} (h : Mark D w) (hu : Upd g w w') (hg : D ≠ g) : Mark D w' := (hu.block D hg).trans h
/-! ### behind a turn of a block at or above D that holds no cells -/
section
variable {D : Nat} {w w' : World} {row : Option Nat}
theorem kcr (h : Mark D w) : ∀ r, some D = some r → D ≤ r ∧ ∃ o : Obj, w.heap[r]? = some o ∧ o.isCells = false := fun r e => by cases e; exact ⟨Nat.le_refl _, _, h, rfl⟩
theorem Blk.kc {B : Nat} {t : TypeId} {cs : Array Value} (h : Blk w B t cs) (hg : w.grownBy w' row) (hr : ∀ r, row = some r → D ≤ r ∧ ∃ o : Obj, w.heap[r]? = some o ∧ o.isCells = false) (_ : 0 ≤ 0) : Blk w' B t cs := h.keptC hg (fun r e => (hr r e).2)
theorem Ltr.kc {a : World} (h : Ltr a w) (hg : w.grownBy w' row) (hr : ∀ r, row = some r → D ≤ r ∧ ∃ o : Obj, w.heap[r]? = some o ∧ o.isCells = false) (hD : a.heap.size ≤ D) : Ltr a w' := h.gr hg (fun k e => Nat.le_trans hD (hr k e).1)
theorem Bel.kc {n : Nat} {a : World} (h : Bel n a w) (hg : w.grownBy w' row) (hr : ∀ r, row = some r → D ≤ r ∧ ∃ o : Obj, w.heap[r]? = some o ∧ o.isCells = false) (hD : n ≤ D) : Bel n a w' := h.gr hg (fun k e => Nat.le_trans hD (hr k e).1)
theorem Tabs.kc (h : Tabs w) (hg : w.grownBy w' row) (hr : ∀ r, row = some r → D ≤ r ∧ ∃ o : Obj, w.heap[r]? = some o ∧ o.isCells = false) (hD : 4 ≤ D) : Tabs w' := h.gr hg (fun k e => Nat.le_trans hD (hr k e).1)
theorem cellk {a : Addr} {v : Value} (h : w.cell? a = some v) (hg : w.grownBy w' row) (hr : ∀ r, row = some r → D ≤ r ∧ ∃ o : Obj, w.heap[r]? = some o ∧ o.isCells = false) : w'.cell? a = some v := cell_kept h hg (fun r e => (hr r e).2)
theorem CellsAt.kc {A : Option Addr} {xs : List Value} (h : CellsAt w A xs) (hg : w.grownBy w' row) (hr : ∀ r, row = some r → D ≤ r ∧ ∃ o : Obj, w.heap[r]? = some o ∧ o.isCells = false) (_ : 0 ≤ 0) : CellsAt w' A xs := fun h0 => by
  obtain ⟨b, off, e, hc⟩ := h h0
  exact ⟨b, off, e, fun i v hi => cellk (hc i v hi) hg hr⟩
theorem BytesAt.kc {A : Option Addr} {l : List UInt8} (h : BytesAt w A l) (hg : w.grownBy w' row) (hr : ∀ r, row = some r → D ≤ r ∧ ∃ o : Obj, w.heap[r]? = some o ∧ o.isCells = false) (hD : 0 ≤ 0) : BytesAt w' A l := bytesAt_iff.2 ((bytesAt_iff.1 h).kc hg hr hD)
theorem BytesN.kc {n : Nat} {A : Option Addr} {l : List UInt8} (h : BytesN n w A l) (hg : w.grownBy w' row) (hr : ∀ r, row = some r → D ≤ r ∧ ∃ o : Obj, w.heap[r]? = some o ∧ o.isCells = false) (hD : 0 ≤ 0) : BytesN n w' A l := ⟨Nat.le_trans h.1 hg.size, h.2.1.kc hg hr hD, h.2.2⟩
theorem BRow.kc {n c : Nat} {A : Option Addr} {l : List UInt8} (h : BRow n w A c l) (hg : w.grownBy w' row) (hr : ∀ r, row = some r → D ≤ r ∧ ∃ o : Obj, w.heap[r]? = some o ∧ o.isCells = false) (_ : 0 ≤ 0) : BRow n w' A c l := by
  obtain ⟨h1, h2, g, off, e, h3, h4, h5⟩ := h
  exact ⟨Nat.le_trans h1 hg.size, h2, g, off, e, h3, Nat.lt_of_lt_of_le h4 hg.size, fun i hi => ⟨cellk (h5 i hi).1 hg hr, (frozen_kept (h5 i hi).1 hg (fun r e => (hr r e).2)).trans (h5 i hi).2⟩⟩
theorem Own.kc {n : Nat} {E : TypeId} {v : Value} {xs : List Value} (h : Own n E w v xs) (hg : w.grownBy w' row) (hr : ∀ r, row = some r → D ≤ r ∧ ∃ o : Obj, w.heap[r]? = some o ∧ o.isCells = false) (_ : 0 ≤ 0) : Own n E w' v xs := by
  refine ⟨Nat.le_trans h.1 hg.size, h.2.kept hg ?_⟩
  rcases h.2.2 with ⟨rfl, _⟩ | ⟨g, cap, cur, rfl, _, hgb, _⟩
  · exact .inl rfl
  · refine .inr fun e' => ?_
    obtain ⟨_, o, ho, hc⟩ := hr g (by simpa [Value.ownBlock] using e'.symm)
    rw [hgb] at ho; cases ho; cases hc
theorem TreeN.kc {n : Nat} {t : Tr} {v : Value} (h : TreeN n w t v) (hg : w.grownBy w' row) (hr : ∀ r, row = some r → D ≤ r ∧ ∃ o : Obj, w.heap[r]? = some o ∧ o.isCells = false) (hD : n ≤ D) : TreeN n w' t v :=
  TreeN.bel h (Below.grown (Below.refl n w) hg h.1 (fun k e => Nat.le_trans hD (hr k e).1)) (Nat.le_refl _)
theorem Mark.kc {C : Nat} (h : Mark C w) (hg : w.grownBy w' row) (hr : ∀ r, row = some r → D ≤ r ∧ ∃ o : Obj, w.heap[r]? = some o ∧ o.isCells = false) (hD : C < D) : Mark C w' := (hg.block C h.lt (fun e => by have := (hr C e.symm).1; omega)).trans h
end
/-! ### leaving -/
section
variable {P : Program} {fn : Func} {R : Ending → World → Prop}
theorem bm_mark {tmps : Array Value} {D : Nat} {ds : List Deferred} {w : World} (hD : Mark D w) (h : ∀ w', w.grownBy w' (some D) → w'.heap.size = w.heap.size → bodyPostM Fence.wide 0 P fn R .ret ⟨tmps, ds⟩ w') :
    bodyPostM Fence.wide 0 P fn R .ret ⟨tmps, { target := .collected D, args := #[] } :: ds⟩ w :=
  ⟨by simp, .inl ⟨_, _, rfl, run_takeDeferred hD, h _ (grownBy_putObj' _ _ _) (by simp)⟩⟩
theorem bm_ret {tmps : Array Value} {w : World} {v : Value} (hr : (results fn tmps).run P w = .ok v w) (hR : R (.returned v) w) : bodyPostM Fence.wide 0 P fn R .ret ⟨tmps, []⟩ w := ⟨v, hr, hR⟩
theorem bm_end {e : Act} {w : World} (h : bodyPostM Fence.wide 0 P fn R .ret e w) : bodyPostM Fence.wide 0 P fn R .normal e w := h
theorem res0 {tmps : Array Value} {w : World} (hr : fn.results = #[]) : (results fn tmps).run P w = .ok (.tuple #[]) w := by
  rw [results_mapM, hr]; simp
end
end Go.Proofs.YtliphfgiaioebaaDoor
