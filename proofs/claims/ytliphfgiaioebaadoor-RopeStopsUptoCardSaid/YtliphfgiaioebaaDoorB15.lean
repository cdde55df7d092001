/-
  Law 9: do, act by act.
-/
import Derived.Test.YtliphfgiaioebaaDoorB14
namespace Go.Proofs.YtliphfgiaioebaaDoor
set_option linter.unusedVariables false
set_option linter.unusedSimpArgs false
open Go.RowKit
theorem CellsAt.get {w : World} {b off i : Nat} {v : Value} {xs : List Value} (h : CellsAt w (some ⟨b, off, none⟩) xs) (hi : xs[i]? = some v) : w.cell? ⟨b, off + i, none⟩ = some v := by
  obtain ⟨b', off', e, hc⟩ := h (by have := (List.getElem?_eq_some_iff.1 hi).1; omega)
  cases e; exact hc i v hi
theorem bel_of {n : Nat} {a w w' : World} (hB : Ltr a w) (h : Bel n w w') (hn : n ≤ a.heap.size) : Bel n a w' := ⟨hn, (Below.mono hB hn).trans h.2⟩
theorem Bel.then {n : Nat} {a w w' : World} (h : Bel n a w) (k : Bel n w w') : Bel n a w' := ⟨h.1, h.2.trans k.2⟩
/-- what an act adds -/
def AddOk (add : List (Nat × List UInt8)) : Prop := add.length ≤ 2 ∧ (∀ p ∈ add, p.2.length ≤ 4000000) ∧ ∀ x, add.getLast? = some x → x.2.length ≤ 32768 → ∀ p ∈ add, p.2.length ≤ 32768
theorem AddOk.nil : AddOk [] := ⟨Nat.zero_le _, by simp, by simp⟩
theorem AddOk.one {b : Nat} {l : List UInt8} (h : l.length ≤ 4000000) : AddOk [(b, l)] := ⟨by simp, by simpa using h, by simp⟩
theorem AddOk.two {b c : Nat} {l m : List UInt8} (h : l.length ≤ 32768) (k : m.length ≤ 32768) : AddOk [(b, l), (c, m)] :=
  ⟨by simp, by simp; omega, by simp; omega⟩
def DoP (n B : Nat) (rs : List (Nat × List UInt8)) (w : World) (e : Ending) (w' : World) : Prop :=
  e = .returned (.bool true) ∧ ∃ vr vt add, Blk w' B 27 #[vr, vt] ∧ Book n w' vr vt (rs ++ add) ∧ Bel n w w' ∧ AddOk add
section
variable (n B : Nat) (A1 A2 : Option Addr) (c1 c2 : Nat) (rs : List (Nat × List UInt8)) (ka kb lo hi : Int) (T : Option Addr) (d : Nat) (t : List UInt8) (w : World)
set_option maxRecDepth 100000 in
set_option maxHeartbeats 8000000 in
theorem do_new (kind : Int) (hkd : rs = [] ∨ kind < 1 ∨ 3 < kind) (hT : Tabs w) (hx : Blk w B 27 #[.slice A1 rs.length c1, .slice A2 rs.length c2]) (hk : Book n w (.slice A1 rs.length c1) (.slice A2 rs.length c2) rs) (hnB : n ≤ B) (hrs : rs.length ≤ 3000000)
    (hTt : BytesAt w T t) (hTn : T = none → d = 0) (ht : t.length ≤ 2000000) :
    Calls Tryd.prog 58 #[.pointer (some ⟨B, 0, none⟩), .agg #[.int .i64 kind, .int .i64 ka, .int .i64 kb, .int .i64 lo, .int .i64 hi, .slice T t.length d]] w (DoP n B rs w) := by
  have hB := Ltr.refl w
  have hnw := hk.rope.1
  have hrl : rs = [] ↔ rs.length = 0 := List.length_eq_zero_iff.symm
  rw [hrl] at hkd
  clear hrl
  go_enter Tryd.func58, Tryd.ntmps58
  have h4 := hT.four
  have hlt_hx := hx.lt
  refine wp_seq_k fun KK1 hKK1 => rl_begin fun hgK hgo => ?_
  refine rl_alloc (some 3) 105 #[.int .i64 kind, .int .i64 ka, .int .i64 kb, .int .i64 lo, .int .i64 hi, .slice T t.length d] rfl (by kernel_rfl) (fun W => by kernel_rfl) fun q w2 hL2 hp2 hq => ?_
  have hz2 := hL2.size
  have hlt2 := hq.lt
  try simp only [pp]
  refine tk 4 (.bool false) ?_
  simp only [pp]
  refine rl_end hgo <| hKK1 _ _ <| wp_seq_k fun KK3 hKK3 => wp_seq_k fun KK4 hKK4 => rl_begin fun hgK hgo => tk 18 (.pointer (some ⟨B, 0, none⟩)) <| tk 19 (.pointer (some ⟨B, 0, none⟩)) <| tk 20 (.pointer (some ⟨B, 0, none⟩)) ?_
  simp only [pp]
  replace hx := hx.later hL2
  refine tx 21 (.slice A1 rs.length c1) (by exact ld 24 B 0 (hx.cell 0)) <| tk 22 (.int .i64 rs.length) ?_
  simp only [pp]
  replace hT := hT.later hL2
  replace hB := hB.later hL2
  replace hk := hk.later hL2
  replace hTt := hTt.later hL2
  by_cases h0 : (rs.length : Int) = 0
  ·refine tx 23 (.bool true) (by exact eqt (x := rs.length) (y := 0) (by omega)) <| tk 24 (.bool true) ?_
   simp only [pp]
   refine rl_pass (some 25) rfl (by kernel_rfl) ?_
   try simp only [pp]
   refine rl_pass (some 26) rfl (by kernel_rfl) ?_
   try simp only [pp]
   refine rl_pass (some 27) rfl (by kernel_rfl) ?_
   try simp only [pp]
   refine tk 28 (.bool true) <| tk 29 (.bool true) ?_
   simp only [pp]
   refine rl_pass (some 30) rfl (by kernel_rfl) ?_
   try simp only [pp]
   refine rl_pass (some 31) rfl (by kernel_rfl) ?_
   try simp only [pp]
   refine rl_pass (some 32) rfl (by kernel_rfl) ?_
   try simp only [pp]
   refine tk 33 (.bool true) ?_
   simp only [pp]
   refine rl_end hgo <| hKK4 _ _ <| wp_cond_true (by kernel_rfl) <| wp_seq_k fun KK5 hKK5 => rl_begin fun hgK hgo => ?_
   refine rl_bslice (some 35) 5 #[] 0 rfl (by kernel_rfl) (fun W => by kernel_rfl) fun z0 w6 hL6 hp6 hz0 => ?_
   have hz6 := hL6.size
   have hlt6 := hz0.lt
   try simp only [pp]
   refine tk 36 (.pointer (some ⟨q, 5, none⟩)) ?_
   simp only [pp]
   replace hq := hq.later hL6
   refine tx 37 (.slice T t.length d) (by exact ld 41 q 5 (hq.cell 5)) ?_
   simp only [pp]
   replace hTt := hTt.later hL6
   refine rl_new (some 38) rfl (by kernel_rfl) (ex_app0 rfl z0 rfl T d t rfl hTt hTn (by omega)) ?_
   rintro v7 w7 ⟨hL7, A5, c5, rfl, hN, hNc, -⟩
   have hz7 := hL7.size
   try simp only [pp]
   replace hT := (hT.later hL6).later hL7
   refine rl_call (some 39) 36 #[.slice A5 t.length c5] rfl (by kernel_rfl) (by kernel_rfl) (New_any A5 c5 t _ hT hN hNc (by omega)) ?_
   rintro e w8 ⟨r1, rfl, hL8, hr1, -⟩
   refine ⟨_, rfl, ?_⟩
   have hz8 := hL8.size
   try simp only [pp]
   refine tk 34 (.tuple #[.pointer (some ⟨r1, 0, none⟩), .int .i64 0]) <| tk 40 (.pointer (some ⟨r1, 0, none⟩)) <| tk 41 (.int .i64 0) <| tk 5 (.pointer (some ⟨r1, 0, none⟩)) <| tk 6 (.int .i64 0) ?_
   simp only [pp]
   refine rl_end hgo <| hKK5 _ _ <| wp_seq_k fun KK9 hKK9 => wp_seq_k fun KK10 hKK10 => rl_begin fun hgK hgo => tk 42 (.pointer (some ⟨q, 5, none⟩)) ?_
   simp only [pp]
   replace hq := (hq.later hL7).later hL8
   refine tx 43 (.slice T t.length d) (by exact ld 41 q 5 (hq.cell 5)) <| tk 44 (.int .i64 t.length) ?_
   simp only [pp]
   refine tx 45 (.bool false) (by exact ebf (c := (t.length : Int) > 268435456) (by omega)) ?_
   simp only [pp]
   refine rl_end hgo <| hKK10 _ _ <| wp_cond_false (by kernel_rfl) <| wp_skip <| hKK9 _ _ <| wp_seq_k fun KK11 hKK11 => rl_begin fun hgK hgo => tk 52 (.int .i64 0) ?_
   simp only [pp]
   refine tx 53 (.bool true) (by exact eqt (x := 0) (y := 0) (by omega)) <| tk 54 (.bool true) <| tk 55 (.pointer (some ⟨B, 0, none⟩)) <| tk 56 (.pointer (some ⟨r1, 0, none⟩)) <| tk 57 (.pointer (some ⟨q, 5, none⟩)) ?_
   simp only [pp]
   refine tx 58 (.slice T t.length d) (by exact ld 41 q 5 (hq.cell 5)) ?_
   simp only [pp]
   replace hTt := (hTt.later hL7).later hL8
   refine tx 59 (.string (bs t)) (by exact ex_conv_str _ rfl T d t rfl hTt) ?_
   simp only [pp]
   replace hk := ((hk.later hL6).later hL7).later hL8
   replace hx := ((hx.later hL6).later hL7).later hL8
   refine rl_call (some 60) 90 #[.pointer (some ⟨B, 0, none⟩), .pointer (some ⟨r1, 0, none⟩), .string (bs t)] rfl (by kernel_rfl) (by kernel_rfl) (keep_any n B r1 t _ _ rs _ hx hk hnB hr1 (by omega)) ?_
   rintro e w12 ⟨rfl, vr, vt, hx1, hk1, hBl1, hTl1⟩
   refine ⟨_, rfl, ?_⟩
   try simp only [pp]
   refine tk 61 (.bool true) <| tk 4 (.bool true) ?_
   simp only [pp]
   refine rl_end hgo <| hKK11 _ _ ?_
   refine wp_ret ?_
   try simp only [Exit.then, Exit.inBlock]
   refine bp_ret (v := .bool true) (res1 rfl (res_tmp (by kernel_rfl))) ?_
   replace hB := ((hB.later hL6).later hL7).later hL8
   replace hz0 := (hz0.later hL7).later hL8
   replace hT := hT.later hL8
   replace hN := hN.later hL8
   exact ⟨rfl, vr, vt, _, hx1, hk1, bel_of hB hBl1 hnw, .one (by omega)⟩
  ·refine tx 23 (.bool false) (by exact eqf (x := rs.length) (y := 0) (by omega)) <| tk 24 (.bool false) <| tk 25 (.pointer (some ⟨q, 0, none⟩)) ?_
   simp only [pp]
   refine tx 26 (.int .i64 kind) (by exact ld 3 q 0 (hq.cell 0)) ?_
   simp only [pp]
   by_cases h1 : kind < 1
   ·refine tx 27 (.bool true) (by exact ebt (c := (kind : Int) < 1) (by omega)) <| tk 28 (.bool true) <| tk 29 (.bool true) ?_
    simp only [pp]
    refine rl_pass (some 30) rfl (by kernel_rfl) ?_
    try simp only [pp]
    refine rl_pass (some 31) rfl (by kernel_rfl) ?_
    try simp only [pp]
    refine rl_pass (some 32) rfl (by kernel_rfl) ?_
    try simp only [pp]
    refine tk 33 (.bool true) ?_
    simp only [pp]
    refine rl_end hgo <| hKK4 _ _ <| wp_cond_true (by kernel_rfl) <| wp_seq_k fun KK13 hKK13 => rl_begin fun hgK hgo => ?_
    refine rl_bslice (some 35) 5 #[] 0 rfl (by kernel_rfl) (fun W => by kernel_rfl) fun z0 w14 hL14 hp14 hz0 => ?_
    have hz14 := hL14.size
    have hlt14 := hz0.lt
    try simp only [pp]
    refine tk 36 (.pointer (some ⟨q, 5, none⟩)) ?_
    simp only [pp]
    replace hq := hq.later hL14
    refine tx 37 (.slice T t.length d) (by exact ld 41 q 5 (hq.cell 5)) ?_
    simp only [pp]
    replace hTt := hTt.later hL14
    refine rl_new (some 38) rfl (by kernel_rfl) (ex_app0 rfl z0 rfl T d t rfl hTt hTn (by omega)) ?_
    rintro v15 w15 ⟨hL15, A5, c5, rfl, hN, hNc, -⟩
    have hz15 := hL15.size
    try simp only [pp]
    replace hT := (hT.later hL14).later hL15
    refine rl_call (some 39) 36 #[.slice A5 t.length c5] rfl (by kernel_rfl) (by kernel_rfl) (New_any A5 c5 t _ hT hN hNc (by omega)) ?_
    rintro e w16 ⟨r1, rfl, hL16, hr1, -⟩
    refine ⟨_, rfl, ?_⟩
    have hz16 := hL16.size
    try simp only [pp]
    refine tk 34 (.tuple #[.pointer (some ⟨r1, 0, none⟩), .int .i64 0]) <| tk 40 (.pointer (some ⟨r1, 0, none⟩)) <| tk 41 (.int .i64 0) <| tk 5 (.pointer (some ⟨r1, 0, none⟩)) <| tk 6 (.int .i64 0) ?_
    simp only [pp]
    refine rl_end hgo <| hKK13 _ _ <| wp_seq_k fun KK17 hKK17 => wp_seq_k fun KK18 hKK18 => rl_begin fun hgK hgo => tk 42 (.pointer (some ⟨q, 5, none⟩)) ?_
    simp only [pp]
    replace hq := (hq.later hL15).later hL16
    refine tx 43 (.slice T t.length d) (by exact ld 41 q 5 (hq.cell 5)) <| tk 44 (.int .i64 t.length) ?_
    simp only [pp]
    refine tx 45 (.bool false) (by exact ebf (c := (t.length : Int) > 268435456) (by omega)) ?_
    simp only [pp]
    refine rl_end hgo <| hKK18 _ _ <| wp_cond_false (by kernel_rfl) <| wp_skip <| hKK17 _ _ <| wp_seq_k fun KK19 hKK19 => rl_begin fun hgK hgo => tk 52 (.int .i64 0) ?_
    simp only [pp]
    refine tx 53 (.bool true) (by exact eqt (x := 0) (y := 0) (by omega)) <| tk 54 (.bool true) <| tk 55 (.pointer (some ⟨B, 0, none⟩)) <| tk 56 (.pointer (some ⟨r1, 0, none⟩)) <| tk 57 (.pointer (some ⟨q, 5, none⟩)) ?_
    simp only [pp]
    refine tx 58 (.slice T t.length d) (by exact ld 41 q 5 (hq.cell 5)) ?_
    simp only [pp]
    replace hTt := (hTt.later hL15).later hL16
    refine tx 59 (.string (bs t)) (by exact ex_conv_str _ rfl T d t rfl hTt) ?_
    simp only [pp]
    replace hk := ((hk.later hL14).later hL15).later hL16
    replace hx := ((hx.later hL14).later hL15).later hL16
    refine rl_call (some 60) 90 #[.pointer (some ⟨B, 0, none⟩), .pointer (some ⟨r1, 0, none⟩), .string (bs t)] rfl (by kernel_rfl) (by kernel_rfl) (keep_any n B r1 t _ _ rs _ hx hk hnB hr1 (by omega)) ?_
    rintro e w20 ⟨rfl, vr, vt, hx1, hk1, hBl1, hTl1⟩
    refine ⟨_, rfl, ?_⟩
    try simp only [pp]
    refine tk 61 (.bool true) <| tk 4 (.bool true) ?_
    simp only [pp]
    refine rl_end hgo <| hKK19 _ _ ?_
    refine wp_ret ?_
    try simp only [Exit.then, Exit.inBlock]
    refine bp_ret (v := .bool true) (res1 rfl (res_tmp (by kernel_rfl))) ?_
    replace hB := ((hB.later hL14).later hL15).later hL16
    replace hz0 := (hz0.later hL15).later hL16
    replace hT := hT.later hL16
    replace hN := hN.later hL16
    exact ⟨rfl, vr, vt, _, hx1, hk1, bel_of hB hBl1 hnw, .one (by omega)⟩
   ·refine tx 27 (.bool false) (by exact ebf (c := (kind : Int) < 1) (by omega)) <| tk 28 (.bool false) <| tk 29 (.bool false) <| tk 30 (.pointer (some ⟨q, 0, none⟩)) ?_
    simp only [pp]
    refine tx 31 (.int .i64 kind) (by exact ld 3 q 0 (hq.cell 0)) ?_
    simp only [pp]
    refine tx 32 (.bool true) (by exact ebt (c := (kind : Int) > 3) (by omega)) <| tk 33 (.bool true) ?_
    simp only [pp]
    refine rl_end hgo <| hKK4 _ _ <| wp_cond_true (by kernel_rfl) <| wp_seq_k fun KK21 hKK21 => rl_begin fun hgK hgo => ?_
    refine rl_bslice (some 35) 5 #[] 0 rfl (by kernel_rfl) (fun W => by kernel_rfl) fun z0 w22 hL22 hp22 hz0 => ?_
    have hz22 := hL22.size
    have hlt22 := hz0.lt
    try simp only [pp]
    refine tk 36 (.pointer (some ⟨q, 5, none⟩)) ?_
    simp only [pp]
    replace hq := hq.later hL22
    refine tx 37 (.slice T t.length d) (by exact ld 41 q 5 (hq.cell 5)) ?_
    simp only [pp]
    replace hTt := hTt.later hL22
    refine rl_new (some 38) rfl (by kernel_rfl) (ex_app0 rfl z0 rfl T d t rfl hTt hTn (by omega)) ?_
    rintro v23 w23 ⟨hL23, A5, c5, rfl, hN, hNc, -⟩
    have hz23 := hL23.size
    try simp only [pp]
    replace hT := (hT.later hL22).later hL23
    refine rl_call (some 39) 36 #[.slice A5 t.length c5] rfl (by kernel_rfl) (by kernel_rfl) (New_any A5 c5 t _ hT hN hNc (by omega)) ?_
    rintro e w24 ⟨r1, rfl, hL24, hr1, -⟩
    refine ⟨_, rfl, ?_⟩
    have hz24 := hL24.size
    try simp only [pp]
    refine tk 34 (.tuple #[.pointer (some ⟨r1, 0, none⟩), .int .i64 0]) <| tk 40 (.pointer (some ⟨r1, 0, none⟩)) <| tk 41 (.int .i64 0) <| tk 5 (.pointer (some ⟨r1, 0, none⟩)) <| tk 6 (.int .i64 0) ?_
    simp only [pp]
    refine rl_end hgo <| hKK21 _ _ <| wp_seq_k fun KK25 hKK25 => wp_seq_k fun KK26 hKK26 => rl_begin fun hgK hgo => tk 42 (.pointer (some ⟨q, 5, none⟩)) ?_
    simp only [pp]
    replace hq := (hq.later hL23).later hL24
    refine tx 43 (.slice T t.length d) (by exact ld 41 q 5 (hq.cell 5)) <| tk 44 (.int .i64 t.length) ?_
    simp only [pp]
    refine tx 45 (.bool false) (by exact ebf (c := (t.length : Int) > 268435456) (by omega)) ?_
    simp only [pp]
    refine rl_end hgo <| hKK26 _ _ <| wp_cond_false (by kernel_rfl) <| wp_skip <| hKK25 _ _ <| wp_seq_k fun KK27 hKK27 => rl_begin fun hgK hgo => tk 52 (.int .i64 0) ?_
    simp only [pp]
    refine tx 53 (.bool true) (by exact eqt (x := 0) (y := 0) (by omega)) <| tk 54 (.bool true) <| tk 55 (.pointer (some ⟨B, 0, none⟩)) <| tk 56 (.pointer (some ⟨r1, 0, none⟩)) <| tk 57 (.pointer (some ⟨q, 5, none⟩)) ?_
    simp only [pp]
    refine tx 58 (.slice T t.length d) (by exact ld 41 q 5 (hq.cell 5)) ?_
    simp only [pp]
    replace hTt := (hTt.later hL23).later hL24
    refine tx 59 (.string (bs t)) (by exact ex_conv_str _ rfl T d t rfl hTt) ?_
    simp only [pp]
    replace hk := ((hk.later hL22).later hL23).later hL24
    replace hx := ((hx.later hL22).later hL23).later hL24
    refine rl_call (some 60) 90 #[.pointer (some ⟨B, 0, none⟩), .pointer (some ⟨r1, 0, none⟩), .string (bs t)] rfl (by kernel_rfl) (by kernel_rfl) (keep_any n B r1 t _ _ rs _ hx hk hnB hr1 (by omega)) ?_
    rintro e w28 ⟨rfl, vr, vt, hx1, hk1, hBl1, hTl1⟩
    refine ⟨_, rfl, ?_⟩
    try simp only [pp]
    refine tk 61 (.bool true) <| tk 4 (.bool true) ?_
    simp only [pp]
    refine rl_end hgo <| hKK27 _ _ ?_
    refine wp_ret ?_
    try simp only [Exit.then, Exit.inBlock]
    refine bp_ret (v := .bool true) (res1 rfl (res_tmp (by kernel_rfl))) ?_
    replace hB := ((hB.later hL22).later hL23).later hL24
    exact ⟨rfl, vr, vt, _, hx1, hk1, bel_of hB hBl1 hnw, .one (by omega)⟩
end
section
variable (n B g1 o1 g2 o2 : Nat) (c1 c2 : Nat) (rs : List (Nat × List UInt8)) (ka kb : Int) (T : Option Addr) (d : Nat) (t : List UInt8) (w : World)
/-- the place of a rope, and what lies there -/
def At (rs : List (Nat × List UInt8)) (k : Int) (b : Nat) (l : List UInt8) : Prop := rs[whichV k rs.length]? = some (b, l)
theorem at_all {rs : List (Nat × List UInt8)} (h : 0 < rs.length) (k : Int) : ∃ b l, At rs k b l := by
  have := whichV_lt k rs.length h
  exact ⟨_, _, List.getElem?_eq_getElem this⟩
theorem At.ptr {rs : List (Nat × List UInt8)} {k : Int} {b : Nat} {l : List UInt8} (h : At rs k b l) : (rs.map fun p => Value.pointer (some ⟨p.1, 0, none⟩))[whichV k rs.length]? = some (.pointer (some ⟨b, 0, none⟩)) := by
  rw [List.getElem?_map, h]; rfl
theorem At.str {rs : List (Nat × List UInt8)} {k : Int} {b : Nat} {l : List UInt8} (h : At rs k b l) : (rs.map fun p => Value.string (bs p.2))[whichV k rs.length]? = some (.string (bs l)) := by
  rw [List.getElem?_map, h]; rfl
theorem At.mem {rs : List (Nat × List UInt8)} {k : Int} {b : Nat} {l : List UInt8} (h : At rs k b l) : (b, l) ∈ rs := List.mem_of_getElem? h
set_option maxRecDepth 100000 in
set_option maxHeartbeats 8000000 in
theorem do_join (lo hh : Int) (h0 : 0 < rs.length) (hT : Tabs w) (hx : Blk w B 27 #[.slice (some ⟨g1, o1, none⟩) rs.length c1, .slice (some ⟨g2, o2, none⟩) rs.length c2]) (hk : Book n w (.slice (some ⟨g1, o1, none⟩) rs.length c1) (.slice (some ⟨g2, o2, none⟩) rs.length c2) rs)
    (hC1 : CellsAt w (some ⟨g1, o1, none⟩) (rs.map fun p => .pointer (some ⟨p.1, 0, none⟩))) (hC2 : CellsAt w (some ⟨g2, o2, none⟩) (rs.map fun p => .string (bs p.2)))
    (hnB : n ≤ B) (hrs : rs.length ≤ 3000000) (hsm : ∀ p ∈ rs, p.2.length ≤ 32768) (bi bj : Nat) (li lj : List UInt8) (hi : At rs ka bi li) (hj : At rs kb bj lj) :
    Calls Tryd.prog 58 #[.pointer (some ⟨B, 0, none⟩), .agg #[.int .i64 1, .int .i64 ka, .int .i64 kb, .int .i64 lo, .int .i64 hh, .slice T t.length d]] w (DoP n B rs w) := by
  have hB := Ltr.refl w
  have hnw := hk.rope.1
  have hia := whichV_lt ka rs.length h0
  have hib := whichV_lt kb rs.length h0
  have hri := hk.each _ hi.mem
  have hl32 := hsm _ hi.mem
  simp only at hri hl32
  have hrj := hk.each _ hj.mem
  have hj32 := hsm _ hj.mem
  simp only at hrj hj32
  go_enter Tryd.func58, Tryd.ntmps58
  have h4 := hT.four
  have hlt_hx := hx.lt
  refine wp_seq_k fun KK1 hKK1 => rl_begin fun hgK hgo => ?_
  refine rl_alloc (some 3) 105 #[.int .i64 1, .int .i64 ka, .int .i64 kb, .int .i64 lo, .int .i64 hh, .slice T t.length d] rfl (by kernel_rfl) (fun W => by kernel_rfl) fun q w2 hL2 hp2 hq => ?_
  have hz2 := hL2.size
  have hlt2 := hq.lt
  try simp only [pp]
  refine tk 4 (.bool false) ?_
  simp only [pp]
  refine rl_end hgo <| hKK1 _ _ <| wp_seq_k fun KK3 hKK3 => wp_seq_k fun KK4 hKK4 => rl_begin fun hgK hgo => tk 18 (.pointer (some ⟨B, 0, none⟩)) <| tk 19 (.pointer (some ⟨B, 0, none⟩)) <| tk 20 (.pointer (some ⟨B, 0, none⟩)) ?_
  simp only [pp]
  replace hx := hx.later hL2
  refine tx 21 (.slice (some ⟨g1, o1, none⟩) rs.length c1) (by exact ld 24 B 0 (hx.cell 0)) <| tk 22 (.int .i64 rs.length) ?_
  simp only [pp]
  refine tx 23 (.bool false) (by exact eqf (x := rs.length) (y := 0) (by omega)) <| tk 24 (.bool false) <| tk 25 (.pointer (some ⟨q, 0, none⟩)) ?_
  simp only [pp]
  refine tx 26 (.int .i64 1) (by exact ld 3 q 0 (hq.cell 0)) ?_
  simp only [pp]
  refine tx 27 (.bool false) (by exact ebf (c := (1 : Int) < 1) (by omega)) <| tk 28 (.bool false) <| tk 29 (.bool false) <| tk 30 (.pointer (some ⟨q, 0, none⟩)) ?_
  simp only [pp]
  refine tx 31 (.int .i64 1) (by exact ld 3 q 0 (hq.cell 0)) ?_
  simp only [pp]
  refine tx 32 (.bool false) (by exact ebf (c := (1 : Int) > 3) (by omega)) <| tk 33 (.bool false) ?_
  simp only [pp]
  refine rl_end hgo <| hKK4 _ _ <| wp_cond_false (by kernel_rfl) <| wp_skip <| hKK3 _ _ <| wp_seq_k fun KK5 hKK5 => ?_
  refine rm_begin (fun W => Ltr w2 W) (by kernel_rfl) (by exact bl_drew (bl_refl _)) fun K6 hgo w6 hE hS6 => ?_
  have hv6 : Ltr w2 w6 := by rw [hE]; exact bl_drew (bl_refl _)
  have hz6 := hv6.size
  clear hE hS6
  refine mk 0 62 (.pointer (some ⟨q, 1, none⟩)) ?_
  try simp only [pp]
  refine mx 1 63 (.int .i64 ka) rfl (fun W hW => by (exact ld 3 q 1 ((hq.later hW).cell 1))) <| mk 2 64 (.pointer (some ⟨B, 0, none⟩)) <| mk 3 65 (.pointer (some ⟨B, 0, none⟩)) <| mk 4 66 (.pointer (some ⟨B, 0, none⟩)) ?_
  try simp only [pp]
  refine mx 5 67 (.slice (some ⟨g1, o1, none⟩) rs.length c1) rfl (fun W hW => by (exact ld 24 B 0 ((hx.later hW).cell 0))) <| mk 6 68 (.int .i64 rs.length) ?_
  try simp only [pp]
  refine rm_call 7 (some 69) (.int .i64 (whichV ka rs.length)) 25 #[.int .i64 ka, .int .i64 rs.length] rfl rfl (by kernel_rfl) (by kernel_rfl) (by kernel_rfl) (by kernel_rfl) (fun W hW => by kernel_rfl) (fun W hW => which_any ka rs.length h0 (by omega) _) (fun _ _ h k => Ltr.trans h k) ?_
  try simp only [pp]
  refine mk 8 70 (.pointer (some ⟨q, 2, none⟩)) ?_
  try simp only [pp]
  refine mx 9 71 (.int .i64 kb) rfl (fun W hW => by (exact ld 3 q 2 ((hq.later hW).cell 2))) <| mk 10 72 (.pointer (some ⟨B, 0, none⟩)) <| mk 11 73 (.pointer (some ⟨B, 0, none⟩)) <| mk 12 74 (.pointer (some ⟨B, 0, none⟩)) ?_
  try simp only [pp]
  refine mx 13 75 (.slice (some ⟨g1, o1, none⟩) rs.length c1) rfl (fun W hW => by (exact ld 24 B 0 ((hx.later hW).cell 0))) <| mk 14 76 (.int .i64 rs.length) ?_
  try simp only [pp]
  refine rm_call 15 (some 77) (.int .i64 (whichV kb rs.length)) 25 #[.int .i64 kb, .int .i64 rs.length] rfl rfl (by kernel_rfl) (by kernel_rfl) (by kernel_rfl) (by kernel_rfl) (fun W hW => by kernel_rfl) (fun W hW => which_any kb rs.length h0 (by omega) _) (fun _ _ h k => Ltr.trans h k) ?_
  try simp only [pp]
  refine mk 16 7 (.int .i64 (whichV ka rs.length)) <| mk 17 8 (.int .i64 (whichV kb rs.length)) ?_
  try simp only [pp]
  refine rm_done (by kernel_rfl) (fun w7 hL7 hS7 => hgo.out _ _ ?_) _
  clear hgo K6
  have hz7 := (show Ltr w2 _ from hS7).size
  have hy7 := hL7.size
  refine hKK5 _ _ <| wp_seq_k fun KK8 hKK8 => ?_
  refine rm_begin (fun W => Ltr w7 W) (by kernel_rfl) (by exact bl_drew (bl_refl _)) fun K9 hgo w9 hE hS9 => ?_
  have hv9 : Ltr w7 w9 := by rw [hE]; exact bl_drew (bl_refl _)
  have hz9 := hv9.size
  clear hE hS9
  refine mk 0 78 (.pointer (some ⟨B, 0, none⟩)) <| mk 1 79 (.pointer (some ⟨B, 0, none⟩)) <| mk 2 80 (.pointer (some ⟨B, 0, none⟩)) ?_
  try simp only [pp]
  replace hx := hx.later (show Ltr w2 _ from hS7)
  refine mx 3 81 (.slice (some ⟨g1, o1, none⟩) rs.length c1) rfl (fun W hW => by (exact ld 24 B 0 ((hx.later hW).cell 0))) <| mk 4 82 (.int .i64 (whichV ka rs.length)) ?_
  try simp only [pp]
  refine mx 5 83 (.pointer (some ⟨g1, o1 + (whichV ka rs.length), none⟩)) rfl (fun W hW => by (exact ex_index (whichV ka rs.length) rfl rfl rfl (by kernel_rfl) (fun _ => by kernel_rfl) (by omega) _)) ?_
  try simp only [pp]
  replace hC1 := (hC1.later hL2).later (show Ltr w2 _ from hS7)
  refine mx 6 84 (.pointer (some ⟨bi, 0, none⟩)) rfl (fun W hW => by (exact ld1 31 _ rfl g1 (o1 + (whichV ka rs.length)) rfl (fun _ => by kernel_rfl) _ ((hC1.later hW).get hi.ptr))) <| mk 7 85 (.pointer (some ⟨B, 0, none⟩)) <| mk 8 86 (.pointer (some ⟨B, 0, none⟩)) <| mk 9 87 (.pointer (some ⟨B, 1, none⟩)) ?_
  try simp only [pp]
  refine mx 10 88 (.slice (some ⟨g2, o2, none⟩) rs.length c2) rfl (fun W hW => by (exact ld 25 B 1 ((hx.later hW).cell 1))) <| mk 11 89 (.int .i64 (whichV ka rs.length)) ?_
  try simp only [pp]
  refine mx 12 90 (.pointer (some ⟨g2, o2 + (whichV ka rs.length), none⟩)) rfl (fun W hW => by (exact ex_index (whichV ka rs.length) rfl rfl rfl (by kernel_rfl) (fun _ => by kernel_rfl) (by omega) _)) ?_
  try simp only [pp]
  replace hC2 := (hC2.later hL2).later (show Ltr w2 _ from hS7)
  refine mx 13 91 (.string (bs li)) rfl (fun W hW => by (exact ld1 9 _ rfl g2 (o2 + (whichV ka rs.length)) rfl (fun _ => by kernel_rfl) _ ((hC2.later hW).get hi.str))) <| mk 14 9 (.pointer (some ⟨bi, 0, none⟩)) <| mk 15 10 (.string (bs li)) ?_
  try simp only [pp]
  refine rm_done (by kernel_rfl) (fun w10 hL10 hS10 => hgo.out _ _ ?_) _
  clear hgo K9
  have hz10 := (show Ltr w7 _ from hS10).size
  have hy10 := hL10.size
  refine hKK8 _ _ <| wp_seq_k fun KK11 hKK11 => wp_seq_k fun KK12 hKK12 => rl_begin fun hgK hgo => tk 92 (.pointer (some ⟨q, 0, none⟩)) ?_
  simp only [pp]
  replace hq := (hq.later (show Ltr w2 _ from hS7)).later (show Ltr w7 _ from hS10)
  refine tx 93 (.int .i64 1) (by exact ld 3 q 0 (hq.cell 0)) ?_
  simp only [pp]
  refine rl_end hgo <| hKK12 _ _ <| wp_block <| wp_seq_k fun KK13 hKK13 => rl_begin fun hgK hgo => ?_
  refine tx 95 (.bool true) (by exact eqt (x := 1) (y := 1) (by omega)) <| tk 94 (.bool true) ?_
  simp only [pp]
  refine rl_end hgo <| hKK13 _ _ <| wp_cond_true (by kernel_rfl) <| wp_seq_k fun KK14 hKK14 => rl_begin fun hgK hgo => tk 97 (.pointer (some ⟨bi, 0, none⟩)) <| tk 98 (.pointer (some ⟨B, 0, none⟩)) <| tk 99 (.pointer (some ⟨B, 0, none⟩)) <| tk 100 (.pointer (some ⟨B, 0, none⟩)) ?_
  simp only [pp]
  replace hx := hx.later (show Ltr w7 _ from hS10)
  refine tx 101 (.slice (some ⟨g1, o1, none⟩) rs.length c1) (by exact ld 24 B 0 (hx.cell 0)) <| tk 102 (.int .i64 (whichV kb rs.length)) ?_
  simp only [pp]
  refine tx 103 (.pointer (some ⟨g1, o1 + (whichV kb rs.length), none⟩)) (by exact ex_index (whichV kb rs.length) rfl rfl rfl (by kernel_rfl) (fun _ => by kernel_rfl) (by omega) _) ?_
  simp only [pp]
  replace hC1 := hC1.later (show Ltr w7 _ from hS10)
  refine tx 104 (.pointer (some ⟨bj, 0, none⟩)) (by exact ld1 31 _ rfl g1 (o1 + (whichV kb rs.length)) rfl (fun _ => by kernel_rfl) _ (hC1.get hj.ptr)) ?_
  simp only [pp]
  replace hT := ((hT.later hL2).later (show Ltr w2 _ from hS7)).later (show Ltr w7 _ from hS10)
  replace hri := ((hri.later hL2).later (show Ltr w2 _ from hS7)).later (show Ltr w7 _ from hS10)
  replace hrj := ((hrj.later hL2).later (show Ltr w2 _ from hS7)).later (show Ltr w7 _ from hS10)
  refine rl_call (some 105) 42 #[.pointer (some ⟨bi, 0, none⟩), .pointer (some ⟨bj, 0, none⟩)] rfl (by kernel_rfl) (by kernel_rfl) (RJoin_any bi bj li lj _ hT hri hrj (by omega)) ?_
  rintro e w15 ⟨r1, rfl, hL15, hr1, -⟩
  refine ⟨_, rfl, ?_⟩
  have hz15 := hL15.size
  try simp only [pp]
  refine tk 96 (.tuple #[.pointer (some ⟨r1, 0, none⟩), .int .i64 0]) <| tk 106 (.pointer (some ⟨r1, 0, none⟩)) <| tk 107 (.int .i64 0) <| tk 11 (.pointer (some ⟨r1, 0, none⟩)) <| tk 12 (.int .i64 0) ?_
  simp only [pp]
  refine rl_end hgo <| hKK14 _ _ <| wp_seq_k fun KK16 hKK16 => wp_seq_k fun KK17 hKK17 => rl_begin fun hgK hgo => tk 108 (.string (bs li)) ?_
  simp only [pp]
  refine tx 109 (.int .i64 li.length) (by exact ex_len_bs (by kernel_rfl)) <| tk 110 (.pointer (some ⟨B, 0, none⟩)) <| tk 111 (.pointer (some ⟨B, 0, none⟩)) <| tk 112 (.pointer (some ⟨B, 1, none⟩)) ?_
  simp only [pp]
  replace hx := hx.later hL15
  refine tx 113 (.slice (some ⟨g2, o2, none⟩) rs.length c2) (by exact ld 25 B 1 (hx.cell 1)) <| tk 114 (.int .i64 (whichV kb rs.length)) ?_
  simp only [pp]
  refine tx 115 (.pointer (some ⟨g2, o2 + (whichV kb rs.length), none⟩)) (by exact ex_index (whichV kb rs.length) rfl rfl rfl (by kernel_rfl) (fun _ => by kernel_rfl) (by omega) _) ?_
  simp only [pp]
  replace hC2 := (hC2.later (show Ltr w7 _ from hS10)).later hL15
  refine tx 116 (.string (bs lj)) (by exact ld1 9 _ rfl g2 (o2 + (whichV kb rs.length)) rfl (fun _ => by kernel_rfl) _ (hC2.get hj.str)) ?_
  simp only [pp]
  refine tx 117 (.int .i64 lj.length) (by exact ex_len_bs (by kernel_rfl)) ?_
  simp only [pp]
  refine tx 118 (.int .i64 ((li.length : Int) + lj.length)) (by exact ex_arith (e := (li.length : Int) + lj.length) (r := (li.length : Int) + lj.length) (by kernel_rfl) (by omega) (by omega)) ?_
  simp only [pp]
  refine tx 119 (.bool false) (by exact ex_bool (c := (((li.length : Int) + lj.length) : Int) > 268435456) (by kernel_rfl) ⟨fun q => (by cases q), fun q => absurd q (by omega)⟩) ?_
  simp only [pp]
  refine rl_end hgo <| hKK17 _ _ <| wp_cond_false (by kernel_rfl) <| wp_skip <| hKK16 _ _ <| wp_seq_k fun KK18 hKK18 => rl_begin fun hgK hgo => tk 126 (.int .i64 0) ?_
  simp only [pp]
  refine tx 127 (.bool true) (by exact eqt (x := 0) (y := 0) (by omega)) <| tk 128 (.bool true) <| tk 129 (.pointer (some ⟨B, 0, none⟩)) <| tk 130 (.pointer (some ⟨r1, 0, none⟩)) <| tk 131 (.string (bs li)) <| tk 132 (.pointer (some ⟨B, 0, none⟩)) <| tk 133 (.pointer (some ⟨B, 0, none⟩)) <| tk 134 (.pointer (some ⟨B, 1, none⟩)) ?_
  simp only [pp]
  refine tx 135 (.slice (some ⟨g2, o2, none⟩) rs.length c2) (by exact ld 25 B 1 (hx.cell 1)) <| tk 136 (.int .i64 (whichV kb rs.length)) ?_
  simp only [pp]
  refine tx 137 (.pointer (some ⟨g2, o2 + (whichV kb rs.length), none⟩)) (by exact ex_index (whichV kb rs.length) rfl rfl rfl (by kernel_rfl) (fun _ => by kernel_rfl) (by omega) _) ?_
  simp only [pp]
  refine tx 138 (.string (bs lj)) (by exact ld1 9 _ rfl g2 (o2 + (whichV kb rs.length)) rfl (fun _ => by kernel_rfl) _ (hC2.get hj.str)) ?_
  simp only [pp]
  refine tx 139 (.string (bs (li ++ lj))) (by exact ex_str_add li lj rfl rfl rfl (by omega) _) ?_
  simp only [pp]
  replace hk := (((hk.later hL2).later (show Ltr w2 _ from hS7)).later (show Ltr w7 _ from hS10)).later hL15
  refine rl_call (some 140) 90 #[.pointer (some ⟨B, 0, none⟩), .pointer (some ⟨r1, 0, none⟩), .string (bs (li ++ lj))] rfl (by kernel_rfl) (by kernel_rfl) (keep_any n B r1 (li ++ lj) _ _ rs _ hx hk hnB hr1 (by omega)) ?_
  rintro e w19 ⟨rfl, vr, vt, hx1, hk1, hBl1, hTl1⟩
  refine ⟨_, rfl, ?_⟩
  try simp only [pp]
  refine tk 141 (.bool true) <| tk 4 (.bool true) ?_
  simp only [pp]
  refine rl_end hgo <| hKK18 _ _ ?_
  refine wp_ret ?_
  try simp only [Exit.then, Exit.inBlock]
  refine bp_ret (v := .bool true) (res1 rfl (res_tmp (by kernel_rfl))) ?_
  replace hB := (((hB.later hL2).later (show Ltr w2 _ from hS7)).later (show Ltr w7 _ from hS10)).later hL15
  exact ⟨rfl, vr, vt, _, hx1, hk1, bel_of hB hBl1 hnw, .one (by rw [List.length_append]; omega)⟩
set_option maxRecDepth 100000 in
set_option maxHeartbeats 8000000 in
theorem do_split (m : Nat) (hh : Int) (h0 : 0 < rs.length) (hT : Tabs w) (hx : Blk w B 27 #[.slice (some ⟨g1, o1, none⟩) rs.length c1, .slice (some ⟨g2, o2, none⟩) rs.length c2]) (hk : Book n w (.slice (some ⟨g1, o1, none⟩) rs.length c1) (.slice (some ⟨g2, o2, none⟩) rs.length c2) rs)
    (hC1 : CellsAt w (some ⟨g1, o1, none⟩) (rs.map fun p => .pointer (some ⟨p.1, 0, none⟩))) (hC2 : CellsAt w (some ⟨g2, o2, none⟩) (rs.map fun p => .string (bs p.2)))
    (hnB : n ≤ B) (hrs : rs.length ≤ 3000000) (hsm : ∀ p ∈ rs, p.2.length ≤ 32768) (bi : Nat) (li : List UInt8) (hi : At rs ka bi li) (hm : m ≤ li.length) :
    Calls Tryd.prog 58 #[.pointer (some ⟨B, 0, none⟩), .agg #[.int .i64 2, .int .i64 ka, .int .i64 kb, .int .i64 m, .int .i64 hh, .slice T t.length d]] w (DoP n B rs w) := by
  have hB := Ltr.refl w
  have hnw := hk.rope.1
  have hia := whichV_lt ka rs.length h0
  have hib := whichV_lt kb rs.length h0
  have hri := hk.each _ hi.mem
  have hl32 := hsm _ hi.mem
  simp only at hri hl32
  have l1 : (li.take m).length ≤ 32768 := by rw [List.length_take]; omega
  have l2 : (li.drop m).length ≤ 32768 := by rw [List.length_drop]; omega
  go_enter Tryd.func58, Tryd.ntmps58
  have h4 := hT.four
  have hlt_hx := hx.lt
  refine wp_seq_k fun KK1 hKK1 => rl_begin fun hgK hgo => ?_
  refine rl_alloc (some 3) 105 #[.int .i64 2, .int .i64 ka, .int .i64 kb, .int .i64 m, .int .i64 hh, .slice T t.length d] rfl (by kernel_rfl) (fun W => by kernel_rfl) fun q w2 hL2 hp2 hq => ?_
  have hz2 := hL2.size
  have hlt2 := hq.lt
  try simp only [pp]
  refine tk 4 (.bool false) ?_
  simp only [pp]
  refine rl_end hgo <| hKK1 _ _ <| wp_seq_k fun KK3 hKK3 => wp_seq_k fun KK4 hKK4 => rl_begin fun hgK hgo => tk 18 (.pointer (some ⟨B, 0, none⟩)) <| tk 19 (.pointer (some ⟨B, 0, none⟩)) <| tk 20 (.pointer (some ⟨B, 0, none⟩)) ?_
  simp only [pp]
  replace hx := hx.later hL2
  refine tx 21 (.slice (some ⟨g1, o1, none⟩) rs.length c1) (by exact ld 24 B 0 (hx.cell 0)) <| tk 22 (.int .i64 rs.length) ?_
  simp only [pp]
  refine tx 23 (.bool false) (by exact eqf (x := rs.length) (y := 0) (by omega)) <| tk 24 (.bool false) <| tk 25 (.pointer (some ⟨q, 0, none⟩)) ?_
  simp only [pp]
  refine tx 26 (.int .i64 2) (by exact ld 3 q 0 (hq.cell 0)) ?_
  simp only [pp]
  refine tx 27 (.bool false) (by exact ebf (c := (2 : Int) < 1) (by omega)) <| tk 28 (.bool false) <| tk 29 (.bool false) <| tk 30 (.pointer (some ⟨q, 0, none⟩)) ?_
  simp only [pp]
  refine tx 31 (.int .i64 2) (by exact ld 3 q 0 (hq.cell 0)) ?_
  simp only [pp]
  refine tx 32 (.bool false) (by exact ebf (c := (2 : Int) > 3) (by omega)) <| tk 33 (.bool false) ?_
  simp only [pp]
  refine rl_end hgo <| hKK4 _ _ <| wp_cond_false (by kernel_rfl) <| wp_skip <| hKK3 _ _ <| wp_seq_k fun KK5 hKK5 => ?_
  refine rm_begin (fun W => Ltr w2 W) (by kernel_rfl) (by exact bl_drew (bl_refl _)) fun K6 hgo w6 hE hS6 => ?_
  have hv6 : Ltr w2 w6 := by rw [hE]; exact bl_drew (bl_refl _)
  have hz6 := hv6.size
  clear hE hS6
  refine mk 0 62 (.pointer (some ⟨q, 1, none⟩)) ?_
  try simp only [pp]
  refine mx 1 63 (.int .i64 ka) rfl (fun W hW => by (exact ld 3 q 1 ((hq.later hW).cell 1))) <| mk 2 64 (.pointer (some ⟨B, 0, none⟩)) <| mk 3 65 (.pointer (some ⟨B, 0, none⟩)) <| mk 4 66 (.pointer (some ⟨B, 0, none⟩)) ?_
  try simp only [pp]
  refine mx 5 67 (.slice (some ⟨g1, o1, none⟩) rs.length c1) rfl (fun W hW => by (exact ld 24 B 0 ((hx.later hW).cell 0))) <| mk 6 68 (.int .i64 rs.length) ?_
  try simp only [pp]
  refine rm_call 7 (some 69) (.int .i64 (whichV ka rs.length)) 25 #[.int .i64 ka, .int .i64 rs.length] rfl rfl (by kernel_rfl) (by kernel_rfl) (by kernel_rfl) (by kernel_rfl) (fun W hW => by kernel_rfl) (fun W hW => which_any ka rs.length h0 (by omega) _) (fun _ _ h k => Ltr.trans h k) ?_
  try simp only [pp]
  refine mk 8 70 (.pointer (some ⟨q, 2, none⟩)) ?_
  try simp only [pp]
  refine mx 9 71 (.int .i64 kb) rfl (fun W hW => by (exact ld 3 q 2 ((hq.later hW).cell 2))) <| mk 10 72 (.pointer (some ⟨B, 0, none⟩)) <| mk 11 73 (.pointer (some ⟨B, 0, none⟩)) <| mk 12 74 (.pointer (some ⟨B, 0, none⟩)) ?_
  try simp only [pp]
  refine mx 13 75 (.slice (some ⟨g1, o1, none⟩) rs.length c1) rfl (fun W hW => by (exact ld 24 B 0 ((hx.later hW).cell 0))) <| mk 14 76 (.int .i64 rs.length) ?_
  try simp only [pp]
  refine rm_call 15 (some 77) (.int .i64 (whichV kb rs.length)) 25 #[.int .i64 kb, .int .i64 rs.length] rfl rfl (by kernel_rfl) (by kernel_rfl) (by kernel_rfl) (by kernel_rfl) (fun W hW => by kernel_rfl) (fun W hW => which_any kb rs.length h0 (by omega) _) (fun _ _ h k => Ltr.trans h k) ?_
  try simp only [pp]
  refine mk 16 7 (.int .i64 (whichV ka rs.length)) <| mk 17 8 (.int .i64 (whichV kb rs.length)) ?_
  try simp only [pp]
  refine rm_done (by kernel_rfl) (fun w7 hL7 hS7 => hgo.out _ _ ?_) _
  clear hgo K6
  have hz7 := (show Ltr w2 _ from hS7).size
  have hy7 := hL7.size
  refine hKK5 _ _ <| wp_seq_k fun KK8 hKK8 => ?_
  refine rm_begin (fun W => Ltr w7 W) (by kernel_rfl) (by exact bl_drew (bl_refl _)) fun K9 hgo w9 hE hS9 => ?_
  have hv9 : Ltr w7 w9 := by rw [hE]; exact bl_drew (bl_refl _)
  have hz9 := hv9.size
  clear hE hS9
  refine mk 0 78 (.pointer (some ⟨B, 0, none⟩)) <| mk 1 79 (.pointer (some ⟨B, 0, none⟩)) <| mk 2 80 (.pointer (some ⟨B, 0, none⟩)) ?_
  try simp only [pp]
  replace hx := hx.later (show Ltr w2 _ from hS7)
  refine mx 3 81 (.slice (some ⟨g1, o1, none⟩) rs.length c1) rfl (fun W hW => by (exact ld 24 B 0 ((hx.later hW).cell 0))) <| mk 4 82 (.int .i64 (whichV ka rs.length)) ?_
  try simp only [pp]
  refine mx 5 83 (.pointer (some ⟨g1, o1 + (whichV ka rs.length), none⟩)) rfl (fun W hW => by (exact ex_index (whichV ka rs.length) rfl rfl rfl (by kernel_rfl) (fun _ => by kernel_rfl) (by omega) _)) ?_
  try simp only [pp]
  replace hC1 := (hC1.later hL2).later (show Ltr w2 _ from hS7)
  refine mx 6 84 (.pointer (some ⟨bi, 0, none⟩)) rfl (fun W hW => by (exact ld1 31 _ rfl g1 (o1 + (whichV ka rs.length)) rfl (fun _ => by kernel_rfl) _ ((hC1.later hW).get hi.ptr))) <| mk 7 85 (.pointer (some ⟨B, 0, none⟩)) <| mk 8 86 (.pointer (some ⟨B, 0, none⟩)) <| mk 9 87 (.pointer (some ⟨B, 1, none⟩)) ?_
  try simp only [pp]
  refine mx 10 88 (.slice (some ⟨g2, o2, none⟩) rs.length c2) rfl (fun W hW => by (exact ld 25 B 1 ((hx.later hW).cell 1))) <| mk 11 89 (.int .i64 (whichV ka rs.length)) ?_
  try simp only [pp]
  refine mx 12 90 (.pointer (some ⟨g2, o2 + (whichV ka rs.length), none⟩)) rfl (fun W hW => by (exact ex_index (whichV ka rs.length) rfl rfl rfl (by kernel_rfl) (fun _ => by kernel_rfl) (by omega) _)) ?_
  try simp only [pp]
  replace hC2 := (hC2.later hL2).later (show Ltr w2 _ from hS7)
  refine mx 13 91 (.string (bs li)) rfl (fun W hW => by (exact ld1 9 _ rfl g2 (o2 + (whichV ka rs.length)) rfl (fun _ => by kernel_rfl) _ ((hC2.later hW).get hi.str))) <| mk 14 9 (.pointer (some ⟨bi, 0, none⟩)) <| mk 15 10 (.string (bs li)) ?_
  try simp only [pp]
  refine rm_done (by kernel_rfl) (fun w10 hL10 hS10 => hgo.out _ _ ?_) _
  clear hgo K9
  have hz10 := (show Ltr w7 _ from hS10).size
  have hy10 := hL10.size
  refine hKK8 _ _ <| wp_seq_k fun KK11 hKK11 => wp_seq_k fun KK12 hKK12 => rl_begin fun hgK hgo => tk 92 (.pointer (some ⟨q, 0, none⟩)) ?_
  simp only [pp]
  replace hq := (hq.later (show Ltr w2 _ from hS7)).later (show Ltr w7 _ from hS10)
  refine tx 93 (.int .i64 2) (by exact ld 3 q 0 (hq.cell 0)) ?_
  simp only [pp]
  refine rl_end hgo <| hKK12 _ _ <| wp_block <| wp_seq_k fun KK13 hKK13 => rl_begin fun hgK hgo => ?_
  refine tx 95 (.bool false) (by exact eqf (x := 2) (y := 1) (by omega)) <| tk 94 (.bool false) ?_
  simp only [pp]
  refine rl_end hgo <| hKK13 _ _ <| wp_cond_false (by kernel_rfl) <| wp_seq_k fun KK14 hKK14 => rl_begin fun hgK hgo => ?_
  refine tx 143 (.bool true) (by exact eqt (x := 2) (y := 2) (by omega)) <| tk 142 (.bool true) ?_
  simp only [pp]
  refine rl_end hgo <| hKK14 _ _ <| wp_cond_true (by kernel_rfl) <| wp_seq_k fun KK15 hKK15 => rl_begin fun hgK hgo => tk 145 (.pointer (some ⟨bi, 0, none⟩)) <| tk 146 (.pointer (some ⟨q, 3, none⟩)) ?_
  simp only [pp]
  refine tx 147 (.int .i64 m) (by exact ld 3 q 3 (hq.cell 3)) ?_
  simp only [pp]
  replace hT := ((hT.later hL2).later (show Ltr w2 _ from hS7)).later (show Ltr w7 _ from hS10)
  replace hri := ((hri.later hL2).later (show Ltr w2 _ from hS7)).later (show Ltr w7 _ from hS10)
  refine rl_call (some 148) 39 #[.pointer (some ⟨bi, 0, none⟩), .int .i64 m] rfl (by kernel_rfl) (by kernel_rfl) (RSplit_any bi li m _ hT hri hm (by omega)) ?_
  rintro e w16 ⟨r1, r2, rfl, hL16, hr1, hr2, -, -⟩
  refine ⟨_, rfl, ?_⟩
  have hz16 := hL16.size
  try simp only [pp]
  refine tk 144 (.tuple #[.pointer (some ⟨r1, 0, none⟩), .pointer (some ⟨r2, 0, none⟩), .int .i64 0]) <| tk 149 (.pointer (some ⟨r1, 0, none⟩)) <| tk 150 (.pointer (some ⟨r2, 0, none⟩)) <| tk 151 (.int .i64 0) <| tk 13 (.pointer (some ⟨r1, 0, none⟩)) <| tk 14 (.pointer (some ⟨r2, 0, none⟩)) <| tk 15 (.int .i64 0) ?_
  simp only [pp]
  refine rl_end hgo <| hKK15 _ _ <| wp_seq_k fun KK17 hKK17 => wp_seq_k fun KK18 hKK18 => rl_begin fun hgK hgo => tk 152 (.pointer (some ⟨q, 3, none⟩)) ?_
  simp only [pp]
  replace hq := hq.later hL16
  refine tx 153 (.int .i64 m) (by exact ld 3 q 3 (hq.cell 3)) ?_
  simp only [pp]
  refine tx 154 (.bool false) (by exact ebf (c := (m : Int) < 0) (by omega)) <| tk 155 (.bool false) <| tk 156 (.pointer (some ⟨q, 3, none⟩)) ?_
  simp only [pp]
  refine tx 157 (.int .i64 m) (by exact ld 3 q 3 (hq.cell 3)) <| tk 158 (.string (bs li)) ?_
  simp only [pp]
  refine tx 159 (.int .i64 li.length) (by exact ex_len_bs (by kernel_rfl)) ?_
  simp only [pp]
  refine tx 160 (.bool false) (by exact ebf (c := (m : Int) > li.length) (by omega)) <| tk 161 (.bool false) ?_
  simp only [pp]
  refine rl_end hgo <| hKK18 _ _ <| wp_cond_false (by kernel_rfl) <| wp_skip <| hKK17 _ _ <| wp_seq_k fun KK19 hKK19 => rl_begin fun hgK hgo => tk 172 (.int .i64 0) ?_
  simp only [pp]
  refine tx 173 (.bool true) (by exact eqt (x := 0) (y := 0) (by omega)) <| tk 174 (.bool true) <| tk 175 (.pointer (some ⟨B, 0, none⟩)) <| tk 176 (.pointer (some ⟨r1, 0, none⟩)) <| tk 177 (.string (bs li)) <| tk 178 (.pointer (some ⟨q, 3, none⟩)) ?_
  simp only [pp]
  refine tx 179 (.int .i64 m) (by exact ld 3 q 3 (hq.cell 3)) ?_
  simp only [pp]
  refine tx 180 (.string (bs (li.take m))) (by exact ex_str_take li m rfl rfl rfl (by kernel_rfl) hm (by omega) _) ?_
  simp only [pp]
  replace hk := (((hk.later hL2).later (show Ltr w2 _ from hS7)).later (show Ltr w7 _ from hS10)).later hL16
  replace hx := (hx.later (show Ltr w7 _ from hS10)).later hL16
  refine rl_call (some 181) 90 #[.pointer (some ⟨B, 0, none⟩), .pointer (some ⟨r1, 0, none⟩), .string (bs (li.take m))] rfl (by kernel_rfl) (by kernel_rfl) (keep_any n B r1 (li.take m) _ _ rs _ hx hk hnB hr1 (by omega)) ?_
  rintro e w20 ⟨rfl, vr, vt, hx1, hk1, hBl1, hTl1⟩
  refine ⟨_, rfl, ?_⟩
  (replace hq := hTl1.keep _ _ _ hq rfl); (replace hr2 := hr2.tl hTl1)
  try simp only [pp]
  refine tk 182 (.bool true) <| tk 183 (.bool true) <| tk 184 (.pointer (some ⟨B, 0, none⟩)) <| tk 185 (.pointer (some ⟨r2, 0, none⟩)) <| tk 186 (.string (bs li)) <| tk 187 (.pointer (some ⟨q, 3, none⟩)) ?_
  simp only [pp]
  refine tx 188 (.int .i64 m) (by exact ld 3 q 3 (hq.cell 3)) ?_
  simp only [pp]
  refine tx 189 (.string (bs (li.drop m))) (by exact ex_str_drop li m rfl rfl rfl (by kernel_rfl) hm (by omega) _) ?_
  simp only [pp]
  refine rl_call (some 190) 90 #[.pointer (some ⟨B, 0, none⟩), .pointer (some ⟨r2, 0, none⟩), .string (bs (li.drop m))] rfl (by kernel_rfl) (by kernel_rfl) (keep_any n B r2 (li.drop m) _ _ (rs ++ [(r1, li.take m)]) _ hx1 hk1 hnB hr2 (by rw [List.length_append, List.length_singleton]; omega)) ?_
  rintro e w21 ⟨rfl, vr2, vt2, hx2, hk2, hBl2, hTl2⟩
  refine ⟨_, rfl, ?_⟩
  try simp only [pp]
  refine tk 191 (.bool true) <| tk 4 (.bool true) ?_
  simp only [pp]
  refine rl_end hgo <| hKK19 _ _ ?_
  refine wp_ret ?_
  try simp only [Exit.then, Exit.inBlock]
  refine bp_ret (v := .bool true) (res1 rfl (res_tmp (by kernel_rfl))) ?_
  replace hB := (((hB.later hL2).later (show Ltr w2 _ from hS7)).later (show Ltr w7 _ from hS10)).later hL16
  exact ⟨rfl, vr2, vt2, [(r1, li.take m), (r2, li.drop m)], hx2, by rw [List.append_assoc] at hk2; exact hk2, (bel_of hB hBl1 hnw).then hBl2, .two l1 l2⟩
set_option maxRecDepth 100000 in
set_option maxHeartbeats 8000000 in
theorem do_split_out (lo hh : Int) (h0 : 0 < rs.length) (hT : Tabs w) (hx : Blk w B 27 #[.slice (some ⟨g1, o1, none⟩) rs.length c1, .slice (some ⟨g2, o2, none⟩) rs.length c2]) (hk : Book n w (.slice (some ⟨g1, o1, none⟩) rs.length c1) (.slice (some ⟨g2, o2, none⟩) rs.length c2) rs)
    (hC1 : CellsAt w (some ⟨g1, o1, none⟩) (rs.map fun p => .pointer (some ⟨p.1, 0, none⟩))) (hC2 : CellsAt w (some ⟨g2, o2, none⟩) (rs.map fun p => .string (bs p.2)))
    (hnB : n ≤ B) (hrs : rs.length ≤ 3000000) (hsm : ∀ p ∈ rs, p.2.length ≤ 32768) (bi : Nat) (li : List UInt8) (hi : At rs ka bi li) (hm : lo < 0 ∨ (li.length : Int) < lo) :
    Calls Tryd.prog 58 #[.pointer (some ⟨B, 0, none⟩), .agg #[.int .i64 2, .int .i64 ka, .int .i64 kb, .int .i64 lo, .int .i64 hh, .slice T t.length d]] w (DoP n B rs w) := by
  have hB := Ltr.refl w
  have hnw := hk.rope.1
  have hia := whichV_lt ka rs.length h0
  have hib := whichV_lt kb rs.length h0
  have hri := hk.each _ hi.mem
  have hl32 := hsm _ hi.mem
  simp only at hri hl32
  go_enter Tryd.func58, Tryd.ntmps58
  have h4 := hT.four
  have hlt_hx := hx.lt
  refine wp_seq_k fun KK1 hKK1 => rl_begin fun hgK hgo => ?_
  refine rl_alloc (some 3) 105 #[.int .i64 2, .int .i64 ka, .int .i64 kb, .int .i64 lo, .int .i64 hh, .slice T t.length d] rfl (by kernel_rfl) (fun W => by kernel_rfl) fun q w2 hL2 hp2 hq => ?_
  have hz2 := hL2.size
  have hlt2 := hq.lt
  try simp only [pp]
  refine tk 4 (.bool false) ?_
  simp only [pp]
  refine rl_end hgo <| hKK1 _ _ <| wp_seq_k fun KK3 hKK3 => wp_seq_k fun KK4 hKK4 => rl_begin fun hgK hgo => tk 18 (.pointer (some ⟨B, 0, none⟩)) <| tk 19 (.pointer (some ⟨B, 0, none⟩)) <| tk 20 (.pointer (some ⟨B, 0, none⟩)) ?_
  simp only [pp]
  replace hx := hx.later hL2
  refine tx 21 (.slice (some ⟨g1, o1, none⟩) rs.length c1) (by exact ld 24 B 0 (hx.cell 0)) <| tk 22 (.int .i64 rs.length) ?_
  simp only [pp]
  refine tx 23 (.bool false) (by exact eqf (x := rs.length) (y := 0) (by omega)) <| tk 24 (.bool false) <| tk 25 (.pointer (some ⟨q, 0, none⟩)) ?_
  simp only [pp]
  refine tx 26 (.int .i64 2) (by exact ld 3 q 0 (hq.cell 0)) ?_
  simp only [pp]
  refine tx 27 (.bool false) (by exact ebf (c := (2 : Int) < 1) (by omega)) <| tk 28 (.bool false) <| tk 29 (.bool false) <| tk 30 (.pointer (some ⟨q, 0, none⟩)) ?_
  simp only [pp]
  refine tx 31 (.int .i64 2) (by exact ld 3 q 0 (hq.cell 0)) ?_
  simp only [pp]
  refine tx 32 (.bool false) (by exact ebf (c := (2 : Int) > 3) (by omega)) <| tk 33 (.bool false) ?_
  simp only [pp]
  refine rl_end hgo <| hKK4 _ _ <| wp_cond_false (by kernel_rfl) <| wp_skip <| hKK3 _ _ <| wp_seq_k fun KK5 hKK5 => ?_
  refine rm_begin (fun W => Ltr w2 W) (by kernel_rfl) (by exact bl_drew (bl_refl _)) fun K6 hgo w6 hE hS6 => ?_
  have hv6 : Ltr w2 w6 := by rw [hE]; exact bl_drew (bl_refl _)
  have hz6 := hv6.size
  clear hE hS6
  refine mk 0 62 (.pointer (some ⟨q, 1, none⟩)) ?_
  try simp only [pp]
  refine mx 1 63 (.int .i64 ka) rfl (fun W hW => by (exact ld 3 q 1 ((hq.later hW).cell 1))) <| mk 2 64 (.pointer (some ⟨B, 0, none⟩)) <| mk 3 65 (.pointer (some ⟨B, 0, none⟩)) <| mk 4 66 (.pointer (some ⟨B, 0, none⟩)) ?_
  try simp only [pp]
  refine mx 5 67 (.slice (some ⟨g1, o1, none⟩) rs.length c1) rfl (fun W hW => by (exact ld 24 B 0 ((hx.later hW).cell 0))) <| mk 6 68 (.int .i64 rs.length) ?_
  try simp only [pp]
  refine rm_call 7 (some 69) (.int .i64 (whichV ka rs.length)) 25 #[.int .i64 ka, .int .i64 rs.length] rfl rfl (by kernel_rfl) (by kernel_rfl) (by kernel_rfl) (by kernel_rfl) (fun W hW => by kernel_rfl) (fun W hW => which_any ka rs.length h0 (by omega) _) (fun _ _ h k => Ltr.trans h k) ?_
  try simp only [pp]
  refine mk 8 70 (.pointer (some ⟨q, 2, none⟩)) ?_
  try simp only [pp]
  refine mx 9 71 (.int .i64 kb) rfl (fun W hW => by (exact ld 3 q 2 ((hq.later hW).cell 2))) <| mk 10 72 (.pointer (some ⟨B, 0, none⟩)) <| mk 11 73 (.pointer (some ⟨B, 0, none⟩)) <| mk 12 74 (.pointer (some ⟨B, 0, none⟩)) ?_
  try simp only [pp]
  refine mx 13 75 (.slice (some ⟨g1, o1, none⟩) rs.length c1) rfl (fun W hW => by (exact ld 24 B 0 ((hx.later hW).cell 0))) <| mk 14 76 (.int .i64 rs.length) ?_
  try simp only [pp]
  refine rm_call 15 (some 77) (.int .i64 (whichV kb rs.length)) 25 #[.int .i64 kb, .int .i64 rs.length] rfl rfl (by kernel_rfl) (by kernel_rfl) (by kernel_rfl) (by kernel_rfl) (fun W hW => by kernel_rfl) (fun W hW => which_any kb rs.length h0 (by omega) _) (fun _ _ h k => Ltr.trans h k) ?_
  try simp only [pp]
  refine mk 16 7 (.int .i64 (whichV ka rs.length)) <| mk 17 8 (.int .i64 (whichV kb rs.length)) ?_
  try simp only [pp]
  refine rm_done (by kernel_rfl) (fun w7 hL7 hS7 => hgo.out _ _ ?_) _
  clear hgo K6
  have hz7 := (show Ltr w2 _ from hS7).size
  have hy7 := hL7.size
  refine hKK5 _ _ <| wp_seq_k fun KK8 hKK8 => ?_
  refine rm_begin (fun W => Ltr w7 W) (by kernel_rfl) (by exact bl_drew (bl_refl _)) fun K9 hgo w9 hE hS9 => ?_
  have hv9 : Ltr w7 w9 := by rw [hE]; exact bl_drew (bl_refl _)
  have hz9 := hv9.size
  clear hE hS9
  refine mk 0 78 (.pointer (some ⟨B, 0, none⟩)) <| mk 1 79 (.pointer (some ⟨B, 0, none⟩)) <| mk 2 80 (.pointer (some ⟨B, 0, none⟩)) ?_
  try simp only [pp]
  replace hx := hx.later (show Ltr w2 _ from hS7)
  refine mx 3 81 (.slice (some ⟨g1, o1, none⟩) rs.length c1) rfl (fun W hW => by (exact ld 24 B 0 ((hx.later hW).cell 0))) <| mk 4 82 (.int .i64 (whichV ka rs.length)) ?_
  try simp only [pp]
  refine mx 5 83 (.pointer (some ⟨g1, o1 + (whichV ka rs.length), none⟩)) rfl (fun W hW => by (exact ex_index (whichV ka rs.length) rfl rfl rfl (by kernel_rfl) (fun _ => by kernel_rfl) (by omega) _)) ?_
  try simp only [pp]
  replace hC1 := (hC1.later hL2).later (show Ltr w2 _ from hS7)
  refine mx 6 84 (.pointer (some ⟨bi, 0, none⟩)) rfl (fun W hW => by (exact ld1 31 _ rfl g1 (o1 + (whichV ka rs.length)) rfl (fun _ => by kernel_rfl) _ ((hC1.later hW).get hi.ptr))) <| mk 7 85 (.pointer (some ⟨B, 0, none⟩)) <| mk 8 86 (.pointer (some ⟨B, 0, none⟩)) <| mk 9 87 (.pointer (some ⟨B, 1, none⟩)) ?_
  try simp only [pp]
  refine mx 10 88 (.slice (some ⟨g2, o2, none⟩) rs.length c2) rfl (fun W hW => by (exact ld 25 B 1 ((hx.later hW).cell 1))) <| mk 11 89 (.int .i64 (whichV ka rs.length)) ?_
  try simp only [pp]
  refine mx 12 90 (.pointer (some ⟨g2, o2 + (whichV ka rs.length), none⟩)) rfl (fun W hW => by (exact ex_index (whichV ka rs.length) rfl rfl rfl (by kernel_rfl) (fun _ => by kernel_rfl) (by omega) _)) ?_
  try simp only [pp]
  replace hC2 := (hC2.later hL2).later (show Ltr w2 _ from hS7)
  refine mx 13 91 (.string (bs li)) rfl (fun W hW => by (exact ld1 9 _ rfl g2 (o2 + (whichV ka rs.length)) rfl (fun _ => by kernel_rfl) _ ((hC2.later hW).get hi.str))) <| mk 14 9 (.pointer (some ⟨bi, 0, none⟩)) <| mk 15 10 (.string (bs li)) ?_
  try simp only [pp]
  refine rm_done (by kernel_rfl) (fun w10 hL10 hS10 => hgo.out _ _ ?_) _
  clear hgo K9
  have hz10 := (show Ltr w7 _ from hS10).size
  have hy10 := hL10.size
  refine hKK8 _ _ <| wp_seq_k fun KK11 hKK11 => wp_seq_k fun KK12 hKK12 => rl_begin fun hgK hgo => tk 92 (.pointer (some ⟨q, 0, none⟩)) ?_
  simp only [pp]
  replace hq := (hq.later (show Ltr w2 _ from hS7)).later (show Ltr w7 _ from hS10)
  refine tx 93 (.int .i64 2) (by exact ld 3 q 0 (hq.cell 0)) ?_
  simp only [pp]
  refine rl_end hgo <| hKK12 _ _ <| wp_block <| wp_seq_k fun KK13 hKK13 => rl_begin fun hgK hgo => ?_
  refine tx 95 (.bool false) (by exact eqf (x := 2) (y := 1) (by omega)) <| tk 94 (.bool false) ?_
  simp only [pp]
  refine rl_end hgo <| hKK13 _ _ <| wp_cond_false (by kernel_rfl) <| wp_seq_k fun KK14 hKK14 => rl_begin fun hgK hgo => ?_
  refine tx 143 (.bool true) (by exact eqt (x := 2) (y := 2) (by omega)) <| tk 142 (.bool true) ?_
  simp only [pp]
  refine rl_end hgo <| hKK14 _ _ <| wp_cond_true (by kernel_rfl) <| wp_seq_k fun KK15 hKK15 => rl_begin fun hgK hgo => tk 145 (.pointer (some ⟨bi, 0, none⟩)) <| tk 146 (.pointer (some ⟨q, 3, none⟩)) ?_
  simp only [pp]
  refine tx 147 (.int .i64 lo) (by exact ld 3 q 3 (hq.cell 3)) ?_
  simp only [pp]
  replace hri := ((hri.later hL2).later (show Ltr w2 _ from hS7)).later (show Ltr w7 _ from hS10)
  refine rl_call (some 148) 39 #[.pointer (some ⟨bi, 0, none⟩), .int .i64 lo] rfl (by kernel_rfl) (by kernel_rfl) (RSplit_out bi li lo _ hri hm) ?_
  rintro e w16 ⟨rfl, hL16⟩
  refine ⟨_, rfl, ?_⟩
  have hz16 := hL16.size
  try simp only [pp]
  refine tk 144 (.tuple #[.pointer none, .pointer none, .int .i64 2]) <| tk 149 (.pointer none) <| tk 150 (.pointer none) <| tk 151 (.int .i64 2) <| tk 13 (.pointer none) <| tk 14 (.pointer none) <| tk 15 (.int .i64 2) ?_
  simp only [pp]
  refine rl_end hgo <| hKK15 _ _ <| wp_seq_k fun KK17 hKK17 => wp_seq_k fun KK18 hKK18 => rl_begin fun hgK hgo => tk 152 (.pointer (some ⟨q, 3, none⟩)) ?_
  simp only [pp]
  replace hq := hq.later hL16
  refine tx 153 (.int .i64 lo) (by exact ld 3 q 3 (hq.cell 3)) ?_
  simp only [pp]
  replace hT := (((hT.later hL2).later (show Ltr w2 _ from hS7)).later (show Ltr w7 _ from hS10)).later hL16
  replace hB := (((hB.later hL2).later (show Ltr w2 _ from hS7)).later (show Ltr w7 _ from hS10)).later hL16
  replace hk := (((hk.later hL2).later (show Ltr w2 _ from hS7)).later (show Ltr w7 _ from hS10)).later hL16
  replace hC1 := (hC1.later (show Ltr w7 _ from hS10)).later hL16
  replace hC2 := (hC2.later (show Ltr w7 _ from hS10)).later hL16
  replace hx := (hx.later (show Ltr w7 _ from hS10)).later hL16
  replace hri := hri.later hL16
  by_cases h3 : lo < 0
  ·refine tx 154 (.bool true) (by exact ebt (c := (lo : Int) < 0) (by omega)) <| tk 155 (.bool true) ?_
   simp only [pp]
   refine rl_pass (some 156) rfl (by kernel_rfl) ?_
   try simp only [pp]
   refine rl_pass (some 157) rfl (by kernel_rfl) ?_
   try simp only [pp]
   refine rl_pass (some 158) rfl (by kernel_rfl) ?_
   try simp only [pp]
   refine rl_pass (some 159) rfl (by kernel_rfl) ?_
   try simp only [pp]
   refine rl_pass (some 160) rfl (by kernel_rfl) ?_
   try simp only [pp]
   refine tk 161 (.bool true) ?_
   simp only [pp]
   refine rl_end hgo <| hKK18 _ _ <| wp_cond_true (by kernel_rfl) <| wp_seq_k fun KK19 hKK19 => rl_begin fun hgK hgo => tk 162 (.pointer none) <| tk 163 (.bool true) <| tk 164 (.bool true) <| tk 165 (.pointer none) <| tk 166 (.bool true) <| tk 167 (.bool true) <| tk 168 (.bool true) <| tk 169 (.int .i64 2) ?_
   simp only [pp]
   refine tx 170 (.bool true) (by exact eqt (x := 2) (y := 2) (by omega)) <| tk 171 (.bool true) <| tk 4 (.bool true) ?_
   simp only [pp]
   refine rl_end hgo <| hKK19 _ _ ?_
   refine wp_ret ?_
   try simp only [Exit.then, Exit.inBlock]
   refine bp_ret (v := .bool true) (res1 rfl (res_tmp (by kernel_rfl))) ?_
   exact ⟨rfl, _, _, [], hx, by rw [List.append_nil]; exact hk, ⟨hnw, Below.mono hB hnw⟩, .nil⟩
  ·refine tx 154 (.bool false) (by exact ebf (c := (lo : Int) < 0) (by omega)) <| tk 155 (.bool false) <| tk 156 (.pointer (some ⟨q, 3, none⟩)) ?_
   simp only [pp]
   refine tx 157 (.int .i64 lo) (by exact ld 3 q 3 (hq.cell 3)) <| tk 158 (.string (bs li)) ?_
   simp only [pp]
   refine tx 159 (.int .i64 li.length) (by exact ex_len_bs (by kernel_rfl)) ?_
   simp only [pp]
   refine tx 160 (.bool true) (by exact ebt (c := (lo : Int) > li.length) (by omega)) <| tk 161 (.bool true) ?_
   simp only [pp]
   refine rl_end hgo <| hKK18 _ _ <| wp_cond_true (by kernel_rfl) <| wp_seq_k fun KK20 hKK20 => rl_begin fun hgK hgo => tk 162 (.pointer none) <| tk 163 (.bool true) <| tk 164 (.bool true) <| tk 165 (.pointer none) <| tk 166 (.bool true) <| tk 167 (.bool true) <| tk 168 (.bool true) <| tk 169 (.int .i64 2) ?_
   simp only [pp]
   refine tx 170 (.bool true) (by exact eqt (x := 2) (y := 2) (by omega)) <| tk 171 (.bool true) <| tk 4 (.bool true) ?_
   simp only [pp]
   refine rl_end hgo <| hKK20 _ _ ?_
   refine wp_ret ?_
   try simp only [Exit.then, Exit.inBlock]
   refine bp_ret (v := .bool true) (res1 rfl (res_tmp (by kernel_rfl))) ?_
   exact ⟨rfl, _, _, [], hx, by rw [List.append_nil]; exact hk, ⟨hnw, Below.mono hB hnw⟩, .nil⟩
set_option maxRecDepth 100000 in
set_option maxHeartbeats 8000000 in
theorem do_rep (lo hh : Nat) (h0 : 0 < rs.length) (hT : Tabs w) (hx : Blk w B 27 #[.slice (some ⟨g1, o1, none⟩) rs.length c1, .slice (some ⟨g2, o2, none⟩) rs.length c2]) (hk : Book n w (.slice (some ⟨g1, o1, none⟩) rs.length c1) (.slice (some ⟨g2, o2, none⟩) rs.length c2) rs)
    (hC1 : CellsAt w (some ⟨g1, o1, none⟩) (rs.map fun p => .pointer (some ⟨p.1, 0, none⟩))) (hC2 : CellsAt w (some ⟨g2, o2, none⟩) (rs.map fun p => .string (bs p.2)))
    (hnB : n ≤ B) (hrs : rs.length ≤ 3000000) (hsm : ∀ p ∈ rs, p.2.length ≤ 32768) (bi : Nat) (li : List UInt8) (hi : At rs ka bi li) (h1 : lo ≤ hh) (h2 : hh ≤ li.length)
    (hTt : BytesAt w T t) (hd : t.length ≤ d) (hTn : T = none → d = 0) (ht : t.length ≤ 2000000) :
    Calls Tryd.prog 58 #[.pointer (some ⟨B, 0, none⟩), .agg #[.int .i64 3, .int .i64 ka, .int .i64 kb, .int .i64 lo, .int .i64 hh, .slice T t.length d]] w (DoP n B rs w) := by
  have hB := Ltr.refl w
  have hnw := hk.rope.1
  have hia := whichV_lt ka rs.length h0
  have hib := whichV_lt kb rs.length h0
  have hri := hk.each _ hi.mem
  have hl32 := hsm _ hi.mem
  simp only at hri hl32
  have lr : (repl li lo hh t).length ≤ 4000000 := by unfold repl; simp only [List.length_append, List.length_take, List.length_drop]; omega
  go_enter Tryd.func58, Tryd.ntmps58
  have h4 := hT.four
  have hlt_hx := hx.lt
  refine wp_seq_k fun KK1 hKK1 => rl_begin fun hgK hgo => ?_
  refine rl_alloc (some 3) 105 #[.int .i64 3, .int .i64 ka, .int .i64 kb, .int .i64 lo, .int .i64 hh, .slice T t.length d] rfl (by kernel_rfl) (fun W => by kernel_rfl) fun q w2 hL2 hp2 hq => ?_
  have hz2 := hL2.size
  have hlt2 := hq.lt
  try simp only [pp]
  refine tk 4 (.bool false) ?_
  simp only [pp]
  refine rl_end hgo <| hKK1 _ _ <| wp_seq_k fun KK3 hKK3 => wp_seq_k fun KK4 hKK4 => rl_begin fun hgK hgo => tk 18 (.pointer (some ⟨B, 0, none⟩)) <| tk 19 (.pointer (some ⟨B, 0, none⟩)) <| tk 20 (.pointer (some ⟨B, 0, none⟩)) ?_
  simp only [pp]
  replace hx := hx.later hL2
  refine tx 21 (.slice (some ⟨g1, o1, none⟩) rs.length c1) (by exact ld 24 B 0 (hx.cell 0)) <| tk 22 (.int .i64 rs.length) ?_
  simp only [pp]
  refine tx 23 (.bool false) (by exact eqf (x := rs.length) (y := 0) (by omega)) <| tk 24 (.bool false) <| tk 25 (.pointer (some ⟨q, 0, none⟩)) ?_
  simp only [pp]
  refine tx 26 (.int .i64 3) (by exact ld 3 q 0 (hq.cell 0)) ?_
  simp only [pp]
  refine tx 27 (.bool false) (by exact ebf (c := (3 : Int) < 1) (by omega)) <| tk 28 (.bool false) <| tk 29 (.bool false) <| tk 30 (.pointer (some ⟨q, 0, none⟩)) ?_
  simp only [pp]
  refine tx 31 (.int .i64 3) (by exact ld 3 q 0 (hq.cell 0)) ?_
  simp only [pp]
  refine tx 32 (.bool false) (by exact ebf (c := (3 : Int) > 3) (by omega)) <| tk 33 (.bool false) ?_
  simp only [pp]
  refine rl_end hgo <| hKK4 _ _ <| wp_cond_false (by kernel_rfl) <| wp_skip <| hKK3 _ _ <| wp_seq_k fun KK5 hKK5 => ?_
  refine rm_begin (fun W => Ltr w2 W) (by kernel_rfl) (by exact bl_drew (bl_refl _)) fun K6 hgo w6 hE hS6 => ?_
  have hv6 : Ltr w2 w6 := by rw [hE]; exact bl_drew (bl_refl _)
  have hz6 := hv6.size
  clear hE hS6
  refine mk 0 62 (.pointer (some ⟨q, 1, none⟩)) ?_
  try simp only [pp]
  refine mx 1 63 (.int .i64 ka) rfl (fun W hW => by (exact ld 3 q 1 ((hq.later hW).cell 1))) <| mk 2 64 (.pointer (some ⟨B, 0, none⟩)) <| mk 3 65 (.pointer (some ⟨B, 0, none⟩)) <| mk 4 66 (.pointer (some ⟨B, 0, none⟩)) ?_
  try simp only [pp]
  refine mx 5 67 (.slice (some ⟨g1, o1, none⟩) rs.length c1) rfl (fun W hW => by (exact ld 24 B 0 ((hx.later hW).cell 0))) <| mk 6 68 (.int .i64 rs.length) ?_
  try simp only [pp]
  refine rm_call 7 (some 69) (.int .i64 (whichV ka rs.length)) 25 #[.int .i64 ka, .int .i64 rs.length] rfl rfl (by kernel_rfl) (by kernel_rfl) (by kernel_rfl) (by kernel_rfl) (fun W hW => by kernel_rfl) (fun W hW => which_any ka rs.length h0 (by omega) _) (fun _ _ h k => Ltr.trans h k) ?_
  try simp only [pp]
  refine mk 8 70 (.pointer (some ⟨q, 2, none⟩)) ?_
  try simp only [pp]
  refine mx 9 71 (.int .i64 kb) rfl (fun W hW => by (exact ld 3 q 2 ((hq.later hW).cell 2))) <| mk 10 72 (.pointer (some ⟨B, 0, none⟩)) <| mk 11 73 (.pointer (some ⟨B, 0, none⟩)) <| mk 12 74 (.pointer (some ⟨B, 0, none⟩)) ?_
  try simp only [pp]
  refine mx 13 75 (.slice (some ⟨g1, o1, none⟩) rs.length c1) rfl (fun W hW => by (exact ld 24 B 0 ((hx.later hW).cell 0))) <| mk 14 76 (.int .i64 rs.length) ?_
  try simp only [pp]
  refine rm_call 15 (some 77) (.int .i64 (whichV kb rs.length)) 25 #[.int .i64 kb, .int .i64 rs.length] rfl rfl (by kernel_rfl) (by kernel_rfl) (by kernel_rfl) (by kernel_rfl) (fun W hW => by kernel_rfl) (fun W hW => which_any kb rs.length h0 (by omega) _) (fun _ _ h k => Ltr.trans h k) ?_
  try simp only [pp]
  refine mk 16 7 (.int .i64 (whichV ka rs.length)) <| mk 17 8 (.int .i64 (whichV kb rs.length)) ?_
  try simp only [pp]
  refine rm_done (by kernel_rfl) (fun w7 hL7 hS7 => hgo.out _ _ ?_) _
  clear hgo K6
  have hz7 := (show Ltr w2 _ from hS7).size
  have hy7 := hL7.size
  refine hKK5 _ _ <| wp_seq_k fun KK8 hKK8 => ?_
  refine rm_begin (fun W => Ltr w7 W) (by kernel_rfl) (by exact bl_drew (bl_refl _)) fun K9 hgo w9 hE hS9 => ?_
  have hv9 : Ltr w7 w9 := by rw [hE]; exact bl_drew (bl_refl _)
  have hz9 := hv9.size
  clear hE hS9
  refine mk 0 78 (.pointer (some ⟨B, 0, none⟩)) <| mk 1 79 (.pointer (some ⟨B, 0, none⟩)) <| mk 2 80 (.pointer (some ⟨B, 0, none⟩)) ?_
  try simp only [pp]
  replace hx := hx.later (show Ltr w2 _ from hS7)
  refine mx 3 81 (.slice (some ⟨g1, o1, none⟩) rs.length c1) rfl (fun W hW => by (exact ld 24 B 0 ((hx.later hW).cell 0))) <| mk 4 82 (.int .i64 (whichV ka rs.length)) ?_
  try simp only [pp]
  refine mx 5 83 (.pointer (some ⟨g1, o1 + (whichV ka rs.length), none⟩)) rfl (fun W hW => by (exact ex_index (whichV ka rs.length) rfl rfl rfl (by kernel_rfl) (fun _ => by kernel_rfl) (by omega) _)) ?_
  try simp only [pp]
  replace hC1 := (hC1.later hL2).later (show Ltr w2 _ from hS7)
  refine mx 6 84 (.pointer (some ⟨bi, 0, none⟩)) rfl (fun W hW => by (exact ld1 31 _ rfl g1 (o1 + (whichV ka rs.length)) rfl (fun _ => by kernel_rfl) _ ((hC1.later hW).get hi.ptr))) <| mk 7 85 (.pointer (some ⟨B, 0, none⟩)) <| mk 8 86 (.pointer (some ⟨B, 0, none⟩)) <| mk 9 87 (.pointer (some ⟨B, 1, none⟩)) ?_
  try simp only [pp]
  refine mx 10 88 (.slice (some ⟨g2, o2, none⟩) rs.length c2) rfl (fun W hW => by (exact ld 25 B 1 ((hx.later hW).cell 1))) <| mk 11 89 (.int .i64 (whichV ka rs.length)) ?_
  try simp only [pp]
  refine mx 12 90 (.pointer (some ⟨g2, o2 + (whichV ka rs.length), none⟩)) rfl (fun W hW => by (exact ex_index (whichV ka rs.length) rfl rfl rfl (by kernel_rfl) (fun _ => by kernel_rfl) (by omega) _)) ?_
  try simp only [pp]
  replace hC2 := (hC2.later hL2).later (show Ltr w2 _ from hS7)
  refine mx 13 91 (.string (bs li)) rfl (fun W hW => by (exact ld1 9 _ rfl g2 (o2 + (whichV ka rs.length)) rfl (fun _ => by kernel_rfl) _ ((hC2.later hW).get hi.str))) <| mk 14 9 (.pointer (some ⟨bi, 0, none⟩)) <| mk 15 10 (.string (bs li)) ?_
  try simp only [pp]
  refine rm_done (by kernel_rfl) (fun w10 hL10 hS10 => hgo.out _ _ ?_) _
  clear hgo K9
  have hz10 := (show Ltr w7 _ from hS10).size
  have hy10 := hL10.size
  refine hKK8 _ _ <| wp_seq_k fun KK11 hKK11 => wp_seq_k fun KK12 hKK12 => rl_begin fun hgK hgo => tk 92 (.pointer (some ⟨q, 0, none⟩)) ?_
  simp only [pp]
  replace hq := (hq.later (show Ltr w2 _ from hS7)).later (show Ltr w7 _ from hS10)
  refine tx 93 (.int .i64 3) (by exact ld 3 q 0 (hq.cell 0)) ?_
  simp only [pp]
  refine rl_end hgo <| hKK12 _ _ <| wp_block <| wp_seq_k fun KK13 hKK13 => rl_begin fun hgK hgo => ?_
  refine tx 95 (.bool false) (by exact eqf (x := 3) (y := 1) (by omega)) <| tk 94 (.bool false) ?_
  simp only [pp]
  refine rl_end hgo <| hKK13 _ _ <| wp_cond_false (by kernel_rfl) <| wp_seq_k fun KK14 hKK14 => rl_begin fun hgK hgo => ?_
  refine tx 143 (.bool false) (by exact eqf (x := 3) (y := 2) (by omega)) <| tk 142 (.bool false) ?_
  simp only [pp]
  refine rl_end hgo <| hKK14 _ _ <| wp_cond_false (by kernel_rfl) <| wp_skip <| hKK11 _ _ <| wp_seq_k fun KK15 hKK15 => ?_
  refine rm_begin (fun W => Ltr w10 W) (by kernel_rfl) (by exact bl_drew (bl_refl _)) fun K16 hgo w16 hE hS16 => ?_
  have hv16 : Ltr w10 w16 := by rw [hE]; exact bl_drew (bl_refl _)
  have hz16 := hv16.size
  clear hE hS16
  refine mk 0 193 (.pointer (some ⟨bi, 0, none⟩)) <| mk 1 194 (.pointer (some ⟨q, 3, none⟩)) ?_
  try simp only [pp]
  refine mx 2 195 (.int .i64 lo) rfl (fun W hW => by (exact ld 3 q 3 ((hq.later hW).cell 3))) <| mk 3 196 (.pointer (some ⟨q, 4, none⟩)) ?_
  try simp only [pp]
  refine mx 4 197 (.int .i64 hh) rfl (fun W hW => by (exact ld 3 q 4 ((hq.later hW).cell 4))) <| mk 6 199 (.pointer (some ⟨q, 5, none⟩)) ?_
  try simp only [pp]
  refine mx 7 200 (.slice T t.length d) rfl (fun W hW => by (exact ld 41 q 5 ((hq.later hW).cell 5))) ?_
  try simp only [pp]
  refine rm_pick1 (i := 5) (by kernel_rfl) ?_
  refine rm_bslice (some 198) 5 #[] 0 rfl rfl (by kernel_rfl) (fun W => by kernel_rfl) (fun _ _ h k => Ltr.trans h k) fun z0 w17 hL17 hp17 hz0 hS17 => ?_
  have hz17 := hL17.size
  have hlt17 := hz0.lt
  try simp only [pp]
  refine rm_pick1 (i := 8) (by kernel_rfl) ?_
  replace hTt := ((hTt.later hL2).later (show Ltr w2 _ from hS7)).later (show Ltr w7 _ from hS10)
  refine rm_new (some 201) _ rfl rfl (by kernel_rfl) (fun W hlz hW => ex_app0 rfl z0 rfl T d t rfl (hTt.later (show Ltr w10 W from hW)) hTn (by omega)) (fun _ _ h k => Ltr.trans h k) ?_
  rintro v18 w18 hL18 ⟨A5, c5, rfl, hN, hNc, -⟩ hS18
  have hz18 := hL18.size
  try simp only [pp]
  refine rm_pick1 (i := 9) (by kernel_rfl) ?_
  replace hT := ((hT.later hL2).later (show Ltr w2 _ from hS7)).later (show Ltr w7 _ from hS10)
  replace hri := ((hri.later hL2).later (show Ltr w2 _ from hS7)).later (show Ltr w7 _ from hS10)
  refine rm_callx (some 202) 37 #[.pointer (some ⟨bi, 0, none⟩), .int .i64 lo, .int .i64 hh, .slice A5 t.length c5] rfl rfl (by kernel_rfl) (fun W hW => by kernel_rfl) (fun W hlz hW => Replace_any bi li lo hh A5 c5 t W (hT.later (show Ltr w10 W from hW)) (hri.later (show Ltr w10 W from hW)) h1 h2 (hN.later hlz) hNc (by omega)) (by rintro W e w' ⟨r1, rfl, hL19, hr1, -⟩; exact hL19) (fun _ _ h k => Ltr.trans h k) ?_
  rintro q19 e w19 hq19 hQ19 ⟨r1, rfl, hL19, hr1, -⟩ hS19
  refine ⟨_, rfl, ?_⟩
  replace hz0 := hz0.later hL18
  replace hz0 := (hz0.later hq19).later hL19
  replace hN := (hN.later hq19).later hL19
  have hz19 := hL19.size
  have hy19 := hq19.size
  try simp only [pp]
  refine mk 10 192 (.tuple #[.pointer (some ⟨r1, 0, none⟩), .int .i64 0]) <| mk 11 203 (.pointer (some ⟨r1, 0, none⟩)) <| mk 12 204 (.int .i64 0) <| mk 13 16 (.pointer (some ⟨r1, 0, none⟩)) <| mk 14 17 (.int .i64 0) ?_
  try simp only [pp]
  refine rm_done (by kernel_rfl) (fun w20 hL20 hS20 => hgo.out _ _ ?_) _
  clear hgo K16
  have hz20 := (show Ltr w10 _ from hS20).size
  have hy20 := hL20.size
  refine hKK15 _ _ <| wp_seq_k fun KK21 hKK21 => wp_seq_k fun KK22 hKK22 => rl_begin fun hgK hgo => tk 205 (.string (bs li)) ?_
  simp only [pp]
  refine tx 206 (.int .i64 li.length) (by exact ex_len_bs (by kernel_rfl)) <| tk 207 (.pointer (some ⟨q, 3, none⟩)) ?_
  simp only [pp]
  replace hq := hq.later (show Ltr w10 _ from hS20)
  refine tx 208 (.int .i64 lo) (by exact ld 3 q 3 (hq.cell 3)) <| tk 209 (.pointer (some ⟨q, 4, none⟩)) ?_
  simp only [pp]
  refine tx 210 (.int .i64 hh) (by exact ld 3 q 4 (hq.cell 4)) ?_
  simp only [pp]
  refine rl_call (some 211) 59 #[.int .i64 li.length, .int .i64 lo, .int .i64 hh] rfl (by kernel_rfl) (by kernel_rfl) (Span_true li.length lo hh (by omega) _) ?_
  rintro e w23 ⟨rfl, hL23⟩
  refine ⟨_, rfl, ?_⟩
  have hz23 := hL23.size
  try simp only [pp]
  refine tk 212 (.bool false) ?_
  simp only [pp]
  refine rl_end hgo <| hKK22 _ _ <| wp_cond_false (by kernel_rfl) <| wp_skip <| hKK21 _ _ <| wp_seq_k fun KK24 hKK24 => wp_seq_k fun KK25 hKK25 => rl_begin fun hgK hgo => tk 219 (.string (bs li)) ?_
  simp only [pp]
  refine tx 220 (.int .i64 li.length) (by exact ex_len_bs (by kernel_rfl)) <| tk 221 (.pointer (some ⟨q, 4, none⟩)) ?_
  simp only [pp]
  replace hq := hq.later hL23
  refine tx 222 (.int .i64 hh) (by exact ld 3 q 4 (hq.cell 4)) <| tk 223 (.pointer (some ⟨q, 3, none⟩)) ?_
  simp only [pp]
  refine tx 224 (.int .i64 lo) (by exact ld 3 q 3 (hq.cell 3)) ?_
  simp only [pp]
  refine tx 225 (.int .i64 ((hh : Int) - lo)) (by exact ex_arith (e := (hh : Int) - lo) (r := (hh : Int) - lo) (by kernel_rfl) (by omega) (by omega)) ?_
  simp only [pp]
  refine tx 226 (.int .i64 ((li.length : Int) - ((hh : Int) - lo))) (by exact ex_arith (e := (li.length : Int) - ((hh : Int) - lo)) (r := (li.length : Int) - ((hh : Int) - lo)) (by kernel_rfl) (by omega) (by omega)) <| tk 227 (.pointer (some ⟨q, 5, none⟩)) ?_
  simp only [pp]
  refine tx 228 (.slice T t.length d) (by exact ld 41 q 5 (hq.cell 5)) <| tk 229 (.int .i64 t.length) ?_
  simp only [pp]
  refine tx 230 (.int .i64 ((((li.length : Int) - ((hh : Int) - lo)) : Int) + t.length)) (by exact ex_arith (e := (((li.length : Int) - ((hh : Int) - lo)) : Int) + t.length) (r := (((li.length : Int) - ((hh : Int) - lo)) : Int) + t.length) (by kernel_rfl) (by omega) (by omega)) ?_
  simp only [pp]
  refine tx 231 (.bool false) (by exact ex_bool (c := (((((li.length : Int) - ((hh : Int) - lo)) : Int) + t.length) : Int) > 268435456) (by kernel_rfl) ⟨fun q => (by cases q), fun q => absurd q (by omega)⟩) ?_
  simp only [pp]
  refine rl_end hgo <| hKK25 _ _ <| wp_cond_false (by kernel_rfl) <| wp_skip <| hKK24 _ _ <| wp_seq_k fun KK26 hKK26 => rl_begin fun hgK hgo => tk 238 (.int .i64 0) ?_
  simp only [pp]
  refine tx 239 (.bool true) (by exact eqt (x := 0) (y := 0) (by omega)) <| tk 240 (.bool true) <| tk 241 (.pointer (some ⟨B, 0, none⟩)) <| tk 242 (.pointer (some ⟨r1, 0, none⟩)) <| tk 243 (.string (bs li)) ?_
  simp only [pp]
  refine rl_new (some 244) rfl (by kernel_rfl) (ex_conv_own _ rfl li rfl _) ?_
  rintro v27 w27 ⟨A7, c7, rfl, hL27, hbS7⟩
  have hz27 := hL27.size
  try simp only [pp]
  refine tk 245 (.pointer (some ⟨q, 3, none⟩)) ?_
  simp only [pp]
  replace hq := hq.later hL27
  refine tx 246 (.int .i64 lo) (by exact ld 3 q 3 (hq.cell 3)) <| tk 247 (.pointer (some ⟨q, 4, none⟩)) ?_
  simp only [pp]
  refine tx 248 (.int .i64 hh) (by exact ld 3 q 4 (hq.cell 4)) <| tk 249 (.pointer (some ⟨q, 5, none⟩)) ?_
  simp only [pp]
  refine tx 250 (.slice T t.length d) (by exact ld 41 q 5 (hq.cell 5)) ?_
  simp only [pp]
  replace hTt := ((hTt.later (show Ltr w10 _ from hS20)).later hL23).later hL27
  refine rl_call (some 251) 48 #[.slice A7 li.length c7, .int .i64 lo, .int .i64 hh, .slice T t.length d] rfl (by kernel_rfl) (by kernel_rfl) (Replaced_any A7 T c7 d lo hh li t _ h1 h2 hbS7.bytes hbS7.2.1 hbS7.some hTt hd hTn (by omega)) ?_
  rintro e w28 ⟨A8, c8, rfl, hL28, hbS8, hc8, -⟩
  refine ⟨_, rfl, ?_⟩
  have hz28 := hL28.size
  try simp only [pp]
  refine tx 252 (.string (bs (repl li lo hh t))) (by exact ex_conv_str _ rfl A8 c8 (repl li lo hh t) rfl hbS8) ?_
  simp only [pp]
  replace hk := ((((((hk.later hL2).later (show Ltr w2 _ from hS7)).later (show Ltr w7 _ from hS10)).later (show Ltr w10 _ from hS20)).later hL23).later hL27).later hL28
  replace hx := ((((hx.later (show Ltr w7 _ from hS10)).later (show Ltr w10 _ from hS20)).later hL23).later hL27).later hL28
  replace hr1 := (((hr1.later hL20).later hL23).later hL27).later hL28
  refine rl_call (some 253) 90 #[.pointer (some ⟨B, 0, none⟩), .pointer (some ⟨r1, 0, none⟩), .string (bs (repl li lo hh t))] rfl (by kernel_rfl) (by kernel_rfl) (keep_any n B r1 (repl li lo hh t) _ _ rs _ hx hk hnB hr1 (by omega)) ?_
  rintro e w29 ⟨rfl, vr, vt, hx1, hk1, hBl1, hTl1⟩
  refine ⟨_, rfl, ?_⟩
  try simp only [pp]
  refine tk 254 (.bool true) <| tk 4 (.bool true) ?_
  simp only [pp]
  refine rl_end hgo <| hKK26 _ _ ?_
  refine wp_ret ?_
  try simp only [Exit.then, Exit.inBlock]
  refine bp_ret (v := .bool true) (res1 rfl (res_tmp (by kernel_rfl))) ?_
  replace hB := ((((((hB.later hL2).later (show Ltr w2 _ from hS7)).later (show Ltr w7 _ from hS10)).later (show Ltr w10 _ from hS20)).later hL23).later hL27).later hL28
  exact ⟨rfl, vr, vt, _, hx1, hk1, bel_of hB hBl1 hnw, .one lr⟩
set_option maxRecDepth 100000 in
set_option maxHeartbeats 8000000 in
theorem do_rep_out (lo hh : Int) (h0 : 0 < rs.length) (hT : Tabs w) (hx : Blk w B 27 #[.slice (some ⟨g1, o1, none⟩) rs.length c1, .slice (some ⟨g2, o2, none⟩) rs.length c2]) (hk : Book n w (.slice (some ⟨g1, o1, none⟩) rs.length c1) (.slice (some ⟨g2, o2, none⟩) rs.length c2) rs)
    (hC1 : CellsAt w (some ⟨g1, o1, none⟩) (rs.map fun p => .pointer (some ⟨p.1, 0, none⟩))) (hC2 : CellsAt w (some ⟨g2, o2, none⟩) (rs.map fun p => .string (bs p.2)))
    (hnB : n ≤ B) (hrs : rs.length ≤ 3000000) (hsm : ∀ p ∈ rs, p.2.length ≤ 32768) (bi : Nat) (li : List UInt8) (hi : At rs ka bi li) (h1 : ¬ (0 ≤ lo ∧ lo ≤ hh ∧ hh ≤ li.length))
    (hTt : BytesAt w T t) (hTn : T = none → d = 0) (ht : t.length ≤ 2000000) :
    Calls Tryd.prog 58 #[.pointer (some ⟨B, 0, none⟩), .agg #[.int .i64 3, .int .i64 ka, .int .i64 kb, .int .i64 lo, .int .i64 hh, .slice T t.length d]] w (DoP n B rs w) := by
  have hB := Ltr.refl w
  have hnw := hk.rope.1
  have hia := whichV_lt ka rs.length h0
  have hib := whichV_lt kb rs.length h0
  have hri := hk.each _ hi.mem
  have hl32 := hsm _ hi.mem
  simp only at hri hl32
  go_enter Tryd.func58, Tryd.ntmps58
  have h4 := hT.four
  have hlt_hx := hx.lt
  refine wp_seq_k fun KK1 hKK1 => rl_begin fun hgK hgo => ?_
  refine rl_alloc (some 3) 105 #[.int .i64 3, .int .i64 ka, .int .i64 kb, .int .i64 lo, .int .i64 hh, .slice T t.length d] rfl (by kernel_rfl) (fun W => by kernel_rfl) fun q w2 hL2 hp2 hq => ?_
  have hz2 := hL2.size
  have hlt2 := hq.lt
  try simp only [pp]
  refine tk 4 (.bool false) ?_
  simp only [pp]
  refine rl_end hgo <| hKK1 _ _ <| wp_seq_k fun KK3 hKK3 => wp_seq_k fun KK4 hKK4 => rl_begin fun hgK hgo => tk 18 (.pointer (some ⟨B, 0, none⟩)) <| tk 19 (.pointer (some ⟨B, 0, none⟩)) <| tk 20 (.pointer (some ⟨B, 0, none⟩)) ?_
  simp only [pp]
  replace hx := hx.later hL2
  refine tx 21 (.slice (some ⟨g1, o1, none⟩) rs.length c1) (by exact ld 24 B 0 (hx.cell 0)) <| tk 22 (.int .i64 rs.length) ?_
  simp only [pp]
  refine tx 23 (.bool false) (by exact eqf (x := rs.length) (y := 0) (by omega)) <| tk 24 (.bool false) <| tk 25 (.pointer (some ⟨q, 0, none⟩)) ?_
  simp only [pp]
  refine tx 26 (.int .i64 3) (by exact ld 3 q 0 (hq.cell 0)) ?_
  simp only [pp]
  refine tx 27 (.bool false) (by exact ebf (c := (3 : Int) < 1) (by omega)) <| tk 28 (.bool false) <| tk 29 (.bool false) <| tk 30 (.pointer (some ⟨q, 0, none⟩)) ?_
  simp only [pp]
  refine tx 31 (.int .i64 3) (by exact ld 3 q 0 (hq.cell 0)) ?_
  simp only [pp]
  refine tx 32 (.bool false) (by exact ebf (c := (3 : Int) > 3) (by omega)) <| tk 33 (.bool false) ?_
  simp only [pp]
  refine rl_end hgo <| hKK4 _ _ <| wp_cond_false (by kernel_rfl) <| wp_skip <| hKK3 _ _ <| wp_seq_k fun KK5 hKK5 => ?_
  refine rm_begin (fun W => Ltr w2 W) (by kernel_rfl) (by exact bl_drew (bl_refl _)) fun K6 hgo w6 hE hS6 => ?_
  have hv6 : Ltr w2 w6 := by rw [hE]; exact bl_drew (bl_refl _)
  have hz6 := hv6.size
  clear hE hS6
  refine mk 0 62 (.pointer (some ⟨q, 1, none⟩)) ?_
  try simp only [pp]
  refine mx 1 63 (.int .i64 ka) rfl (fun W hW => by (exact ld 3 q 1 ((hq.later hW).cell 1))) <| mk 2 64 (.pointer (some ⟨B, 0, none⟩)) <| mk 3 65 (.pointer (some ⟨B, 0, none⟩)) <| mk 4 66 (.pointer (some ⟨B, 0, none⟩)) ?_
  try simp only [pp]
  refine mx 5 67 (.slice (some ⟨g1, o1, none⟩) rs.length c1) rfl (fun W hW => by (exact ld 24 B 0 ((hx.later hW).cell 0))) <| mk 6 68 (.int .i64 rs.length) ?_
  try simp only [pp]
  refine rm_call 7 (some 69) (.int .i64 (whichV ka rs.length)) 25 #[.int .i64 ka, .int .i64 rs.length] rfl rfl (by kernel_rfl) (by kernel_rfl) (by kernel_rfl) (by kernel_rfl) (fun W hW => by kernel_rfl) (fun W hW => which_any ka rs.length h0 (by omega) _) (fun _ _ h k => Ltr.trans h k) ?_
  try simp only [pp]
  refine mk 8 70 (.pointer (some ⟨q, 2, none⟩)) ?_
  try simp only [pp]
  refine mx 9 71 (.int .i64 kb) rfl (fun W hW => by (exact ld 3 q 2 ((hq.later hW).cell 2))) <| mk 10 72 (.pointer (some ⟨B, 0, none⟩)) <| mk 11 73 (.pointer (some ⟨B, 0, none⟩)) <| mk 12 74 (.pointer (some ⟨B, 0, none⟩)) ?_
  try simp only [pp]
  refine mx 13 75 (.slice (some ⟨g1, o1, none⟩) rs.length c1) rfl (fun W hW => by (exact ld 24 B 0 ((hx.later hW).cell 0))) <| mk 14 76 (.int .i64 rs.length) ?_
  try simp only [pp]
  refine rm_call 15 (some 77) (.int .i64 (whichV kb rs.length)) 25 #[.int .i64 kb, .int .i64 rs.length] rfl rfl (by kernel_rfl) (by kernel_rfl) (by kernel_rfl) (by kernel_rfl) (fun W hW => by kernel_rfl) (fun W hW => which_any kb rs.length h0 (by omega) _) (fun _ _ h k => Ltr.trans h k) ?_
  try simp only [pp]
  refine mk 16 7 (.int .i64 (whichV ka rs.length)) <| mk 17 8 (.int .i64 (whichV kb rs.length)) ?_
  try simp only [pp]
  refine rm_done (by kernel_rfl) (fun w7 hL7 hS7 => hgo.out _ _ ?_) _
  clear hgo K6
  have hz7 := (show Ltr w2 _ from hS7).size
  have hy7 := hL7.size
  refine hKK5 _ _ <| wp_seq_k fun KK8 hKK8 => ?_
  refine rm_begin (fun W => Ltr w7 W) (by kernel_rfl) (by exact bl_drew (bl_refl _)) fun K9 hgo w9 hE hS9 => ?_
  have hv9 : Ltr w7 w9 := by rw [hE]; exact bl_drew (bl_refl _)
  have hz9 := hv9.size
  clear hE hS9
  refine mk 0 78 (.pointer (some ⟨B, 0, none⟩)) <| mk 1 79 (.pointer (some ⟨B, 0, none⟩)) <| mk 2 80 (.pointer (some ⟨B, 0, none⟩)) ?_
  try simp only [pp]
  replace hx := hx.later (show Ltr w2 _ from hS7)
  refine mx 3 81 (.slice (some ⟨g1, o1, none⟩) rs.length c1) rfl (fun W hW => by (exact ld 24 B 0 ((hx.later hW).cell 0))) <| mk 4 82 (.int .i64 (whichV ka rs.length)) ?_
  try simp only [pp]
  refine mx 5 83 (.pointer (some ⟨g1, o1 + (whichV ka rs.length), none⟩)) rfl (fun W hW => by (exact ex_index (whichV ka rs.length) rfl rfl rfl (by kernel_rfl) (fun _ => by kernel_rfl) (by omega) _)) ?_
  try simp only [pp]
  replace hC1 := (hC1.later hL2).later (show Ltr w2 _ from hS7)
  refine mx 6 84 (.pointer (some ⟨bi, 0, none⟩)) rfl (fun W hW => by (exact ld1 31 _ rfl g1 (o1 + (whichV ka rs.length)) rfl (fun _ => by kernel_rfl) _ ((hC1.later hW).get hi.ptr))) <| mk 7 85 (.pointer (some ⟨B, 0, none⟩)) <| mk 8 86 (.pointer (some ⟨B, 0, none⟩)) <| mk 9 87 (.pointer (some ⟨B, 1, none⟩)) ?_
  try simp only [pp]
  refine mx 10 88 (.slice (some ⟨g2, o2, none⟩) rs.length c2) rfl (fun W hW => by (exact ld 25 B 1 ((hx.later hW).cell 1))) <| mk 11 89 (.int .i64 (whichV ka rs.length)) ?_
  try simp only [pp]
  refine mx 12 90 (.pointer (some ⟨g2, o2 + (whichV ka rs.length), none⟩)) rfl (fun W hW => by (exact ex_index (whichV ka rs.length) rfl rfl rfl (by kernel_rfl) (fun _ => by kernel_rfl) (by omega) _)) ?_
  try simp only [pp]
  replace hC2 := (hC2.later hL2).later (show Ltr w2 _ from hS7)
  refine mx 13 91 (.string (bs li)) rfl (fun W hW => by (exact ld1 9 _ rfl g2 (o2 + (whichV ka rs.length)) rfl (fun _ => by kernel_rfl) _ ((hC2.later hW).get hi.str))) <| mk 14 9 (.pointer (some ⟨bi, 0, none⟩)) <| mk 15 10 (.string (bs li)) ?_
  try simp only [pp]
  refine rm_done (by kernel_rfl) (fun w10 hL10 hS10 => hgo.out _ _ ?_) _
  clear hgo K9
  have hz10 := (show Ltr w7 _ from hS10).size
  have hy10 := hL10.size
  refine hKK8 _ _ <| wp_seq_k fun KK11 hKK11 => wp_seq_k fun KK12 hKK12 => rl_begin fun hgK hgo => tk 92 (.pointer (some ⟨q, 0, none⟩)) ?_
  simp only [pp]
  replace hq := (hq.later (show Ltr w2 _ from hS7)).later (show Ltr w7 _ from hS10)
  refine tx 93 (.int .i64 3) (by exact ld 3 q 0 (hq.cell 0)) ?_
  simp only [pp]
  refine rl_end hgo <| hKK12 _ _ <| wp_block <| wp_seq_k fun KK13 hKK13 => rl_begin fun hgK hgo => ?_
  refine tx 95 (.bool false) (by exact eqf (x := 3) (y := 1) (by omega)) <| tk 94 (.bool false) ?_
  simp only [pp]
  refine rl_end hgo <| hKK13 _ _ <| wp_cond_false (by kernel_rfl) <| wp_seq_k fun KK14 hKK14 => rl_begin fun hgK hgo => ?_
  refine tx 143 (.bool false) (by exact eqf (x := 3) (y := 2) (by omega)) <| tk 142 (.bool false) ?_
  simp only [pp]
  refine rl_end hgo <| hKK14 _ _ <| wp_cond_false (by kernel_rfl) <| wp_skip <| hKK11 _ _ <| wp_seq_k fun KK15 hKK15 => ?_
  refine rm_begin (fun W => Ltr w10 W) (by kernel_rfl) (by exact bl_drew (bl_refl _)) fun K16 hgo w16 hE hS16 => ?_
  have hv16 : Ltr w10 w16 := by rw [hE]; exact bl_drew (bl_refl _)
  have hz16 := hv16.size
  clear hE hS16
  refine mk 0 193 (.pointer (some ⟨bi, 0, none⟩)) <| mk 1 194 (.pointer (some ⟨q, 3, none⟩)) ?_
  try simp only [pp]
  refine mx 2 195 (.int .i64 lo) rfl (fun W hW => by (exact ld 3 q 3 ((hq.later hW).cell 3))) <| mk 3 196 (.pointer (some ⟨q, 4, none⟩)) ?_
  try simp only [pp]
  refine mx 4 197 (.int .i64 hh) rfl (fun W hW => by (exact ld 3 q 4 ((hq.later hW).cell 4))) <| mk 6 199 (.pointer (some ⟨q, 5, none⟩)) ?_
  try simp only [pp]
  refine mx 7 200 (.slice T t.length d) rfl (fun W hW => by (exact ld 41 q 5 ((hq.later hW).cell 5))) ?_
  try simp only [pp]
  refine rm_pick1 (i := 5) (by kernel_rfl) ?_
  refine rm_bslice (some 198) 5 #[] 0 rfl rfl (by kernel_rfl) (fun W => by kernel_rfl) (fun _ _ h k => Ltr.trans h k) fun z0 w17 hL17 hp17 hz0 hS17 => ?_
  have hz17 := hL17.size
  have hlt17 := hz0.lt
  try simp only [pp]
  refine rm_pick1 (i := 8) (by kernel_rfl) ?_
  replace hTt := ((hTt.later hL2).later (show Ltr w2 _ from hS7)).later (show Ltr w7 _ from hS10)
  refine rm_new (some 201) _ rfl rfl (by kernel_rfl) (fun W hlz hW => ex_app0 rfl z0 rfl T d t rfl (hTt.later (show Ltr w10 W from hW)) hTn (by omega)) (fun _ _ h k => Ltr.trans h k) ?_
  rintro v18 w18 hL18 ⟨A5, c5, rfl, hN, hNc, -⟩ hS18
  have hz18 := hL18.size
  try simp only [pp]
  refine rm_pick1 (i := 9) (by kernel_rfl) ?_
  replace hri := ((hri.later hL2).later (show Ltr w2 _ from hS7)).later (show Ltr w7 _ from hS10)
  refine rm_callx (some 202) 37 #[.pointer (some ⟨bi, 0, none⟩), .int .i64 lo, .int .i64 hh, .slice A5 t.length c5] rfl rfl (by kernel_rfl) (fun W hW => by kernel_rfl) (fun W hlz hW => Replace_out bi li lo hh (.slice A5 t.length c5) W (hri.later (show Ltr w10 W from hW)) h1) (by rintro W e w' ⟨rfl, hL19⟩; exact hL19) (fun _ _ h k => Ltr.trans h k) ?_
  rintro q19 e w19 hq19 hQ19 ⟨rfl, hL19⟩ hS19
  refine ⟨_, rfl, ?_⟩
  replace hz0 := hz0.later hL18
  replace hz0 := (hz0.later hq19).later hL19
  replace hN := (hN.later hq19).later hL19
  have hz19 := hL19.size
  have hy19 := hq19.size
  try simp only [pp]
  refine mk 10 192 (.tuple #[.pointer none, .int .i64 2]) <| mk 11 203 (.pointer none) <| mk 12 204 (.int .i64 2) <| mk 13 16 (.pointer none) <| mk 14 17 (.int .i64 2) ?_
  try simp only [pp]
  refine rm_done (by kernel_rfl) (fun w20 hL20 hS20 => hgo.out _ _ ?_) _
  clear hgo K16
  have hz20 := (show Ltr w10 _ from hS20).size
  have hy20 := hL20.size
  refine hKK15 _ _ <| wp_seq_k fun KK21 hKK21 => wp_seq_k fun KK22 hKK22 => rl_begin fun hgK hgo => tk 205 (.string (bs li)) ?_
  simp only [pp]
  refine tx 206 (.int .i64 li.length) (by exact ex_len_bs (by kernel_rfl)) <| tk 207 (.pointer (some ⟨q, 3, none⟩)) ?_
  simp only [pp]
  replace hq := hq.later (show Ltr w10 _ from hS20)
  refine tx 208 (.int .i64 lo) (by exact ld 3 q 3 (hq.cell 3)) <| tk 209 (.pointer (some ⟨q, 4, none⟩)) ?_
  simp only [pp]
  refine tx 210 (.int .i64 hh) (by exact ld 3 q 4 (hq.cell 4)) ?_
  simp only [pp]
  refine rl_call (some 211) 59 #[.int .i64 li.length, .int .i64 lo, .int .i64 hh] rfl (by kernel_rfl) (by kernel_rfl) (Span_false li.length lo hh h1 _) ?_
  rintro e w23 ⟨rfl, hL23⟩
  refine ⟨_, rfl, ?_⟩
  have hz23 := hL23.size
  try simp only [pp]
  refine tk 212 (.bool true) ?_
  simp only [pp]
  refine rl_end hgo <| hKK22 _ _ <| wp_cond_true (by kernel_rfl) <| wp_seq_k fun KK24 hKK24 => rl_begin fun hgK hgo => tk 213 (.pointer none) <| tk 214 (.bool true) <| tk 215 (.bool true) <| tk 216 (.int .i64 2) ?_
  simp only [pp]
  refine tx 217 (.bool true) (by exact eqt (x := 2) (y := 2) (by omega)) <| tk 218 (.bool true) <| tk 4 (.bool true) ?_
  simp only [pp]
  refine rl_end hgo <| hKK24 _ _ ?_
  refine wp_ret ?_
  try simp only [Exit.then, Exit.inBlock]
  refine bp_ret (v := .bool true) (res1 rfl (res_tmp (by kernel_rfl))) ?_
  replace hB := ((((hB.later hL2).later (show Ltr w2 _ from hS7)).later (show Ltr w7 _ from hS10)).later (show Ltr w10 _ from hS20)).later hL23
  replace hk := ((((hk.later hL2).later (show Ltr w2 _ from hS7)).later (show Ltr w7 _ from hS10)).later (show Ltr w10 _ from hS20)).later hL23
  replace hx := ((hx.later (show Ltr w7 _ from hS10)).later (show Ltr w10 _ from hS20)).later hL23
  exact ⟨rfl, _, _, [], hx, by rw [List.append_nil]; exact hk, ⟨hnw, Below.mono hB hnw⟩, .nil⟩
end
end Go.Proofs.YtliphfgiaioebaaDoor
