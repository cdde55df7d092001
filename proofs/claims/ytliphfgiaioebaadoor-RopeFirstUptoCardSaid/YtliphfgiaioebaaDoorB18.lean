/-
  Law 9: RopeFirst's function.
  The four laid variables: what the rows' list says of their cells.
  Law 9: an input's acts and bytes, opened; read again behind the call; a world that the cards start from.
  RopeFirst, where what it reads is of bulk at most 1048576: whatever the acts and the numbers, it answers true, and its input reads as it did.
-/
import Derived.Test.YtliphfgiaioebaaDoorB17
import Derived.Test.YtliphfgiaioebaaDoorCards
import Derived.Test.YtliphfgiaioebaaDoorTie
import Derived.Lib.LaidTab
import Derived.Deep.Strs
import Derived.OpenShut
import Derived.ProofKit
import Derived.Deep.DeepHandedRow
import Derived.Deep.Slices
import Derived.Deep.Fields
import Derived.ChangeSame
namespace Go.Proofs.YtliphfgiaioebaaDoor
set_option linter.unusedVariables false
set_option linter.unusedSimpArgs false
open Go.RowKit
set_option maxRecDepth 100000
set_option maxHeartbeats 16000000
theorem endsN_bd (l : List UInt8) : 0 ≤ endsN l ∧ endsN l ≤ l.length := sm_bd l l.length
theorem enough_any (q : List UInt8) (asked k : Int) (a0 k0 : Nat) (w : World) (ha : Blk w a0 3 #[.int .i64 asked]) (hk : Blk w k0 3 #[.int .i64 k]) (hq : q.length ≤ 4000000) :
    Calls Tryd.prog 20 #[.agg #[.int .i64 q.length, .int .i64 (runesN q), .int .i64 (unitsN q), .int .i64 (endsN q), .string (bs (headOf q)), .string (bs (tailOf q))], .pointer (some ⟨a0, 0, none⟩), .pointer (some ⟨k0, 0, none⟩)] w fun e w' => e = .returned (.bool (decide (k ≤ meas asked q))) ∧ Ltr w w' := by
  have hB := Ltr.refl w
  have he := endsN_bd q
  have hm : meas asked q = if asked = 0 then (q.length : Int) else if asked = 1 then endsN q else q.length + endsN q := rfl
  go_enter Tryd.func20, Tryd.ntmps20
  have hlt_ha := ha.lt
  have hlt_hk := hk.lt
  refine wp_seq_k fun KK1 hKK1 => rl_begin fun hgK hgo => ?_
  refine rl_alloc (some 3) 36 #[.int .i64 q.length, .int .i64 (runesN q), .int .i64 (unitsN q), .int .i64 (endsN q), .string (bs (headOf q)), .string (bs (tailOf q))] rfl (by kernel_rfl) (fun W => by kernel_rfl) fun p w2 hL2 hp2 hp => ?_
  replace hB := hB.later hL2
  replace ha := ha.later hL2
  replace hk := hk.later hL2
  have hz2 := hL2.size
  have hlt2 := hp.lt
  try simp only [pp]
  refine tk 4 (.bool false) ?_
  try simp only [pp]
  refine rl_end hgo <| hKK1 _ _ <| wp_seq_k fun KK3 hKK3 => wp_seq_k fun KK4 hKK4 => rl_begin fun hgK hgo => ?_
  refine tx 5 (.int .i64 asked) (by exact ld1 3 _ rfl a0 0 rfl (fun _ => by kernel_rfl) _ (ha.cell 0)) ?_
  try simp only [pp]
  by_cases h1 : asked = 0
  · refine tx 6 (.bool true) (by exact ex_beq (x := asked) (y := 0) (by kernel_rfl) ⟨fun _ => by omega, fun _ => rfl⟩) ?_
    try simp only [pp]
    refine rl_end hgo <| hKK4 _ _ <| wp_cond_true (by kernel_rfl) <| wp_seq_k fun KK5 hKK5 => rl_begin fun hgK hgo => tk 7 (.pointer (some ⟨p, 0, none⟩)) <| tk 8 (.pointer (some ⟨p, 0, none⟩)) ?_
    try simp only [pp]
    refine tx 9 (.int .i64 q.length) (by exact ld1 3 _ rfl p 0 rfl (fun _ => by kernel_rfl) _ (hp.cell 0)) ?_
    try simp only [pp]
    refine tx 10 (.int .i64 k) (by exact ld1 3 _ rfl k0 0 rfl (fun _ => by kernel_rfl) _ (hk.cell 0)) ?_
    try simp only [pp]
    by_cases h2 : (q.length : Int) ≥ k
    · refine tx 11 (.bool true) (by exact ex_bool (c := (q.length : Int) ≥ k) (by kernel_rfl) ⟨fun _ => by omega, fun _ => rfl⟩) <| tk 4 (.bool true) ?_
      try simp only [pp]
      refine rl_end hgo <| hKK5 _ _ ?_
      refine wp_ret ?_
      try simp only [Exit.then, Exit.inBlock]
      refine bp_ret (v := .bool true) (res1 rfl (res_tmp (by kernel_rfl))) ?_
      exact ⟨by rw [decide_eq_true (by rw [hm]; (repeat' split) <;> omega)], hB⟩
    · refine tx 11 (.bool false) (by exact ex_bool (c := (q.length : Int) ≥ k) (by kernel_rfl) ⟨fun q => (by cases q), fun q => absurd q (by omega)⟩) <| tk 4 (.bool false) ?_
      try simp only [pp]
      refine rl_end hgo <| hKK5 _ _ ?_
      refine wp_ret ?_
      try simp only [Exit.then, Exit.inBlock]
      refine bp_ret (v := .bool false) (res1 rfl (res_tmp (by kernel_rfl))) ?_
      exact ⟨by rw [decide_eq_false (by rw [hm]; (repeat' split) <;> omega)], hB⟩
  · refine tx 6 (.bool false) (by exact ex_beq (x := asked) (y := 0) (by kernel_rfl) ⟨fun q => (by cases q), fun q => absurd q (by omega)⟩) ?_
    try simp only [pp]
    refine rl_end hgo <| hKK4 _ _ <| wp_cond_false (by kernel_rfl) <| wp_skip <| hKK3 _ _ <| wp_seq_k fun KK6 hKK6 => wp_seq_k fun KK7 hKK7 => rl_begin fun hgK hgo => ?_
    refine tx 12 (.int .i64 asked) (by exact ld1 3 _ rfl a0 0 rfl (fun _ => by kernel_rfl) _ (ha.cell 0)) ?_
    try simp only [pp]
    by_cases h3 : asked = 1
    · refine tx 13 (.bool true) (by exact ex_beq (x := asked) (y := 1) (by kernel_rfl) ⟨fun _ => by omega, fun _ => rfl⟩) ?_
      try simp only [pp]
      refine rl_end hgo <| hKK7 _ _ <| wp_cond_true (by kernel_rfl) <| wp_seq_k fun KK8 hKK8 => rl_begin fun hgK hgo => tk 14 (.pointer (some ⟨p, 0, none⟩)) <| tk 15 (.pointer (some ⟨p, 3, none⟩)) ?_
      try simp only [pp]
      refine tx 16 (.int .i64 (endsN q)) (by exact ld1 3 _ rfl p 3 rfl (fun _ => by kernel_rfl) _ (hp.cell 3)) ?_
      try simp only [pp]
      refine tx 17 (.int .i64 k) (by exact ld1 3 _ rfl k0 0 rfl (fun _ => by kernel_rfl) _ (hk.cell 0)) ?_
      try simp only [pp]
      by_cases h2 : endsN q ≥ k
      · refine tx 18 (.bool true) (by exact ex_bool (c := (endsN q : Int) ≥ k) (by kernel_rfl) ⟨fun _ => by omega, fun _ => rfl⟩) <| tk 4 (.bool true) ?_
        try simp only [pp]
        refine rl_end hgo <| hKK8 _ _ ?_
        refine wp_ret ?_
        try simp only [Exit.then, Exit.inBlock]
        refine bp_ret (v := .bool true) (res1 rfl (res_tmp (by kernel_rfl))) ?_
        exact ⟨by rw [decide_eq_true (by rw [hm]; (repeat' split) <;> omega)], hB⟩
      · refine tx 18 (.bool false) (by exact ex_bool (c := (endsN q : Int) ≥ k) (by kernel_rfl) ⟨fun q => (by cases q), fun q => absurd q (by omega)⟩) <| tk 4 (.bool false) ?_
        try simp only [pp]
        refine rl_end hgo <| hKK8 _ _ ?_
        refine wp_ret ?_
        try simp only [Exit.then, Exit.inBlock]
        refine bp_ret (v := .bool false) (res1 rfl (res_tmp (by kernel_rfl))) ?_
        exact ⟨by rw [decide_eq_false (by rw [hm]; (repeat' split) <;> omega)], hB⟩
    · refine tx 13 (.bool false) (by exact ex_beq (x := asked) (y := 1) (by kernel_rfl) ⟨fun q => (by cases q), fun q => absurd q (by omega)⟩) ?_
      try simp only [pp]
      refine rl_end hgo <| hKK7 _ _ <| wp_cond_false (by kernel_rfl) <| wp_skip <| hKK6 _ _ <| wp_seq_k fun KK9 hKK9 => rl_begin fun hgK hgo => tk 19 (.pointer (some ⟨p, 0, none⟩)) <| tk 20 (.pointer (some ⟨p, 0, none⟩)) ?_
      try simp only [pp]
      refine tx 21 (.int .i64 q.length) (by exact ld1 3 _ rfl p 0 rfl (fun _ => by kernel_rfl) _ (hp.cell 0)) <| tk 22 (.pointer (some ⟨p, 0, none⟩)) <| tk 23 (.pointer (some ⟨p, 3, none⟩)) ?_
      try simp only [pp]
      refine tx 24 (.int .i64 (endsN q)) (by exact ld1 3 _ rfl p 3 rfl (fun _ => by kernel_rfl) _ (hp.cell 3)) ?_
      try simp only [pp]
      refine tx 25 (.int .i64 ((q.length : Int) + (endsN q))) (by exact ex_arith (e := (q.length : Int) + (endsN q)) (r := (q.length : Int) + (endsN q)) (by kernel_rfl) (by omega) (by omega)) ?_
      try simp only [pp]
      refine tx 26 (.int .i64 k) (by exact ld1 3 _ rfl k0 0 rfl (fun _ => by kernel_rfl) _ (hk.cell 0)) ?_
      try simp only [pp]
      by_cases h2 : (q.length : Int) + endsN q ≥ k
      · refine tx 27 (.bool true) (by exact ex_bool (c := (((q.length : Int) + (endsN q)) : Int) ≥ k) (by kernel_rfl) ⟨fun _ => by omega, fun _ => rfl⟩) <| tk 4 (.bool true) ?_
        try simp only [pp]
        refine rl_end hgo <| hKK9 _ _ ?_
        refine wp_ret ?_
        try simp only [Exit.then, Exit.inBlock]
        refine bp_ret (v := .bool true) (res1 rfl (res_tmp (by kernel_rfl))) ?_
        exact ⟨by rw [decide_eq_true (by rw [hm]; (repeat' split) <;> omega)], hB⟩
      · refine tx 27 (.bool false) (by exact ex_bool (c := (((q.length : Int) + (endsN q)) : Int) ≥ k) (by kernel_rfl) ⟨fun q => (by cases q), fun q => absurd q (by omega)⟩) <| tk 4 (.bool false) ?_
        try simp only [pp]
        refine rl_end hgo <| hKK9 _ _ ?_
        refine wp_ret ?_
        try simp only [Exit.then, Exit.inBlock]
        refine bp_ret (v := .bool false) (res1 rfl (res_tmp (by kernel_rfl))) ?_
        exact ⟨by rw [decide_eq_false (by rw [hm]; (repeat' split) <;> omega)], hB⟩
theorem first_law (b : Nat) (t : List UInt8) (asked k r : Int) (a0 k0 : Nat) (w : World) (hr : LastP t k asked r) (hT : Tabs w) (hro : RopeAt w b t) (ha : Blk w a0 3 #[.int .i64 asked]) (hk : Blk w k0 3 #[.int .i64 k]) (ht : t.length ≤ 4000000) :
    Calls Tryd.prog 21 #[.pointer (some ⟨b, 0, none⟩), .func (.func 20) #[] #[.pointer (some ⟨a0, 0, none⟩), .pointer (some ⟨k0, 0, none⟩)]] w fun e w' => e = .returned (.int .i64 r) ∧ Ltr w w' := by
  obtain ⟨v, ot, hn⟩ := hro.n
  have hla := ha.lt
  have hlk := hk.lt
  have hAsk : Asks 20 #[.pointer (some ⟨a0, 0, none⟩), .pointer (some ⟨k0, 0, none⟩)] w.heap.size w.heap.size t (fun q => decide (k ≤ meas asked q)) (fun W => Blk W a0 3 #[.int .i64 asked] ∧ Blk W k0 3 #[.int .i64 k]) :=
    ⟨fun A B hJ hm hb => ⟨hJ.1.bel hb hla, hJ.2.bel hb hlk⟩, enters_of Tryd.func20 (by kernel_rfl) rfl, fun q s W hq hJ _ _ => (enough_any q asked k a0 k0 W hJ.1 hJ.2 (by rw [← hq, List.length_append] at ht; omega)).mono fun e w' h => by
      obtain ⟨rfl, hl⟩ := h
      have hJ' : Blk w' a0 3 #[.int .i64 asked] ∧ Blk w' k0 3 #[.int .i64 k] := ⟨hJ.1.later hl, hJ.2.later hl⟩
      by_cases h3 : k ≤ meas asked q
      · exact .inl ⟨by rw [decide_eq_true h3], decide_eq_true h3, hl.toMid, hJ'⟩
      · exact .inr ⟨by rw [decide_eq_false h3], decide_eq_false h3, hl.toMid, hJ'⟩⟩
  exact (First_any _ _ w.heap.size w.heap.size b t v ot _ _ hAsk w hT hT.four (Nat.le_refl _) (Nat.le_refl _) hn ⟨ha, hk⟩ (by omega)).mono fun e w' h => ⟨first_last h.1 hr, h.2.1.ltr⟩
theorem RopeFirst_walk {n : Nat} (A : Option Addr) (c : Nat) (l : List ActD) (k asked : Int) (w : World) (hT : Tabs w) (hA : ActsAt n w A l) (hc : l.length ≤ c) (hm : l.length ≤ 1100000) :
    Calls Tryd.prog 4 #[.slice A l.length c, .int .i64 k, .int .i64 asked] w fun e w' => e = .returned (.bool true) ∧ Ltr w w' := by
  have hB := Ltr.refl w
  go_enter Tryd.func4, Tryd.ntmps4
  have h4 := hT.four
  refine wp_seq_k fun KK1 hKK1 => rl_begin fun hgK hgo => ?_
  refine rl_alloc (some 4) 3 #[.int .i64 k] rfl (by kernel_rfl) (fun W => by kernel_rfl) fun kb w2 hL2 hp2 hkb => ?_
  replace hT := hT.later hL2
  replace hB := hB.later hL2
  replace hA := hA.later hL2
  have hz2 := hL2.size
  have hlt2 := hkb.lt
  try simp only [pp]
  refine rl_alloc (some 5) 3 #[.int .i64 asked] rfl (by kernel_rfl) (fun W => by kernel_rfl) fun ab w3 hL3 hp3 hab => ?_
  replace hT := hT.later hL3
  replace hB := hB.later hL3
  replace hA := hA.later hL3
  replace hkb := hkb.later hL3
  have hz3 := hL3.size
  have hlt3 := hab.lt
  try simp only [pp]
  refine tk 6 (.bool false) ?_
  try simp only [pp]
  refine rl_end hgo <| hKK1 _ _ <| wp_seq_k fun KK4 hKK4 => wp_seq_k fun KK5 hKK5 => rl_begin fun hgK hgo => ?_
  refine rl_call (some 12) 17 #[] rfl (by kernel_rfl) (by kernel_rfl) (wakes_any _ hT) ?_
  rintro e w6 ⟨rfl, hL6⟩
  refine ⟨_, rfl, ?_⟩
  replace hT := hT.later hL6
  replace hB := hB.later hL6
  replace hA := hA.later hL6
  replace hkb := hkb.later hL6
  replace hab := hab.later hL6
  have hz6 := hL6.size
  try simp only [pp]
  refine tk 13 (.bool false) ?_
  try simp only [pp]
  refine rl_end hgo <| hKK5 _ _ <| wp_cond_false (by kernel_rfl) <| wp_skip <| hKK4 _ _ <| wp_seq_k fun KK7 hKK7 => rl_begin fun hgK hgo => tk 15 (.slice A l.length c) ?_
  try simp only [pp]
  refine rl_call (some 16) 18 #[.slice A l.length c] rfl (by kernel_rfl) (by kernel_rfl) (play_r A c l _ hT hA hc hm) ?_
  rintro e w8 ⟨A1, A2, c1, c2, rs, N, rfl, hL8, hP, hN⟩
  refine ⟨_, rfl, ?_⟩
  replace hT := hT.later hL8
  replace hB := hB.later hL8
  replace hA := hA.later hL8
  replace hkb := hkb.later hL8
  replace hab := hab.later hL8
  have hz8 := hL8.size
  have hrl := hP.len
  clear hA
  try simp only [pp]
  refine tk 14 (.tuple #[.agg #[.slice A1 rs.length c1, .slice A2 rs.length c2], .bool true]) <| tk 17 (.agg #[.slice A1 rs.length c1, .slice A2 rs.length c2]) <| tk 18 (.bool true) ?_
  try simp only [pp]
  refine rl_alloc (some 7) 27 #[.slice none 0 0, .slice none 0 0] rfl (by kernel_rfl) (fun W => by kernel_rfl) fun bk w9 hL9 hp9 hbk => ?_
  replace hT := hT.later hL9
  replace hB := hB.later hL9
  replace hkb := hkb.later hL9
  replace hab := hab.later hL9
  replace hP := hP.later hL9
  have hz9 := hL9.size
  have hlt9 := hbk.lt
  try simp only [pp]
  refine rl_store bk #[.slice A1 rs.length c1, .slice A2 rs.length c2] rfl rfl (by kernel_rfl) rfl rfl (by kernel_rfl) hbk rfl (by kernel_rfl) fun w10 hU10 hn10 => ?_
  have hz10 := hU10.size
  replace hT := hT.upd hU10 (by omega)
  replace hB := hB.upd hU10 (by omega)
  replace hkb := hkb.upd hU10 (by omega)
  replace hab := hab.upd hU10 (by omega)
  replace hP := hP.upd hU10 (by omega)
  clear hbk
  have hbk := hn10
  clear hn10
  try simp only [pp]
  refine tk 8 (.bool true) ?_
  try simp only [pp]
  refine rl_end hgo <| hKK7 _ _ <| wp_seq_k fun KK11 hKK11 => wp_seq_k fun KK12 hKK12 => rl_begin fun hgK hgo => tk 19 (.bool true) <| tk 20 (.bool false) ?_
  try simp only [pp]
  refine rl_end hgo <| hKK12 _ _ <| wp_cond_false (by kernel_rfl) <| wp_skip <| hKK11 _ _ <| wp_seq_k fun KK13 hKK13 => wp_seq_k fun KK14 hKK14 => rl_begin fun hgK hgo => tk 21 (.pointer (some ⟨bk, 0, none⟩)) ?_
  try simp only [pp]
  refine tx 22 (.slice A1 rs.length c1) (by exact ld1 24 _ rfl bk 0 rfl (fun _ => by kernel_rfl) _ (hbk.cell 0)) <| tk 23 (.int .i64 rs.length) <| tk 24 (.int .i64 0) ?_
  try simp only [pp]
  refine rl_end hgo <| hKK14 _ _ <| wp_block ?_
  refine wp_loop_ghost (fun gn ga wl => ∃ (u : Nat → Value) (i : Nat), gn = rs.length - i ∧ ga = ⟨#[.slice A l.length c, .int .i64 k, .int .i64 asked, undef, .pointer (some ⟨kb, 0, none⟩), .pointer (some ⟨ab, 0, none⟩), u 6, .pointer (some ⟨bk, 0, none⟩), .bool true, u 9, u 10, u 11, .bool true, .bool false, .tuple #[.agg #[.slice A1 rs.length c1, .slice A2 rs.length c2], .bool true], .slice A l.length c, .tuple #[.agg #[.slice A1 rs.length c1, .slice A2 rs.length c2], .bool true], .agg #[.slice A1 rs.length c1, .slice A2 rs.length c2], .bool true, .bool true, .bool false, .pointer (some ⟨bk, 0, none⟩), .slice A1 rs.length c1, .int .i64 rs.length, .int .i64 i, u 25, u 26, u 27, u 28, u 29, u 30, u 31, u 32, u 33, u 34, u 35, u 36, u 37, u 38, u 39, u 40, u 41, u 42, u 43, u 44, u 45], []⟩ ∧ (i ≤ rs.length) ∧ (Tabs wl) ∧ (Ltr w wl) ∧ (Ropes N A1 A2 rs wl) ∧ (Blk wl bk 27 #[.slice A1 rs.length c1, .slice A2 rs.length c2]) ∧ (Blk wl kb 3 #[.int .i64 k]) ∧ (Blk wl ab 3 #[.int .i64 asked])) ((fun (i : Nat) => (rs.length - i : Nat)) 0) ?_ ?_
  · exact ⟨fun gj => (#[.slice A l.length c, .int .i64 k, .int .i64 asked, undef, .pointer (some ⟨kb, 0, none⟩), .pointer (some ⟨ab, 0, none⟩), .bool false, .pointer (some ⟨bk, 0, none⟩), .bool true, undef, undef, undef, .bool true, .bool false, .tuple #[.agg #[.slice A1 rs.length c1, .slice A2 rs.length c2], .bool true], .slice A l.length c, .tuple #[.agg #[.slice A1 rs.length c1, .slice A2 rs.length c2], .bool true], .agg #[.slice A1 rs.length c1, .slice A2 rs.length c2], .bool true, .bool true, .bool false, .pointer (some ⟨bk, 0, none⟩), .slice A1 rs.length c1, .int .i64 rs.length, .int .i64 0, undef, undef, undef, undef, undef, undef, undef, undef, undef, undef, undef, undef, undef, undef, undef, undef, undef, undef, undef, undef, undef]).getD gj undef, 0, rfl, rfl, Nat.zero_le _, by assumption, by assumption, by assumption, by assumption, by assumption, by assumption⟩
  rintro n15 a15 w15 ⟨u, i, rfl, rfl, hil', hT', hB', hP', hbk', hkb', hab'⟩
  clear hbk hP hab hkb hB hT
  have hil := hil'
  clear hil'
  have hT := hT'
  clear hT'
  have hB := hB'
  clear hB'
  have hP := hP'
  clear hP'
  have hbk := hbk'
  clear hbk'
  have hkb := hkb'
  clear hkb'
  have hab := hab'
  clear hab'
  have hlt_hbk_15 := hbk.lt
  have hlt_hkb_15 := hkb.lt
  have hlt_hab_15 := hab.lt
  refine wp_seq_k fun KK16 hKK16 => rl_begin fun hgK hgo => ?_
  by_cases h1 : (i : Int) < rs.length
  · refine tx 25 (.bool true) (by exact ex_bool (c := (i : Int) < rs.length) (by kernel_rfl) ⟨fun _ => by omega, fun _ => rfl⟩) ?_
    try simp only [pp]
    refine rl_end hgo <| hKK16 _ _ <| wp_seq_k fun KK17 hKK17 => wp_cond_true (by kernel_rfl) <| wp_skip <| hKK17 _ _ <| wp_seq_k fun KK18 hKK18 => wp_block <| wp_seq_k fun KK19 hKK19 => rl_begin fun hgK hgo => tk 26 (.int .i64 i) <| tk 9 (.int .i64 i) ?_
    try simp only [pp]
    refine rl_end hgo <| hKK19 _ _ <| wp_seq_k fun KK20 hKK20 => rl_begin fun hgK hgo => tk 27 (.pointer (some ⟨bk, 1, none⟩)) ?_
    try simp only [pp]
    refine tx 28 (.slice A2 rs.length c2) (by exact ld1 25 _ rfl bk 1 rfl (fun _ => by kernel_rfl) _ (hbk.cell 1)) <| tk 29 (.int .i64 i) ?_
    try simp only [pp]
    (obtain ⟨b, t, hbt⟩ := rope_i i (by omega : i < rs.length)); (have htl := hP.lt hbt); (obtain ⟨gb, go', he1, hgn, hg1⟩ := hP.p i (by omega)); (obtain ⟨gs, gt, he2, hgn2, hg2⟩ := hP.s i (by omega)); (obtain ⟨r, hlr⟩ := last_ex t k asked)
    refine tx 30 (.pointer (some ⟨gs, gt + i, none⟩)) (by exact ex_indexA i rfl rfl he2 rfl (by kernel_rfl) (fun _ => by kernel_rfl) (by omega) _) ?_
    try simp only [pp]
    refine tx 31 (.string (bs t)) (by exact ld1 9 _ rfl gs (gt + i) rfl (fun _ => by kernel_rfl) _ (hg2 _ _ (strs_at hbt))) <| tk 10 (.string (bs t)) ?_
    try simp only [pp]
    refine rl_end hgo <| hKK20 _ _ <| wp_seq_k fun KK21 hKK21 => rl_begin fun hgK hgo => tk 32 (.func (.func 20) #[] #[.pointer (some ⟨ab, 0, none⟩), .pointer (some ⟨kb, 0, none⟩)]) <| tk 11 (.func (.func 20) #[] #[.pointer (some ⟨ab, 0, none⟩), .pointer (some ⟨kb, 0, none⟩)]) ?_
    try simp only [pp]
    refine rl_end hgo <| hKK21 _ _ <| wp_seq_k fun KK22 hKK22 => ?_
    refine rm_begin (fun W => Ltr w15 W) (by kernel_rfl) (by exact bl_drew (bl_refl _)) fun K23 hgo w23 hE hS23 => ?_
    have hv23 : Ltr w15 w23 := by rw [hE]; exact bl_drew (bl_refl _)
    have hz23 := hv23.size
    clear hE hS23
    refine mk 0 33 (.pointer (some ⟨bk, 0, none⟩)) ?_
    try simp only [pp]
    refine mx 1 34 (.slice A1 rs.length c1) rfl (fun W hW => by (exact ld1 24 _ rfl bk 0 rfl (fun _ => by kernel_rfl) _ ((hbk.later hW).cell 0))) <| mk 2 35 (.int .i64 i) ?_
    try simp only [pp]
    refine mx 3 36 (.pointer (some ⟨gb, go' + i, none⟩)) rfl (fun W hW => by (exact ex_indexA i rfl rfl he1 rfl (by kernel_rfl) (fun _ => by kernel_rfl) (by omega) _)) ?_
    try simp only [pp]
    refine mx 4 37 (.pointer (some ⟨b, 0, none⟩)) rfl (fun W hW => by (exact ld1 31 _ rfl gb (go' + i) rfl (fun _ => by kernel_rfl) _ (bl_cell hW (hg1 _ _ (ptrs_at hbt))))) <| mk 5 38 (.func (.func 20) #[] #[.pointer (some ⟨ab, 0, none⟩), .pointer (some ⟨kb, 0, none⟩)]) ?_
    try simp only [pp]
    refine rm_call 6 (some 39) (.int .i64 r) 21 #[.pointer (some ⟨b, 0, none⟩), .func (.func 20) #[] #[.pointer (some ⟨ab, 0, none⟩), .pointer (some ⟨kb, 0, none⟩)]] (oi := { dst := some 39, op := Go.Op.call { callee := Go.Callee.value (Go.Operand.func 21), args := #[Go.Operand.tmp 37, Go.Operand.tmp 38], argTypes := #[31, 37] }, type := 3, pos := "law.go:218", after := #[{ on := 4, ground := Go.Ground.data }, { on := 5, ground := Go.Ground.data }], guard := none }) rfl rfl (by kernel_rfl) (by kernel_rfl) (by kernel_rfl) (by kernel_rfl) (fun W hW => by kernel_rfl) (fun W hW => first_law b t asked k r ab kb W hlr (hT.later hW) ((hP.at hbt).later hW) (hab.later hW) (hkb.later hW) htl) (fun _ _ h k => Ltr.trans h k) ?_
    try simp only [pp]
    refine mk 7 40 (.string (bs t)) ?_
    try simp only [pp]
    refine mx 8 41 (.int .i64 k) rfl (fun W hW => by (exact ld1 3 _ rfl kb 0 rfl (fun _ => by kernel_rfl) _ ((hkb.later hW).cell 0))) ?_
    try simp only [pp]
    refine mx 9 42 (.int .i64 asked) rfl (fun W hW => by (exact ld1 3 _ rfl ab 0 rfl (fun _ => by kernel_rfl) _ ((hab.later hW).cell 0))) ?_
    try simp only [pp]
    refine rm_call 10 (some 43) (.int .i64 r) 22 #[.string (bs t), .int .i64 k, .int .i64 asked] (oi := { dst := some 43, op := Go.Op.call { callee := Go.Callee.value (Go.Operand.func 22), args := #[Go.Operand.tmp 40, Go.Operand.tmp 41, Go.Operand.tmp 42], argTypes := #[9, 3, 3] }, type := 3, pos := "law.go:218", after := #[{ on := 7, ground := Go.Ground.data }, { on := 8, ground := Go.Ground.data }, { on := 9, ground := Go.Ground.data }, { on := 6, ground := Go.Ground.chain }], guard := none }) rfl rfl (by kernel_rfl) (by kernel_rfl) (by kernel_rfl) (by kernel_rfl) (fun W hW => by kernel_rfl) (fun W hW => lasting_any t k asked r hlr (by omega) _) (fun _ _ h k => Ltr.trans h k) ?_
    try simp only [pp]
    refine mx 11 44 (.bool false) rfl (fun W hW => by (exact ex_bne (x := r) (y := r) (by kernel_rfl) ⟨fun q => (by cases q), fun q => absurd q (by omega)⟩)) ?_
    try simp only [pp]
    refine rm_done (by kernel_rfl) (fun w24 hL24 hS24 => hgo.out _ _ ?_) _
    clear hgo K23
    replace hT := hT.later (show Ltr w15 _ from hS24)
    replace hB := hB.later (show Ltr w15 _ from hS24)
    replace hP := hP.later (show Ltr w15 _ from hS24)
    replace hbk := hbk.later (show Ltr w15 _ from hS24)
    replace hkb := hkb.later (show Ltr w15 _ from hS24)
    replace hab := hab.later (show Ltr w15 _ from hS24)
    have hz24 := (show Ltr w15 _ from hS24).size
    have hy24 := hL24.size
    refine hKK22 _ _ <| wp_cond_false (by kernel_rfl) <| wp_skip <| hKK18 _ _ <| rl_begin fun hgK hgo => ?_
    refine tx 45 (.int .i64 (((i + 1 : Nat) : Int))) (by exact ex_arith (e := (i : Int) + 1) (r := ((i + 1 : Nat) : Int)) (by kernel_rfl) (by omega) (by omega)) <| tk 24 (.int .i64 (((i + 1 : Nat) : Int))) ?_
    try simp only [pp]
    refine rl_end hgo ?_
    exact ⟨_, (by omega), fun gj => (#[.slice A l.length c, .int .i64 k, .int .i64 asked, undef, .pointer (some ⟨kb, 0, none⟩), .pointer (some ⟨ab, 0, none⟩), u 6, .pointer (some ⟨bk, 0, none⟩), .bool true, .int .i64 i, .string (bs t), .func (.func 20) #[] #[.pointer (some ⟨ab, 0, none⟩), .pointer (some ⟨kb, 0, none⟩)], .bool true, .bool false, .tuple #[.agg #[.slice A1 rs.length c1, .slice A2 rs.length c2], .bool true], .slice A l.length c, .tuple #[.agg #[.slice A1 rs.length c1, .slice A2 rs.length c2], .bool true], .agg #[.slice A1 rs.length c1, .slice A2 rs.length c2], .bool true, .bool true, .bool false, .pointer (some ⟨bk, 0, none⟩), .slice A1 rs.length c1, .int .i64 rs.length, .int .i64 (((i + 1 : Nat) : Int)), .bool true, .int .i64 i, .pointer (some ⟨bk, 1, none⟩), .slice A2 rs.length c2, .int .i64 i, .pointer (some ⟨gs, gt + i, none⟩), .string (bs t), .func (.func 20) #[] #[.pointer (some ⟨ab, 0, none⟩), .pointer (some ⟨kb, 0, none⟩)], .pointer (some ⟨bk, 0, none⟩), .slice A1 rs.length c1, .int .i64 i, .pointer (some ⟨gb, go' + i, none⟩), .pointer (some ⟨b, 0, none⟩), .func (.func 20) #[] #[.pointer (some ⟨ab, 0, none⟩), .pointer (some ⟨kb, 0, none⟩)], .int .i64 r, .string (bs t), .int .i64 k, .int .i64 asked, .int .i64 r, .bool false, .int .i64 (((i + 1 : Nat) : Int))]).getD gj undef, i + 1, rfl, rfl, by omega, by assumption, by assumption, by assumption, by assumption, by assumption, by assumption⟩
  · refine tx 25 (.bool false) (by exact ex_bool (c := (i : Int) < rs.length) (by kernel_rfl) ⟨fun q => (by cases q), fun q => absurd q (by omega)⟩) ?_
    try simp only [pp]
    refine rl_end hgo <| hKK16 _ _ <| wp_seq_k fun KK25 hKK25 => wp_cond_false (by kernel_rfl) <| wp_exit <| hKK13 _ _ <| wp_seq_k fun KK26 hKK26 => rl_begin fun hgK hgo => tk 6 (.bool true) ?_
    try simp only [pp]
    refine rl_end hgo <| hKK26 _ _ ?_
    refine wp_ret ?_
    try simp only [Exit.then, Exit.inBlock]
    refine bp_ret (v := .bool true) (res1 rfl (res_tmp (by kernel_rfl))) ?_
    exact ⟨rfl, hB⟩
end Go.Proofs.YtliphfgiaioebaaDoor
namespace Go.Proofs.YtliphfgiaioebaaDoor
set_option linter.unusedVariables false
set_option linter.unusedSimpArgs false
open Go.ChangeShapes Go.WideShapes Go.ChangeAt Go.RowKit Go.Deep
theorem chunks (k : Nat) : ∀ (n : Nat) (cs : List Value) (T : Nat → List Value), cs.length = n * k → (∀ i, i < n → (cs.drop (i * k)).take k = T i) → cs = (List.range n).flatMap T
  | 0, cs, T, h, _ => by simp at h; simp [h]
  | n + 1, cs, T, h, hT => by
    rw [List.range_succ_eq_map, List.flatMap_cons, List.flatMap_map]
    have h0 := hT 0 (by omega)
    simp only [Nat.zero_mul, List.drop_zero] at h0
    have ih := chunks k n (cs.drop k) (fun i => T (i + 1)) (by rw [List.length_drop, h, Nat.add_mul]; omega) fun i hi => by
      have := hT (i + 1) (by omega)
      rw [List.drop_drop, show k + i * k = (i + 1) * k by rw [Nat.add_mul]; omega]
      exact this
    conv => lhs; rw [← List.take_append_drop k cs, h0, ih]
theorem three {cs : List Value} (h : cs.length = 3) : ∃ x y z, cs = [x, y, z] := by
  match cs, h with
  | [x, y, z], _ => exact ⟨x, y, z, rfl⟩
section
variable {H : Type} {enc : TypeId × Value → H} {W : World} {base : Nat} {sp : Nat → Bool} {held : Bool} {fuel : Nat} {cs : List Value} {p : List MemPlace}
theorem span_cells {a b c : Int} (h : DataW.trod enc Tryd.prog W base sp held fuel 201 cs = some (.agg [.lit (.int .i64 a), .lit (.int .i64 b), .lit (.int .i64 c)], p)) : cs = [.int .i64 a, .int .i64 b, .int .i64 c] := by
  obtain ⟨y0, y1, y2, n, hx, hl, h0, h1, h2⟩ := trod_struct3 (show Tryd.prog.underlying 201 = some (.struct #[_, _, _]) from Tryd.underlying201) h
  obtain ⟨z0, c0, e0, -⟩ := DataW.trod_int (k := .i64) (by kernel_rfl) h0
  obtain ⟨z1, c1, e1, -⟩ := DataW.trod_int (k := .i64) (by kernel_rfl) h1
  obtain ⟨z2, c2, e2, -⟩ := DataW.trod_int (k := .i64) (by kernel_rfl) h2
  subst e0 e1 e2
  simp only [Prod.mk.injEq, DataW.agg.injEq, List.cons.injEq, DataW.lit.injEq, Lit.int.injEq, true_and, and_true] at hx
  obtain ⟨⟨rfl, rfl, rfl⟩, -⟩ := hx
  rw [show Tryd.prog.cellsOf 201 = 3 by kernel_rfl] at hl
  clear h h0 h1 h2
  obtain ⟨x, y, z, rfl⟩ := three hl
  rw [show Tryd.prog.cellsOf 3 = 1 by kernel_rfl] at c0 c1
  rw [show Tryd.prog.cellsOf 196 = 1 by kernel_rfl] at c2
  simp at c0 c1 c2
  rw [c0, c1, c2]
theorem step_cells {a b : Int} {c : Bool} (h : DataW.trod enc Tryd.prog W base sp held fuel 158 cs = some (.agg [.lit (.int .i32 a), .lit (.int .i64 b), .lit (.bool c)], p)) : cs = [.int .i32 a, .int .i64 b, .bool c] := by
  obtain ⟨y0, y1, y2, n, hx, hl, h0, h1, h2⟩ := trod_struct3 (show Tryd.prog.underlying 158 = some (.struct #[_, _, _]) from Tryd.underlying158) h
  obtain ⟨z0, c0, e0, -⟩ := DataW.trod_int (k := .i32) (by kernel_rfl) h0
  obtain ⟨z1, c1, e1, -⟩ := DataW.trod_int (k := .i64) (by kernel_rfl) h1
  obtain ⟨z2, c2, e2⟩ := DataW.trod_bool (by kernel_rfl) h2
  subst e0 e1 e2
  simp only [Prod.mk.injEq, DataW.agg.injEq, List.cons.injEq, DataW.lit.injEq, Lit.int.injEq, Lit.bool.injEq, true_and, and_true] at hx
  obtain ⟨⟨rfl, rfl, rfl⟩, -⟩ := hx
  rw [show Tryd.prog.cellsOf 158 = 3 by kernel_rfl] at hl
  clear h h0 h1 h2
  obtain ⟨x, y, z, rfl⟩ := three hl
  rw [show Tryd.prog.cellsOf 21 = 1 by kernel_rfl] at c0
  rw [show Tryd.prog.cellsOf 3 = 1 by kernel_rfl] at c1
  rw [show Tryd.prog.cellsOf 4 = 1 by kernel_rfl] at c2
  simp at c0 c1 c2
  rw [c0, c1, c2]
theorem spans_cells {T : List (Int × Int × Int)} (hT : T.length = 7) (h : DataW.trod enc Tryd.prog W base sp held fuel 202 cs = some (.agg (T.map fun x => .agg [.lit (.int .i64 x.1), .lit (.int .i64 x.2.1), .lit (.int .i64 x.2.2)]), p)) :
    cs = (List.range 7).flatMap fun i => (match T[i]? with | some x => [.int .i64 x.1, .int .i64 x.2.1, .int .i64 x.2.2] | none => []) := by
  obtain ⟨xs, m, -, hx, hl, hlen, hi⟩ := DataW.trod_array Tryd.underlying202 h
  rw [show Tryd.prog.cellsOf 202 = 7 * 3 by kernel_rfl] at hl
  simp only [show Tryd.prog.cellsOf 201 = 3 by kernel_rfl] at hi
  simp only [Prod.mk.injEq, DataW.agg.injEq] at hx
  refine chunks 3 7 cs _ hl fun i hi7 => ?_
  have h1 := hi i hi7
  have h2 := congrArg (·[i]?) hx.1
  simp only [List.getElem?_map] at h2
  rw [List.getElem?_eq_getElem (by omega : i < T.length), List.getElem?_eq_getElem (by omega : i < xs.length)] at h2
  rw [List.getElem?_eq_getElem (by omega : i < xs.length)] at h1
  rw [List.getElem?_eq_getElem (by omega : i < T.length)]
  simp only [Option.map_some, Option.some.injEq] at h2
  refine span_cells (p := xs[i].2) (h1.trans ?_)
  rw [h2]
end
theorem tabs_laid {W : World} (h : laidMetH Tryd.prog Rows.ropeNilUptoRow.laid W) : Tabs W := by
  have h' : laidMet Tryd.prog [("galley/octet.spans", Rows.laid_galley_octet_spans), ("galley/octet.needs", Rows.laid_galley_octet_needs), ("galley/octet.masks", Rows.laid_galley_octet_masks), ("galley/step.bad", Rows.laid_galley_step_bad)] W := h
  obtain ⟨ps, ⟨g1, t1, cs1, f1, p1, q1, hg1, ht1, hv1, hd1, ⟨g2, t2, cs2, f2, p2, q2, hg2, ht2, hv2, hd2, ⟨g3, t3, cs3, f3, p3, q3, hg3, ht3, hv3, hd3, ⟨g4, t4, cs4, f4, p4, q4, hg4, ht4, hv4, hd4, -, -⟩, -⟩, -⟩, -⟩, -⟩ := h'
  obtain rfl := Option.some.inj ((show Tryd.prog.globalNamed "galley/octet.spans" = some 3 by kernel_rfl).symm.trans hg1)
  obtain rfl := Option.some.inj ((show Tryd.prog.globalNamed "galley/octet.needs" = some 2 by kernel_rfl).symm.trans hg2)
  obtain rfl := Option.some.inj ((show Tryd.prog.globalNamed "galley/octet.masks" = some 0 by kernel_rfl).symm.trans hg3)
  obtain rfl := Option.some.inj ((show Tryd.prog.globalNamed "galley/step.bad" = some 1 by kernel_rfl).symm.trans hg4)
  obtain rfl := Option.some.inj ((show (Tryd.prog.globals[3]?).map (·.type) = some 202 by kernel_rfl).symm.trans ht1)
  obtain rfl := Option.some.inj ((show (Tryd.prog.globals[2]?).map (·.type) = some 199 by kernel_rfl).symm.trans ht2)
  obtain rfl := Option.some.inj ((show (Tryd.prog.globals[0]?).map (·.type) = some 192 by kernel_rfl).symm.trans ht3)
  obtain rfl := Option.some.inj ((show (Tryd.prog.globals[1]?).map (·.type) = some 158 by kernel_rfl).symm.trans ht4)
  have e1 : cs1.toList = spanCells := spans_cells (T := [(0, 127, 1), (128, 191, 2), (192, 193, 6), (194, 223, 3), (224, 239, 4), (240, 244, 5), (245, 255, 6)]) rfl hd1
  have e2 : cs2.toList = needCells := Lib.cells_of_tab (k := .i64) (zs := [0, 1, 0, 2, 3, 4, 0]) Tryd.underlying199 Tryd.underlying3 (by kernel_rfl) (by kernel_rfl) hd2
  have e3 : cs3.toList = maskCells := Lib.cells_of_tab (k := .u8) (zs := [0, 127, 31, 15, 7]) Tryd.underlying192 Tryd.underlying5 (by kernel_rfl) (by kernel_rfl) hd3
  have e4 : cs4.toList = badCells := step_cells hd4
  have key : ∀ {n : String} {g : Nat} {cs : Array Value} {l : List Value}, Tryd.prog.globalNamed n = some g → W.var? Tryd.prog n = some cs → cs.toList = l → ∀ i v, l[i]? = some v → W.cell? ⟨g, i, none⟩ = some v := fun hg hv e i v hi => by
    rw [World.var?_cell hg hv i, ← Array.getElem?_toList, e]; exact hi
  exact ⟨key hg1 hv1 e1, key hg2 hv2 e2, key hg3 hv3 e3, key hg4 hv4 e4⟩
end Go.Proofs.YtliphfgiaioebaaDoor
namespace Go.Proofs.YtliphfgiaioebaaDoor
set_option linter.unusedVariables false
set_option linter.unusedSimpArgs false
open Go.ChangeShapes Go.WideShapes Go.ChangeAt Go.RowKit Go.Deep
set_option maxRecDepth 100000
namespace glue
theorem one_le {H : Type} (d : DataW H) : 1 ≤ Rows.uptoBulk d := by
  cases d with
  | lit l => cases l <;> simp [Rows.uptoBulk]
  | nil => simp [Rows.uptoBulk]
  | ptr d => simp [Rows.uptoBulk]
  | slice elems spare => simp [Rows.uptoBulk]
  | agg parts => simp [Rows.uptoBulk]
  | iface t d => simp [Rows.uptoBulk]
  | map entries => simp [Rows.uptoBulk]
  | held h => simp [Rows.uptoBulk]
theorem length_le {H : Type} (l : List (DataW H)) : l.length ≤ Rows.uptoBulkAll l := by
  induction l with
  | nil => simp [Rows.uptoBulkAll]
  | cons x r ih => have := one_le x; simp only [Rows.uptoBulkAll, List.length_cons]; omega
theorem mem_le {H : Type} {l : List (DataW H)} {d : DataW H} (h : d ∈ l) : Rows.uptoBulk d ≤ Rows.uptoBulkAll l := by
  induction l with
  | nil => cases h
  | cons x r ih =>
    simp only [Rows.uptoBulkAll]
    rcases List.mem_cons.1 h with rfl | h
    · omega
    · have := ih h; omega
theorem slice_le {H : Type} (elems spare : List (DataW H)) : elems.length + spare.length + 1 ≤ Rows.uptoBulk (.slice elems spare) := by
  have h1 := length_le elems
  have h2 := length_le spare
  simp only [Rows.uptoBulk]
  omega
def setG (h : Array Obj) (g : Nat) (cs : List Value) : Array Obj := h.modify g fun
  | .cells _ t frozen => .cells cs.toArray t frozen
  | o => o
/-- a world that holds the four laid variables -/
noncomputable def laidWorld (os : Os) : World :=
  { World.holding Tryd.prog os ⟨#[], #[], []⟩ with heap := setG (setG (setG (setG (World.holding Tryd.prog os ⟨#[], #[], []⟩).heap 3 spanCells) 2 needCells) 0 maskCells) 1 badCells }
theorem own : ownKnob Tryd.prog.godebug = none := by kernel_rfl
theorem laidOut : laidOutB Tryd.prog = true := by kernel_rfl
section
variable {H : Type} {enc : TypeId × Value → H}
theorem back {W W' : World} (hb : Below W.heap.size W W') : ∀ (ts : List TypeId) (vs : List Value) (ds : List (DataW H)) (p : List MemPlace), DataW.TrodAll enc Tryd.prog W 0 (fun _ => true) true ts vs ds p →
    (∀ t ∈ ts, Tryd.prog.readableRec t = true ∧ t < Tryd.prog.types.size) → (∀ x ∈ p, x.block < W.heap.size) → DataW.TrodAll enc Tryd.prog W' 0 (fun b => decide (b < W.heap.size)) true ts vs ds p
  | [], [], [], p, h, _, _ => h
  | t :: ts, v :: vs, d :: ds, p, ⟨p1, p2, h1, h2, e⟩, ht, hp =>
    ⟨p1, p2, Below.trod laidOut (ht t (by simp)).1 (ht t (by simp)).2 h1 hb (fun x hx => hp x (by rw [e]; simp [hx])), back hb ts vs ds p2 h2 (fun t h => ht t (by simp [h])) (fun x hx => hp x (by rw [e]; simp [hx])), e⟩
  | [], _ :: _, _, _, h, _, _ => by cases h
  | [], [], _ :: _, _, h, _, _ => by cases h
  | _ :: _, [], _, _, h, _, _ => by cases h
  | _ :: _, _ :: _, [], _, h, _, _ => by cases h
/-- a slice of bytes that came in -/
theorem open_bytes0 {W : World} {a1 : Value} {fuel : Nat} {x : DataW H × List MemPlace} (hf : DataW.trod enc Tryd.prog W 0 (fun _ => true) true fuel 41 [a1] = some x) :
    ∃ (A : Option Addr) (c : Nat) (l : List UInt8), a1 = .slice A l.length c ∧ BytesAt W A l ∧ l.length ≤ c ∧ (A = none → c = 0) ∧ l.length ≤ Rows.uptoBulk x.1 := by
  rcases open_ints Tryd.underlying41 Tryd.underlying5 (by kernel_rfl) hf with ⟨hcs, hx⟩ | ⟨a, len', cap', zs, hcs, _, hl, hm, hz, hx, hcell, hwz⟩
  · simp only [List.cons.injEq, and_true] at hcs
    subst hcs
    exact ⟨none, 0, [], rfl, BytesAt.nil _ _, Nat.le_refl _, fun _ => rfl, Nat.zero_le _⟩
  · simp only [List.cons.injEq, and_true] at hcs
    subst hcs hx
    simp only [if_true] at hz
    have hlen : ((zs.take len').map fun n => UInt8.ofNat n.toNat).length = len' := by simp; omega
    refine ⟨some a, cap', (zs.take len').map fun n => UInt8.ofNat n.toNat, by rw [hlen], fun h0 => ?_, by rw [hlen]; exact hl, (fun e => by cases e), ?_⟩
    · rw [hlen] at h0
      obtain ⟨ab, ao, spot⟩ := a
      have hspot : spot = none := by simpa [Addr.add] using World.cell?_spot (hcell 0 (by omega))
      subst hspot
      refine ⟨ab, ao, rfl, fun i hi => ?_⟩
      rw [hlen] at hi
      have hc := hcell i (by omega)
      rw [Addr.add_lit] at hc
      rw [hc]
      have hb := range_u8 hwz i
      have e : zs[i]? = some (zs[i]'(by omega)) := List.getElem?_eq_getElem (by omega)
      have hg : gb ((zs.take len').map fun n => UInt8.ofNat n.toNat) i = zs.getD i 0 := by
        unfold gb
        rw [List.getD_eq_getElem?_getD, List.getElem?_map, List.getElem?_take, if_pos hi, e, List.getD_eq_getElem?_getD, e]
        rw [e] at hb
        simp only [Option.map_some, Option.getD_some, UInt8.toNat_ofNat'] at hb ⊢
        omega
      rw [hg]
    · rw [hlen]
      have := slice_le (lits (H := H) .u8 (zs.take len')) (lits .u8 (zs.drop len'))
      have h1 : (lits (H := H) .u8 (zs.take len')).length = len' := by simp [lits]; omega
      simp only
      omega
theorem list_of {α : Type} {P : Nat → α → Prop} : ∀ n : Nat, (∀ i, i < n → ∃ x, P i x) → ∃ l : List α, l.length = n ∧ ∀ i x, l[i]? = some x → P i x
  | 0, _ => ⟨[], rfl, fun i x h => by simp at h⟩
  | n + 1, h => by
    obtain ⟨l, h1, h2⟩ := list_of n fun i hi => h i (by omega)
    obtain ⟨x, hx⟩ := h n (by omega)
    refine ⟨l ++ [x], by simp [h1], fun i y hy => ?_⟩
    rcases Nat.lt_or_ge i l.length with hi | hi
    · rw [List.getElem?_append_left hi] at hy; exact h2 i y hy
    · rw [List.getElem?_append_right hi] at hy
      have : i - l.length = 0 := by
        have := (List.getElem?_eq_some_iff.1 hy).1; simp at this; omega
      rw [this] at hy; simp at hy; subst hy
      rwa [show i = n by omega]
theorem open_slice_fields {P : Program} {w : World} {base : Nat} {spare : Nat → Bool} {held : Bool} {t e : TypeId} {fs : Array Field} {fuel : Nat} {cs : List Value} {x : DataW H × List MemPlace} (ht : P.underlying t = some (.slice e)) (he : P.underlying e = some (.struct fs))
    (hone : oneCellFields P fs = true) (hC : P.cellsOf e = fs.size) (h : DataW.trod enc P w base spare held fuel t cs = some x) :
    (cs = [.slice none 0 0] ∧ x = (.nil, [])) ∨
    ∃ (a : Addr) (len cap m : Nat) (D : Nat → DataW H) (Pl : Nat → List MemPlace), cs = [.slice (some a) len cap] ∧ base ≤ a.block ∧ len ≤ cap ∧ cap ≤ maxLen ∧ m = (if spare a.block then cap else len) ∧
      x = (.slice ((List.range len).map D) ((List.range (m - len)).map fun j => D (len + j)), MemPlace.row a (m * fs.size) ++ (List.range m).flatMap Pl) ∧
      ∀ i, i < m → ∃ (ys : List (DataW H × List MemPlace)) (n : Nat), D i = .agg (ys.map (·.1)) ∧ Pl i = ys.flatMap (·.2) ∧ ys.length = fs.size ∧
        ∀ (j : Nat) (f : Field), fs[j]? = some f → ∃ (v : Value) (y : DataW H × List MemPlace), w.cell? (a.add (i * fs.size + j)) = some v ∧ ys[j]? = some y ∧ DataW.trod enc P w base spare held n f.type [v] = some y := by
  rcases open_slice ht h with h0 | ⟨a, len, cap, m, n, D, Pl, hcs, hb, hl, hm, hmm, hx, hi⟩
  · exact .inl h0
  · refine .inr ⟨a, len, cap, m, D, Pl, hcs, hb, hl, hm, hmm, by rw [hC] at hx; exact hx, fun i him => ?_⟩
    obtain ⟨cs', hc, ht'⟩ := hi i him
    rw [hC] at hc
    obtain ⟨ys, n', hn', hy, hlen, hyl, hf⟩ := DataW.trod_struct he ht'
    obtain ⟨_, hcl, hat⟩ := World.cells?_some hc
    simp only [Prod.mk.injEq] at hy
    refine ⟨ys, n', hy.1, hy.2, hyl, fun j f hj => ?_⟩
    obtain ⟨ho, hk⟩ := hone_of hone j f hj
    have hjl : j < fs.size := (Array.getElem?_eq_some_iff.1 hj).1
    have hcell := hat j hjl
    have hv : cs'[j]? = some (cs'[j]'(by omega)) := List.getElem?_eq_getElem (by omega)
    have h1 := hf j f hj
    rw [ho, hk] at h1
    have hone' : (cs'.drop j).take 1 = [cs'[j]'(by omega)] := by
      rw [List.drop_eq_getElem_cons (by omega)]
      rfl
    rw [hone'] at h1
    have hys : ys[j]? = some (ys[j]'(by omega)) := List.getElem?_eq_getElem (by omega)
    refine ⟨_, _, ?_, hys, h1.trans hys⟩
    rw [← Go.Deep.add_add, hcell, hv]
/-- acts that came in -/
theorem open_acts {W : World} {base : Nat} {v : Value} {d : DataW H} {p : List MemPlace} (hval : Value.okWide Tryd.prog W .any base 22 v) (h : DataW.Trod enc Tryd.prog W 0 (fun _ => true) true 22 v d p) (hk : Rows.uptoBulk d ≤ 1048576) :
    ∃ (A : Option Addr) (c : Nat) (l : List ActD), v = .slice A l.length c ∧ ActsAt W.heap.size W A l ∧ l.length ≤ c ∧ l.length ≤ 1100000 := by
  obtain ⟨a1, len, cap, rfl⟩ := okWide_slice Tryd.underlying22 hval
  obtain ⟨fuel, hf⟩ := h
  rcases open_slice_fields Tryd.underlying22 Tryd.underlying105 (by kernel_rfl) (by kernel_rfl) hf with ⟨hcs, hx⟩ | ⟨a, len', cap', m, D, Pl, hcs, _, hl, _, hm, hx, hi⟩
  · simp [Value.cells] at hcs
    obtain ⟨rfl, rfl, rfl⟩ := hcs
    exact ⟨none, 0, [], rfl, ⟨Nat.le_refl _, by simp, fun h => absurd h (by simp)⟩, Nat.le_refl _, Nat.zero_le _⟩
  · simp [Value.cells] at hcs
    obtain ⟨rfl, rfl, rfl⟩ := hcs
    simp only [Prod.mk.injEq] at hx
    obtain ⟨rfl, rfl⟩ := hx
    simp only [if_true] at hm
    have hbulk := slice_le ((List.range len).map D) ((List.range (m - len)).map fun j => D (len + j))
    simp only [List.length_map, List.length_range] at hbulk
    have hall : Rows.uptoBulkAll ((List.range len).map D) ≤ 1048576 := by simp only [Rows.uptoBulk] at hk; omega
    have key : ∀ i, i < len → ∃ x : ActD, x.ok W.heap.size W ∧ ∀ j v, x.v[j]? = some v → W.cell? (a.add (i * 6 + j)) = some v := fun i hil => by
      obtain ⟨ys, n, hD, -, hyl, hj⟩ := hi i (by omega)
      obtain ⟨v0, y0, k0, g0, t0⟩ := hj 0 _ rfl
      obtain ⟨v1, y1, k1, g1, t1⟩ := hj 1 _ rfl
      obtain ⟨v2, y2, k2, g2, t2⟩ := hj 2 _ rfl
      obtain ⟨v3, y3, k3, g3, t3⟩ := hj 3 _ rfl
      obtain ⟨v4, y4, k4, g4, t4⟩ := hj 4 _ rfl
      obtain ⟨v5, y5, k5, g5, t5⟩ := hj 5 _ rfl
      obtain ⟨z0, e0, -⟩ := DataW.trod_int (k := .i64) Tryd.underlying3 t0
      obtain ⟨z1, e1, -⟩ := DataW.trod_int (k := .i64) Tryd.underlying3 t1
      obtain ⟨z2, e2, -⟩ := DataW.trod_int (k := .i64) Tryd.underlying3 t2
      obtain ⟨z3, e3, -⟩ := DataW.trod_int (k := .i64) Tryd.underlying3 t3
      obtain ⟨z4, e4, -⟩ := DataW.trod_int (k := .i64) Tryd.underlying3 t4
      simp only [List.cons.injEq, and_true] at e0 e1 e2 e3 e4
      obtain ⟨A, c, l, rfl, hb, hc, hn, hu⟩ := open_bytes0 t5
      have hle : Rows.uptoBulk y5.1 ≤ 1048576 := by
        have h1 : y5.1 ∈ ys.map (·.1) := List.mem_map.2 ⟨y5, List.mem_of_getElem? g5, rfl⟩
        have h2 := mem_le h1
        have h3 : D i ∈ (List.range len).map D := List.mem_map.2 ⟨i, List.mem_range.2 hil, rfl⟩
        have h4 := mem_le h3
        rw [hD] at h4
        simp only [Rows.uptoBulk] at h4
        omega
      refine ⟨⟨z0, z1, z2, z3, z4, A, c, l⟩, ⟨hb.n, hc, hn, by show l.length ≤ 2000000; omega⟩, fun j v hv => ?_⟩
      subst e0 e1 e2 e3 e4
      simp only [ActD.v] at hv
      match j, hv with
      | 0, hv => cases hv; exact k0
      | 1, hv => cases hv; exact k1
      | 2, hv => cases hv; exact k2
      | 3, hv => cases hv; exact k3
      | 4, hv => cases hv; exact k4
      | 5, hv => cases hv; exact k5
      | _ + 6, hv => simp at hv
    obtain ⟨l, rfl, hll⟩ := list_of len key
    refine ⟨some a, cap, l, rfl, ⟨Nat.le_refl _, fun x hx => ?_, fun h0 => ?_⟩, hl, by omega⟩
    · obtain ⟨i, hi'⟩ := List.getElem?_of_mem hx
      exact (hll i x hi').1
    · obtain ⟨x, hx⟩ : ∃ x, l[0]? = some x := ⟨_, List.getElem?_eq_getElem h0⟩
      have hc0 := (hll 0 x hx).2 0 _ rfl
      obtain ⟨ab, ao, spot⟩ := a
      have hspot : spot = none := by simpa [Addr.add] using World.cell?_spot hc0
      subst hspot
      have hlt := World.block_lt_of_cell? W _ hc0
      rw [add_none] at hlt
      refine ⟨ab, ao, rfl, hlt, fun i x j v hx hv => ?_⟩
      have := (hll i x hx).2 j v hv
      rwa [add_none, ← Nat.add_assoc] at this
end
end glue
end Go.Proofs.YtliphfgiaioebaaDoor
namespace Go.Proofs.YtliphfgiaioebaaDoor.ropeFirst
set_option linter.unusedVariables false
set_option linter.unusedSimpArgs false
open Go.ChangeShapes Go.WideShapes Go.ChangeAt Go.RowKit Go.Deep Go.Proofs.YtliphfgiaioebaaDoor
set_option maxRecDepth 100000
section
variable {H : Type} {enc : TypeId × Value → H}
theorem contract (W : World) (base : Nat) (args : Array Value) (ds gs : List (DataW H)) (before : List MemPlace)
    (hval : ∀ (j : Nat) t v, Tryd.f4.params[j]? = some t → args[j]? = some v → Value.okWide Tryd.prog W .any base t v)
    (hW : DataW.Whole enc Tryd.prog Tryd.f4.params.toList Rows.ropeFirstSpec.vars false W args.toList ds gs before) (hL : laidMetH Tryd.prog Rows.ropeFirstUptoRow.laid W) (hk : Rows.uptoSmall H (ds ++ gs) = true) :
    Calls Tryd.prog 4 args W fun e W' => ∃ v, e = .returned v ∧ Rows.ropeFirstSpec.post enc Tryd.prog Tryd.f4 false true false false W args v W' := by
  have hW' := hW
  obtain ⟨p, q, hA0, hV, rfl, hfz, hnd⟩ := hW
  have hlt : ∀ x ∈ p, x.block < W.heap.size := fun x hx => hW'.lt x (List.mem_append_left _ hx)
  have hA : DataW.TrodAll enc Tryd.prog W 0 (fun _ => true) true Tryd.f4.params.toList args.toList ds p := hA0
  rw [Tryd.params4] at hA hval
  obtain ⟨v0, v1, v2, d0, d1, d2, p0, p1, p2, hargs, rfl, rfl, h0, h1, h2⟩ := trodAll_three hA
  obtain rfl : args = #[v0, v1, v2] := by cases args; simp_all
  obtain ⟨rfl, rfl⟩ := trodVars_none hV
  have hsm : Rows.uptoBulkAll [d0, d1, d2] ≤ 1048576 := by simpa [Rows.uptoSmall] using hk
  simp only [Rows.uptoBulkAll] at hsm
  obtain ⟨A0, c0, l0, rfl, hb0, hc0, hm0⟩ := glue.open_acts (hval 0 22 v0 rfl rfl) h0 (by omega)
  obtain ⟨a1, rfl, rfl, -, w1⟩ := open_int Tryd.underlying3 (hval 1 3 v1 rfl rfl) h1
  obtain ⟨a2, rfl, rfl, -, w2⟩ := open_int Tryd.underlying3 (hval 2 3 v2 rfl rfl) h2
  refine (RopeFirst_walk A0 c0 l0 a1 a2 W (tabs_laid hL) hb0 hc0 hm0).mono fun e W' ⟨he, hl⟩ => ?_
  subst he
  have ht : ∀ t ∈ Tryd.f4.params.toList, Tryd.prog.readableRec t = true ∧ t < Tryd.prog.types.size := by
    rw [Tryd.params4]
    intro t ht
    simp only [List.mem_cons, List.not_mem_nil, or_false] at ht
    rcases ht with rfl | rfl | rfl
    all_goals exact ⟨by kernel_rfl, of_decide_eq_true (by kernel_rfl)⟩
  exact ⟨_, rfl, _, _, _, _, _, _, hW', trodAll_cons_mk (shut_bool Tryd.underlying4 _) trodAll_mk0, glue.back hl _ _ _ _ hA0 ht hlt, rfl, Below.frame hl _, fun h => by cases h⟩
end
end Go.Proofs.YtliphfgiaioebaaDoor.ropeFirst
