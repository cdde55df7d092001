/-
  Package rope: Len, Weld, place, Depth, Join.
  Package rope: split, Split, Replace.
-/
import Derived.Test.YtliphfgiaioebaaDoorB08
namespace Go.Proofs.YtliphfgiaioebaaDoor
set_option linter.unusedVariables false
set_option linter.unusedSimpArgs false
open Go.RowKit

set_option maxRecDepth 100000 in
set_option maxHeartbeats 8000000 in
theorem Len_any (b : Nat) (l : List UInt8) (w : World) (hr : RopeAt w b l) :
    Calls Tryd.prog 45 #[.pointer (some ⟨b, 0, none⟩)] w fun e w' => e = .returned (.int .i64 l.length) ∧ Ltr w w' := by
  have hB := Ltr.refl w
  obtain ⟨v, hb, ⟨rfl, rfl⟩ | ⟨t, ot, rfl, ht⟩⟩ := hr
  · skip
    go_enter Tryd.func45, Tryd.ntmps45
    have hlt_hb := hb.lt
    refine wp_seq_k fun KK1 hKK1 => rl_begin fun hgK hgo => tk 2 (.int .i64 0) ?_
    simp only [pp]
    refine rl_end hgo <| hKK1 _ _ <| wp_seq_k fun KK2 hKK2 => wp_seq_k fun KK3 hKK3 => rl_begin fun hgK hgo => tk 3 (.pointer (some ⟨b, 0, none⟩)) <| tk 4 (.bool false) <| tk 5 (.bool false) <| tk 6 (.pointer (some ⟨b, 0, none⟩)) <| tk 7 (.pointer (some ⟨b, 0, none⟩)) <| tk 8 (.pointer (some ⟨b, 0, none⟩)) ?_
    simp only [pp]
    refine tx 9 .nilIface (by exact ld 108 b 0 (hb.cell 0)) <| tk 10 (.bool true) <| tk 11 (.bool true) ?_
    simp only [pp]
    refine rl_end hgo <| hKK3 _ _ <| wp_cond_true (by kernel_rfl) <| wp_seq_k fun KK4 hKK4 => rl_begin fun hgK hgo => tk 2 (.int .i64 0) ?_
    simp only [pp]
    refine rl_end hgo <| hKK4 _ _ ?_
    refine wp_ret ?_
    try simp only [Exit.then, Exit.inBlock]
    refine bp_ret (v := .int .i64 0) (res1 rfl (res_tmp (by kernel_rfl))) ?_
    exact ⟨rfl, hB⟩
  · obtain ⟨f1, x1, e1, c1⟩ := inv_size ht
    obtain ⟨ty, z, rfl⟩ := ht.iface
    go_enter Tryd.func45, Tryd.ntmps45
    have hlt_hb := hb.lt
    refine wp_seq_k fun KK1 hKK1 => rl_begin fun hgK hgo => tk 2 (.int .i64 0) ?_
    simp only [pp]
    refine rl_end hgo <| hKK1 _ _ <| wp_seq_k fun KK2 hKK2 => wp_seq_k fun KK3 hKK3 => rl_begin fun hgK hgo => tk 3 (.pointer (some ⟨b, 0, none⟩)) <| tk 4 (.bool false) <| tk 5 (.bool false) <| tk 6 (.pointer (some ⟨b, 0, none⟩)) <| tk 7 (.pointer (some ⟨b, 0, none⟩)) <| tk 8 (.pointer (some ⟨b, 0, none⟩)) ?_
    simp only [pp]
    refine tx 9 (.iface ty z) (by exact ld 108 b 0 (hb.cell 0)) <| tk 10 (.bool false) <| tk 11 (.bool false) ?_
    simp only [pp]
    refine rl_end hgo <| hKK3 _ _ <| wp_cond_false (by kernel_rfl) <| wp_skip <| hKK2 _ _ <| wp_seq_k fun KK4 hKK4 => rl_begin fun hgK hgo => tk 12 (.pointer (some ⟨b, 0, none⟩)) <| tk 13 (.pointer (some ⟨b, 0, none⟩)) <| tk 14 (.pointer (some ⟨b, 0, none⟩)) ?_
    simp only [pp]
    refine tx 15 (.iface ty z) (by exact ld 108 b 0 (hb.cell 0)) ?_
    simp only [pp]
    refine rl_call (some 16) f1 #[x1] rfl (by kernel_rfl) (by exact e1 _ _ _ _ rfl rfl) (c1 _ hB) ?_
    rintro e w5 ⟨rfl, hL5⟩
    refine ⟨_, rfl, ?_⟩
    have hz5 := hL5.size
    try simp only [pp]
    refine tk 2 (.int .i64 t.bytes.length) ?_
    simp only [pp]
    refine rl_end hgo <| hKK4 _ _ ?_
    refine wp_ret ?_
    try simp only [Exit.then, Exit.inBlock]
    refine bp_ret (v := .int .i64 t.bytes.length) (res1 rfl (res_tmp (by kernel_rfl))) ?_
    replace hB := hB.later hL5
    exact ⟨rfl, hB⟩
set_option maxRecDepth 100000 in
set_option maxHeartbeats 8000000 in
theorem RWeld_any (b : Nat) (l : List UInt8) (w : World) (hT : Tabs w) (hr : RopeAt w b l) :
    Calls Tryd.prog 41 #[.pointer (some ⟨b, 0, none⟩)] w fun e w' => e = .returned (wv l) ∧ Ltr w w' := by
  have hB := Ltr.refl w
  obtain ⟨v, hb, ⟨rfl, rfl⟩ | ⟨t, ot, rfl, ht⟩⟩ := hr
  · skip
    go_enter Tryd.func41, Tryd.ntmps41
    have h4 := hT.four
    have hlt_hb := hb.lt
    refine wp_seq_k fun KK1 hKK1 => rl_begin fun hgK hgo => ?_
    refine rl_alloc (some 2) 36 #[.int .i64 0, .int .i64 0, .int .i64 0, .int .i64 0, .string ⟨#[]⟩, .string ⟨#[]⟩] rfl (by kernel_rfl) (fun W => by kernel_rfl) fun p2 w2 hL2 hp2 hb2 => ?_
    have hz2 := hL2.size
    have hlt2 := hb2.lt
    try simp only [pp]
    refine rl_end hgo <| hKK1 _ _ <| wp_seq_k fun KK3 hKK3 => wp_seq_k fun KK4 hKK4 => rl_begin fun hgK hgo => tk 3 (.pointer (some ⟨b, 0, none⟩)) <| tk 4 (.bool false) <| tk 5 (.bool false) <| tk 6 (.pointer (some ⟨b, 0, none⟩)) <| tk 7 (.pointer (some ⟨b, 0, none⟩)) <| tk 8 (.pointer (some ⟨b, 0, none⟩)) ?_
    simp only [pp]
    replace hb := hb.later hL2
    refine tx 9 .nilIface (by exact ld 108 b 0 (hb.cell 0)) <| tk 10 (.bool true) <| tk 11 (.bool true) ?_
    simp only [pp]
    refine rl_end hgo <| hKK4 _ _ <| wp_cond_true (by kernel_rfl) <| wp_seq_k fun KK5 hKK5 => rl_begin fun hgK hgo => ?_
    replace hT := hT.later hL2
    refine rl_call (some 12) 60 #[.slice none 0 0] rfl (by kernel_rfl) (by kernel_rfl) (Of_wv none 0 [] _ hT (BytesAt.nil _ _) (Nat.zero_le _) (by simp)) ?_
    rintro e w6 ⟨rfl, hL6⟩
    refine ⟨_, rfl, ?_⟩
    have hz6 := hL6.size
    try simp only [pp]
    replace hb2 := hb2.later hL6
    refine rl_store p2 #[.int .i64 (@List.nil UInt8).length, .int .i64 (runesN (@List.nil UInt8)), .int .i64 (unitsN (@List.nil UInt8)), .int .i64 (endsN (@List.nil UInt8)), .string (bs (headOf (@List.nil UInt8))), .string (bs (tailOf (@List.nil UInt8)))] rfl rfl (by kernel_rfl) rfl rfl (by kernel_rfl) hb2 rfl (by kernel_rfl) fun w7 hU7 hn7 => ?_
    have hz7 := hU7.size
    replace hT := hT.later hL6
    replace hT := hT.upd hU7 (by omega)
    replace hB := (hB.later hL2).later hL6
    replace hB := hB.upd hU7 (by omega)
    replace hb := hb.later hL6
    replace hb := hb.upd hU7 (by omega)
    clear hb2
    have hb2 := hn7
    clear hn7
    try simp only [pp]
    refine rl_end hgo <| hKK5 _ _ ?_
    refine wp_ret ?_
    try simp only [Exit.then, Exit.inBlock]
    refine bp_ret (v := .agg #[.int .i64 (@List.nil UInt8).length, .int .i64 (runesN (@List.nil UInt8)), .int .i64 (unitsN (@List.nil UInt8)), .int .i64 (endsN (@List.nil UInt8)), .string (bs (headOf (@List.nil UInt8))), .string (bs (tailOf (@List.nil UInt8)))]) (res1 rfl (res_cell (b := p2) (cs := [.int .i64 (@List.nil UInt8).length, .int .i64 (runesN (@List.nil UInt8)), .int .i64 (unitsN (@List.nil UInt8)), .int .i64 (endsN (@List.nil UInt8)), .string (bs (headOf (@List.nil UInt8))), .string (bs (tailOf (@List.nil UInt8)))]) (by kernel_rfl) (fun _ => by kernel_rfl) (by kernel_rfl) hb2)) ?_
    exact ⟨rfl, hB⟩
  · obtain ⟨f1, x1, e1, c1⟩ := inv_weld ht
    obtain ⟨ty, z, rfl⟩ := ht.iface
    go_enter Tryd.func41, Tryd.ntmps41
    have hlt_hb := hb.lt
    refine wp_seq_k fun KK1 hKK1 => rl_begin fun hgK hgo => ?_
    refine rl_alloc (some 2) 36 #[.int .i64 0, .int .i64 0, .int .i64 0, .int .i64 0, .string ⟨#[]⟩, .string ⟨#[]⟩] rfl (by kernel_rfl) (fun W => by kernel_rfl) fun p2 w2 hL2 hp2 hb2 => ?_
    have hz2 := hL2.size
    have hlt2 := hb2.lt
    try simp only [pp]
    refine rl_end hgo <| hKK1 _ _ <| wp_seq_k fun KK3 hKK3 => wp_seq_k fun KK4 hKK4 => rl_begin fun hgK hgo => tk 3 (.pointer (some ⟨b, 0, none⟩)) <| tk 4 (.bool false) <| tk 5 (.bool false) <| tk 6 (.pointer (some ⟨b, 0, none⟩)) <| tk 7 (.pointer (some ⟨b, 0, none⟩)) <| tk 8 (.pointer (some ⟨b, 0, none⟩)) ?_
    simp only [pp]
    replace hb := hb.later hL2
    refine tx 9 (.iface ty z) (by exact ld 108 b 0 (hb.cell 0)) <| tk 10 (.bool false) <| tk 11 (.bool false) ?_
    simp only [pp]
    refine rl_end hgo <| hKK4 _ _ <| wp_cond_false (by kernel_rfl) <| wp_skip <| hKK3 _ _ <| wp_seq_k fun KK5 hKK5 => rl_begin fun hgK hgo => tk 13 (.pointer (some ⟨b, 0, none⟩)) <| tk 14 (.pointer (some ⟨b, 0, none⟩)) <| tk 15 (.pointer (some ⟨b, 0, none⟩)) ?_
    simp only [pp]
    refine tx 16 (.iface ty z) (by exact ld 108 b 0 (hb.cell 0)) ?_
    simp only [pp]
    replace hB := hB.later hL2
    refine rl_call (some 17) f1 #[x1] rfl (by kernel_rfl) (by exact e1 _ _ _ _ rfl rfl) (c1 _ hB) ?_
    rintro e w6 ⟨rfl, hL6⟩
    refine ⟨_, rfl, ?_⟩
    have hz6 := hL6.size
    try simp only [pp]
    replace hb2 := hb2.later hL6
    refine rl_store p2 #[.int .i64 (t.bytes).length, .int .i64 (runesN (t.bytes)), .int .i64 (unitsN (t.bytes)), .int .i64 (endsN (t.bytes)), .string (bs (headOf (t.bytes))), .string (bs (tailOf (t.bytes)))] rfl rfl (by kernel_rfl) rfl rfl (by kernel_rfl) hb2 rfl (by kernel_rfl) fun w7 hU7 hn7 => ?_
    have hz7 := hU7.size
    replace hB := hB.later hL6
    replace hB := hB.upd hU7 (by omega)
    replace hb := hb.later hL6
    replace hb := hb.upd hU7 (by omega)
    clear hb2
    have hb2 := hn7
    clear hn7
    try simp only [pp]
    refine rl_end hgo <| hKK5 _ _ ?_
    refine wp_ret ?_
    try simp only [Exit.then, Exit.inBlock]
    refine bp_ret (v := .agg #[.int .i64 (t.bytes).length, .int .i64 (runesN (t.bytes)), .int .i64 (unitsN (t.bytes)), .int .i64 (endsN (t.bytes)), .string (bs (headOf (t.bytes))), .string (bs (tailOf (t.bytes)))]) (res1 rfl (res_cell (b := p2) (cs := [.int .i64 (t.bytes).length, .int .i64 (runesN (t.bytes)), .int .i64 (unitsN (t.bytes)), .int .i64 (endsN (t.bytes)), .string (bs (headOf (t.bytes))), .string (bs (tailOf (t.bytes)))]) (by kernel_rfl) (fun _ => by kernel_rfl) (by kernel_rfl) hb2)) ?_
    exact ⟨rfl, hB⟩
def placeE (n : Int) (l : List UInt8) : Int := if 0 ≤ n ∧ n ≤ (l.length : Int) then 0 else 2
set_option maxRecDepth 100000 in
set_option maxHeartbeats 8000000 in
theorem place_any (b : Nat) (l : List UInt8) (n : Int) (w : World) (hr : RopeAt w b l) :
    Calls Tryd.prog 77 #[.pointer (some ⟨b, 0, none⟩), .int .i64 n] w fun e w' => e = .returned (.int .i64 (placeE n l)) ∧ Ltr w w' := by
  have hB := Ltr.refl w
  go_enter Tryd.func77, Tryd.ntmps77
  refine wp_seq_k fun KK1 hKK1 => rl_begin fun hgK hgo => tk 4 (.int .i64 0) ?_
  simp only [pp]
  refine rl_end hgo <| hKK1 _ _ <| wp_seq_k fun KK2 hKK2 => wp_block <| wp_seq_k fun KK3 hKK3 => rl_begin fun hgK hgo => tk 6 (.pointer (some ⟨b, 0, none⟩)) <| tk 7 (.bool false) <| tk 5 (.bool false) ?_
  simp only [pp]
  refine rl_end hgo <| hKK3 _ _ <| wp_cond_false (by kernel_rfl) <| wp_seq_k fun KK4 hKK4 => rl_begin fun hgK hgo => tk 9 (.int .i64 n) ?_
  simp only [pp]
  by_cases h1 : n < 0
  ·refine tx 10 (.bool true) (by exact ebt (c := (n : Int) < 0) (by omega)) <| tk 11 (.bool true) ?_
   simp only [pp]
   refine rl_pass (some 12) rfl (by kernel_rfl) ?_
   try simp only [pp]
   refine rl_pass (some 13) rfl (by kernel_rfl) ?_
   try simp only [pp]
   refine rl_pass (some 14) rfl (by kernel_rfl) ?_
   try simp only [pp]
   refine rl_pass (some 15) rfl (by kernel_rfl) ?_
   try simp only [pp]
   refine tk 16 (.bool true) <| tk 8 (.bool true) ?_
   simp only [pp]
   refine rl_end hgo <| hKK4 _ _ <| wp_cond_true (by kernel_rfl) <| wp_seq_k fun KK5 hKK5 => rl_begin fun hgK hgo => tk 4 (.int .i64 2) ?_
   simp only [pp]
   refine rl_end hgo <| hKK5 _ _ ?_
   refine wp_ret ?_
   try simp only [Exit.then, Exit.inBlock]
   refine bp_ret (v := .int .i64 2) (res1 rfl (res_tmp (by kernel_rfl))) ?_
   exact ⟨ret_int (by unfold placeE; rw [if_neg (by omega)]), hB⟩
  ·refine tx 10 (.bool false) (by exact ebf (c := (n : Int) < 0) (by omega)) <| tk 11 (.bool false) <| tk 12 (.int .i64 n) <| tk 13 (.pointer (some ⟨b, 0, none⟩)) ?_
   simp only [pp]
   refine rl_call (some 14) 45 #[.pointer (some ⟨b, 0, none⟩)] rfl (by kernel_rfl) (by kernel_rfl) (Len_any b l _ hr) ?_
   rintro e w6 ⟨rfl, hL6⟩
   refine ⟨_, rfl, ?_⟩
   have hz6 := hL6.size
   try simp only [pp]
   replace hB := hB.later hL6
   replace hr := hr.later hL6
   by_cases h2 : n > (l.length : Int)
   ·refine tx 15 (.bool true) (by exact ebt (c := (n : Int) > l.length) (by omega)) <| tk 16 (.bool true) <| tk 8 (.bool true) ?_
    simp only [pp]
    refine rl_end hgo <| hKK4 _ _ <| wp_cond_true (by kernel_rfl) <| wp_seq_k fun KK7 hKK7 => rl_begin fun hgK hgo => tk 4 (.int .i64 2) ?_
    simp only [pp]
    refine rl_end hgo <| hKK7 _ _ ?_
    refine wp_ret ?_
    try simp only [Exit.then, Exit.inBlock]
    refine bp_ret (v := .int .i64 2) (res1 rfl (res_tmp (by kernel_rfl))) ?_
    exact ⟨ret_int (by unfold placeE; rw [if_neg (by omega)]), hB⟩
   ·refine tx 15 (.bool false) (by exact ebf (c := (n : Int) > l.length) (by omega)) <| tk 16 (.bool false) <| tk 8 (.bool false) ?_
    simp only [pp]
    refine rl_end hgo <| hKK4 _ _ <| wp_cond_false (by kernel_rfl) <| wp_skip <| hKK2 _ _ <| wp_seq_k fun KK8 hKK8 => rl_begin fun hgK hgo => tk 4 (.int .i64 0) ?_
    simp only [pp]
    refine rl_end hgo <| hKK8 _ _ ?_
    refine wp_ret ?_
    try simp only [Exit.then, Exit.inBlock]
    refine bp_ret (v := .int .i64 0) (res1 rfl (res_tmp (by kernel_rfl))) ?_
    exact ⟨ret_int (by unfold placeE; rw [if_pos (by omega)]), hB⟩
theorem place_in (b : Nat) (l : List UInt8) (n : Nat) (hn : n ≤ l.length) (w : World) (hr : RopeAt w b l) :
    Calls Tryd.prog 77 #[.pointer (some ⟨b, 0, none⟩), .int .i64 n] w fun e w' => e = .returned (.int .i64 0) ∧ Ltr w w' := by
  have := place_any b l n w hr
  unfold placeE at this
  rwa [if_pos (by omega)] at this
theorem place_out (b : Nat) (l : List UInt8) (n : Int) (hn : n < 0 ∨ (l.length : Int) < n) (w : World) (hr : RopeAt w b l) :
    Calls Tryd.prog 77 #[.pointer (some ⟨b, 0, none⟩), .int .i64 n] w fun e w' => e = .returned (.int .i64 2) ∧ Ltr w w' := by
  have := place_any b l n w hr
  unfold placeE at this
  rwa [if_neg (by omega)] at this
theorem Node.nil_or {w : World} {l : List UInt8} {v : Value} (h : Node w l v) : (l = [] ∧ v = .nilIface) ∨ (0 < l.length ∧ ∃ t : Tr, t.ok ∧ t.bytes = l ∧ Tree w t v) := h.imp id fun ⟨t, h1, h2, h3⟩ => ⟨by rw [← h2]; exact t.len_pos h1, t, h1, h2, h3⟩
/-- how deep a rope of these bytes may be -/
def DepthP (b : Nat) (l : List UInt8) (w : World) (e : Ending) (w' : World) : Prop := ∃ d : Nat, e = .returned (.int .i64 d) ∧ Ltr w w' ∧ (l = [] → d = 0) ∧ (0 < l.length → ∃ t : Tr, t.ok ∧ t.bytes = l ∧ t.h = d)
set_option maxRecDepth 100000 in
set_option maxHeartbeats 8000000 in
theorem Depth_any (b : Nat) (l : List UInt8) (w : World) (hr : RopeAt w b l) :
    Calls Tryd.prog 34 #[.pointer (some ⟨b, 0, none⟩)] w (DepthP b l w) := by
  have hB := Ltr.refl w
  have hr0 := hr
  obtain ⟨v, hb, hn⟩ := hr
  rcases hn.nil_or with ⟨rfl, rfl⟩ | ⟨h0, t, ot, rfl, ht⟩
  · clear hn hb
    go_enter Tryd.func34, Tryd.ntmps34
    refine wp_seq_k fun KK1 hKK1 => rl_begin fun hgK hgo => tk 2 (.int .i64 0) ?_
    simp only [pp]
    refine rl_end hgo <| hKK1 _ _ <| wp_seq_k fun KK2 hKK2 => wp_seq_k fun KK3 hKK3 => rl_begin fun hgK hgo => tk 3 (.pointer (some ⟨b, 0, none⟩)) ?_
    simp only [pp]
    refine rl_call (some 4) 45 #[.pointer (some ⟨b, 0, none⟩)] rfl (by kernel_rfl) (by kernel_rfl) (Len_any b [] _ hr0) ?_
    rintro e w4 ⟨rfl, hL4⟩
    refine ⟨_, rfl, ?_⟩
    have hz4 := hL4.size
    try simp only [pp]
    refine tx 5 (.bool true) (by exact eqt (x := (@List.nil UInt8).length) (y := 0) (by rfl)) ?_
    simp only [pp]
    refine rl_end hgo <| hKK3 _ _ <| wp_cond_true (by kernel_rfl) <| wp_seq_k fun KK5 hKK5 => rl_begin fun hgK hgo => tk 2 (.int .i64 0) ?_
    simp only [pp]
    refine rl_end hgo <| hKK5 _ _ ?_
    refine wp_ret ?_
    try simp only [Exit.then, Exit.inBlock]
    refine bp_ret (v := .int .i64 0) (res1 rfl (res_tmp (by kernel_rfl))) ?_
    replace hB := hB.later hL4
    exact ⟨0, rfl, hB, fun _ => rfl, fun h => absurd h (by simp)⟩
  · obtain ⟨f1, x1, e1, c1⟩ := inv_height ht
    obtain ⟨ty, z, rfl⟩ := ht.iface
    clear hn
    go_enter Tryd.func34, Tryd.ntmps34
    have hlt_hb := hb.lt
    refine wp_seq_k fun KK1 hKK1 => rl_begin fun hgK hgo => tk 2 (.int .i64 0) ?_
    simp only [pp]
    refine rl_end hgo <| hKK1 _ _ <| wp_seq_k fun KK2 hKK2 => wp_seq_k fun KK3 hKK3 => rl_begin fun hgK hgo => tk 3 (.pointer (some ⟨b, 0, none⟩)) ?_
    simp only [pp]
    refine rl_call (some 4) 45 #[.pointer (some ⟨b, 0, none⟩)] rfl (by kernel_rfl) (by kernel_rfl) (Len_any b t.bytes _ hr0) ?_
    rintro e w4 ⟨rfl, hL4⟩
    refine ⟨_, rfl, ?_⟩
    have hz4 := hL4.size
    try simp only [pp]
    refine tx 5 (.bool false) (by exact eqf (x := t.bytes.length) (y := 0) (by omega)) ?_
    simp only [pp]
    refine rl_end hgo <| hKK3 _ _ <| wp_cond_false (by kernel_rfl) <| wp_skip <| hKK2 _ _ <| wp_seq_k fun KK5 hKK5 => rl_begin fun hgK hgo => tk 6 (.pointer (some ⟨b, 0, none⟩)) <| tk 7 (.pointer (some ⟨b, 0, none⟩)) <| tk 8 (.pointer (some ⟨b, 0, none⟩)) ?_
    simp only [pp]
    replace hb := hb.later hL4
    refine tx 9 (.iface ty z) (by exact ld 108 b 0 (hb.cell 0)) ?_
    simp only [pp]
    replace hB := hB.later hL4
    refine rl_call (some 10) f1 #[x1] rfl (by kernel_rfl) (by exact e1 _ _ _ _ rfl rfl) (c1 _ hB) ?_
    rintro e w6 ⟨rfl, hL6⟩
    refine ⟨_, rfl, ?_⟩
    have hz6 := hL6.size
    try simp only [pp]
    refine tk 2 (.int .i64 t.h) ?_
    simp only [pp]
    refine rl_end hgo <| hKK5 _ _ ?_
    refine wp_ret ?_
    try simp only [Exit.then, Exit.inBlock]
    refine bp_ret (v := .int .i64 t.h) (res1 rfl (res_tmp (by kernel_rfl))) ?_
    replace hB := hB.later hL6
    exact ⟨t.h, rfl, hB, fun h => absurd (congrArg List.length h) (by have : ([] : List UInt8).length = 0 := rfl; omega), fun _ => ⟨t, ot, rfl, rfl⟩⟩
set_option maxRecDepth 100000 in
set_option maxHeartbeats 8000000 in
theorem RJoin_any (a b : Nat) (l m : List UInt8) (w : World) (hT : Tabs w) (ha : RopeAt w a l) (hb : RopeAt w b m) (hm : l.length + m.length ≤ 200000000) :
    Calls Tryd.prog 42 #[.pointer (some ⟨a, 0, none⟩), .pointer (some ⟨b, 0, none⟩)] w (NewP (l ++ m) w) := by
  have hB := Ltr.refl w
  have ha0 := ha
  have hb0 := hb
  obtain ⟨va, ka, na⟩ := ha
  obtain ⟨vb, kb, nb⟩ := hb
  go_enter Tryd.func42, Tryd.ntmps42
  have h4 := hT.four
  have hlt_ka := ka.lt
  have hlt_kb := kb.lt
  refine wp_seq_k fun KK1 hKK1 => rl_begin fun hgK hgo => tk 4 (.pointer none) <| tk 5 (.int .i64 0) ?_
  simp only [pp]
  refine rl_end hgo <| hKK1 _ _ <| wp_seq_k fun KK2 hKK2 => wp_block <| wp_seq_k fun KK3 hKK3 => rl_begin fun hgK hgo => tk 7 (.pointer (some ⟨a, 0, none⟩)) <| tk 8 (.bool false) <| tk 9 (.bool false) <| tk 10 (.pointer (some ⟨b, 0, none⟩)) <| tk 11 (.bool false) <| tk 12 (.bool false) <| tk 6 (.bool false) ?_
  simp only [pp]
  refine rl_end hgo <| hKK3 _ _ <| wp_cond_false (by kernel_rfl) <| wp_seq_k fun KK4 hKK4 => rl_begin fun hgK hgo => tk 14 (.pointer (some ⟨a, 0, none⟩)) ?_
  simp only [pp]
  refine rl_call (some 15) 45 #[.pointer (some ⟨a, 0, none⟩)] rfl (by kernel_rfl) (by kernel_rfl) (Len_any a l _ ha0) ?_
  rintro e w5 ⟨rfl, hL5⟩
  refine ⟨_, rfl, ?_⟩
  have hz5 := hL5.size
  try simp only [pp]
  refine tk 16 (.pointer (some ⟨b, 0, none⟩)) ?_
  simp only [pp]
  replace hb0 := hb0.later hL5
  refine rl_call (some 17) 45 #[.pointer (some ⟨b, 0, none⟩)] rfl (by kernel_rfl) (by kernel_rfl) (Len_any b m _ hb0) ?_
  rintro e w6 ⟨rfl, hL6⟩
  refine ⟨_, rfl, ?_⟩
  have hz6 := hL6.size
  try simp only [pp]
  refine tx 18 (.int .i64 ((l.length : Int) + m.length)) (by exact ex_arith (e := (l.length : Int) + m.length) (r := (l.length : Int) + m.length) (by kernel_rfl) (by omega) (by omega)) ?_
  simp only [pp]
  refine tx 19 (.bool false) (by exact ex_bool (c := (((l.length : Int) + m.length) : Int) > 268435456) (by kernel_rfl) ⟨fun q => (by cases q), fun q => absurd q (by omega)⟩) <| tk 13 (.bool false) ?_
  simp only [pp]
  refine rl_end hgo <| hKK4 _ _ <| wp_cond_false (by kernel_rfl) <| wp_skip <| hKK2 _ _ <| wp_seq_k fun KK7 hKK7 => ?_
  refine rm_begin (fun W => Ltr w6 W) (by kernel_rfl) (by exact bl_drew (bl_refl _)) fun K8 hgo w8 hE hS8 => ?_
  have hv8 : Ltr w6 w8 := by rw [hE]; exact bl_drew (bl_refl _)
  have hz8 := hv8.size
  clear hE hS8
  refine mk 0 20 (.pointer (some ⟨a, 0, none⟩)) <| mk 1 21 (.pointer (some ⟨a, 0, none⟩)) <| mk 2 22 (.pointer (some ⟨a, 0, none⟩)) ?_
  try simp only [pp]
  replace ka := (ka.later hL5).later hL6
  refine mx 3 23 va rfl (fun W hW => by (exact ld 108 a 0 ((ka.later hW).cell 0))) <| mk 4 24 (.pointer (some ⟨b, 0, none⟩)) <| mk 5 25 (.pointer (some ⟨b, 0, none⟩)) <| mk 6 26 (.pointer (some ⟨b, 0, none⟩)) ?_
  try simp only [pp]
  replace kb := (kb.later hL5).later hL6
  refine mx 7 27 vb rfl (fun W hW => by (exact ld 108 b 0 ((kb.later hW).cell 0))) ?_
  try simp only [pp]
  refine rm_pick1 (i := 8) (by kernel_rfl) ?_
  replace hT := (hT.later hL5).later hL6
  replace na := (na.later hL5).later hL6
  replace nb := (nb.later hL5).later hL6
  refine rm_callx (some 28) 83 #[va, vb] rfl rfl (by kernel_rfl) (fun W hW => by kernel_rfl) (fun W hlz hW => join_any l m va vb _ (hT.later (show Ltr w6 W from hW)) (na.later (show Ltr w6 W from hW)) (nb.later (show Ltr w6 W from hW)) hm) (by rintro W e w' ⟨v, rfl, hL9, hv⟩; exact hL9) (fun _ _ h k => Ltr.trans h k) ?_
  rintro q9 e w9 hq9 hQ9 ⟨v, rfl, hL9, hv⟩ hS9
  refine ⟨_, rfl, ?_⟩
  have hz9 := hL9.size
  have hy9 := hq9.size
  try simp only [pp]
  refine mx 9 29 (.agg #[v]) rfl (fun W hW => by (exact ex_build_node (x := Go.Operand.tmp 28) (v := v) rfl rfl hv.form _)) ?_
  try simp only [pp]
  refine rm_pick1 (i := 10) (by kernel_rfl) ?_
  refine rm_alloc (some 30) 110 #[v] rfl rfl (by kernel_rfl) (fun W => by kernel_rfl) (fun _ _ h k => Ltr.trans h k) fun q w10 hL10 hp10 hq hS10 => ?_
  have hz10 := hL10.size
  have hlt10 := hq.lt
  try simp only [pp]
  refine mk 11 4 (.pointer (some ⟨q, 0, none⟩)) <| mk 12 5 (.int .i64 0) ?_
  try simp only [pp]
  refine rm_done (by kernel_rfl) (fun w11 hL11 hS11 => hgo.out _ _ ?_) _
  clear hgo K8
  have hz11 := (show Ltr w6 _ from hS11).size
  have hy11 := hL11.size
  refine hKK7 _ _ ?_
  refine wp_ret ?_
  try simp only [Exit.then, Exit.inBlock]
  refine bp_ret (v := .tuple #[.pointer (some ⟨q, 0, none⟩), .int .i64 0]) (res2 rfl (res_tmp (by kernel_rfl)) (res_tmp (by kernel_rfl))) ?_
  replace hB := ((hB.later hL5).later hL6).later (show Ltr w6 _ from hS11)
  replace hv := (hv.later hL10).later hL11
  replace hq := hq.later hL11
  exact ⟨_, rfl, hB, ⟨v, hq, hv⟩, by omega⟩

def SplitP (l : List UInt8) (n : Nat) (w : World) (e : Ending) (w' : World) : Prop := ∃ va vb, e = .returned (.tuple #[va, vb]) ∧ Ltr w w' ∧ Node w' (l.take n) va ∧ Node w' (l.drop n) vb
theorem Tree.node {w : World} {t : Tr} {v : Value} (h : Tree w t v) (ho : t.ok) : Node w t.bytes v := .inr ⟨t, ho, rfl, h⟩
theorem Node.nil (w : World) : Node w [] .nilIface := .inl ⟨rfl, rfl⟩
set_option maxRecDepth 100000 in
set_option maxHeartbeats 8000000 in
theorem split_nil (n : Nat) (w : World) : Calls Tryd.prog 82 #[.nilIface, .int .i64 n] w (SplitP [] n w) := by
  have hB := Ltr.refl w
  go_enter Tryd.func82, Tryd.ntmps82
  refine wp_seq_k fun KK1 hKK1 => rl_begin fun hgK hgo => tk 4 .nilIface <| tk 5 .nilIface ?_
  simp only [pp]
  refine rl_end hgo <| hKK1 _ _ <| wp_seq_k fun KK2 hKK2 => wp_block <| wp_seq_k fun KK3 hKK3 => rl_begin fun hgK hgo => tk 16 .nilIface <| tk 17 (.bool true) <| tk 18 (.bool true) ?_
  simp only [pp]
  refine rl_pass (some 19) rfl (by kernel_rfl) ?_
  try simp only [pp]
  refine rl_pass (some 20) rfl (by kernel_rfl) ?_
  try simp only [pp]
  refine tk 21 (.bool true) <| tk 15 (.bool true) ?_
  simp only [pp]
  refine rl_end hgo <| hKK3 _ _ <| wp_cond_true (by kernel_rfl) <| wp_seq_k fun KK4 hKK4 => rl_begin fun hgK hgo => tk 22 .nilIface <| tk 4 .nilIface <| tk 5 .nilIface ?_
  simp only [pp]
  refine rl_end hgo <| hKK4 _ _ ?_
  refine wp_ret ?_
  try simp only [Exit.then, Exit.inBlock]
  refine bp_ret (v := .tuple #[.nilIface, .nilIface]) (res2 rfl (res_tmp (by kernel_rfl)) (res_tmp (by kernel_rfl))) ?_
  exact ⟨_, _, rfl, hB, by simpa using Node.nil _, by simpa using Node.nil _⟩
set_option maxRecDepth 100000 in
set_option maxHeartbeats 8000000 in
theorem split_0 (t : Tr) (v : Value) (w : World) (ht : Tree w t v) (ho : t.ok) : Calls Tryd.prog 82 #[v, .int .i64 0] w (SplitP t.bytes 0 w) := by
  have hB := Ltr.refl w
  obtain ⟨ty, z, rfl⟩ := ht.iface
  go_enter Tryd.func82, Tryd.ntmps82
  refine wp_seq_k fun KK1 hKK1 => rl_begin fun hgK hgo => tk 4 .nilIface <| tk 5 .nilIface ?_
  simp only [pp]
  refine rl_end hgo <| hKK1 _ _ <| wp_seq_k fun KK2 hKK2 => wp_block <| wp_seq_k fun KK3 hKK3 => rl_begin fun hgK hgo => tk 16 (.iface ty z) <| tk 17 (.bool false) <| tk 18 (.bool false) <| tk 19 (.int .i64 0) ?_
  simp only [pp]
  refine tx 20 (.bool true) (by exact eqt (x := 0) (y := 0) (by rfl)) <| tk 21 (.bool true) <| tk 15 (.bool true) ?_
  simp only [pp]
  refine rl_end hgo <| hKK3 _ _ <| wp_cond_true (by kernel_rfl) <| wp_seq_k fun KK4 hKK4 => rl_begin fun hgK hgo => tk 22 (.iface ty z) <| tk 4 .nilIface <| tk 5 (.iface ty z) ?_
  simp only [pp]
  refine rl_end hgo <| hKK4 _ _ ?_
  refine wp_ret ?_
  try simp only [Exit.then, Exit.inBlock]
  refine bp_ret (v := .tuple #[.nilIface, .iface ty z]) (res2 rfl (res_tmp (by kernel_rfl)) (res_tmp (by kernel_rfl))) ?_
  exact ⟨_, _, rfl, hB, by simpa using Node.nil _, by simpa using ht.node ho⟩
set_option maxRecDepth 100000 in
set_option maxHeartbeats 8000000 in
theorem split_all (t : Tr) (v : Value) (w : World) (ht : Tree w t v) (ho : t.ok) : Calls Tryd.prog 82 #[v, .int .i64 t.bytes.length] w (SplitP t.bytes t.bytes.length w) := by
  have hB := Ltr.refl w
  have h0 := t.len_pos ho
  obtain ⟨f1, x1, e1, c1⟩ := inv_size ht
  obtain ⟨ty, z, rfl⟩ := ht.iface
  go_enter Tryd.func82, Tryd.ntmps82
  refine wp_seq_k fun KK1 hKK1 => rl_begin fun hgK hgo => tk 4 .nilIface <| tk 5 .nilIface ?_
  simp only [pp]
  refine rl_end hgo <| hKK1 _ _ <| wp_seq_k fun KK2 hKK2 => wp_block <| wp_seq_k fun KK3 hKK3 => rl_begin fun hgK hgo => tk 16 (.iface ty z) <| tk 17 (.bool false) <| tk 18 (.bool false) <| tk 19 (.int .i64 t.bytes.length) ?_
  simp only [pp]
  refine tx 20 (.bool false) (by exact eqf (x := t.bytes.length) (y := 0) (by omega)) <| tk 21 (.bool false) <| tk 15 (.bool false) ?_
  simp only [pp]
  refine rl_end hgo <| hKK3 _ _ <| wp_cond_false (by kernel_rfl) <| wp_seq_k fun KK4 hKK4 => rl_begin fun hgK hgo => tk 24 (.int .i64 t.bytes.length) <| tk 25 (.iface ty z) ?_
  simp only [pp]
  refine rl_call (some 26) f1 #[x1] rfl (by kernel_rfl) (by exact e1 _ _ _ _ rfl rfl) (c1 _ hB) ?_
  rintro e w5 ⟨rfl, hL5⟩
  refine ⟨_, rfl, ?_⟩
  have hz5 := hL5.size
  try simp only [pp]
  refine tx 27 (.bool true) (by exact eqt (x := t.bytes.length) (y := t.bytes.length) (by rfl)) <| tk 23 (.bool true) ?_
  simp only [pp]
  refine rl_end hgo <| hKK4 _ _ <| wp_cond_true (by kernel_rfl) <| wp_seq_k fun KK6 hKK6 => rl_begin fun hgK hgo => tk 28 (.iface ty z) <| tk 4 (.iface ty z) <| tk 5 .nilIface ?_
  simp only [pp]
  refine rl_end hgo <| hKK6 _ _ ?_
  refine wp_ret ?_
  try simp only [Exit.then, Exit.inBlock]
  refine bp_ret (v := .tuple #[.iface ty z, .nilIface]) (res2 rfl (res_tmp (by kernel_rfl)) (res_tmp (by kernel_rfl))) ?_
  replace hB := hB.later hL5
  replace ht := ht.later hL5
  exact ⟨_, _, rfl, hB, by simpa using ht.node ho, by simpa using Node.nil _⟩
set_option maxRecDepth 100000 in
set_option maxHeartbeats 8000000 in
theorem split_tip (l : List UInt8) (n : Nat) (v : Value) (w : World) (hT : Tabs w) (ht : Tree w (.tip l) v) (ho : (Tr.tip l).ok) (h1 : 0 < n) (h2 : n < l.length) : Calls Tryd.prog 82 #[v, .int .i64 n] w (SplitP l n w) := by
  have hB := Ltr.refl w
  obtain ⟨a, rfl, ha⟩ := ht.tip_open
  have la := Blk.lt ha
  obtain ⟨o1, o2⟩ := ho
  go_enter Tryd.func82, Tryd.ntmps82
  have h4 := hT.four
  refine wp_seq_k fun KK1 hKK1 => rl_begin fun hgK hgo => tk 4 .nilIface <| tk 5 .nilIface ?_
  simp only [pp]
  refine rl_end hgo <| hKK1 _ _ <| wp_seq_k fun KK2 hKK2 => wp_block <| wp_seq_k fun KK3 hKK3 => rl_begin fun hgK hgo => tk 16 (.iface 118 (.agg #[.pointer (some ⟨a, 0, none⟩)])) <| tk 17 (.bool false) <| tk 18 (.bool false) <| tk 19 (.int .i64 n) ?_
  simp only [pp]
  refine tx 20 (.bool false) (by exact eqf (x := n) (y := 0) (by omega)) <| tk 21 (.bool false) <| tk 15 (.bool false) ?_
  simp only [pp]
  refine rl_end hgo <| hKK3 _ _ <| wp_cond_false (by kernel_rfl) <| wp_seq_k fun KK4 hKK4 => rl_begin fun hgK hgo => tk 24 (.int .i64 n) <| tk 25 (.iface 118 (.agg #[.pointer (some ⟨a, 0, none⟩)])) ?_
  simp only [pp]
  refine rl_call (some 26) 161 #[(.agg #[.pointer (some ⟨a, 0, none⟩)])] rfl (by kernel_rfl) (by kernel_rfl) (tsize_any a l _ ha) ?_
  rintro e w5 ⟨rfl, hL5⟩
  refine ⟨_, rfl, ?_⟩
  have hz5 := hL5.size
  try simp only [pp]
  refine tx 27 (.bool false) (by exact eqf (x := n) (y := l.length) (by omega)) <| tk 23 (.bool false) ?_
  simp only [pp]
  refine rl_end hgo <| hKK4 _ _ <| wp_cond_false (by kernel_rfl) <| wp_skip <| hKK2 _ _ <| wp_seq_k fun KK6 hKK6 => wp_seq_k fun KK7 hKK7 => rl_begin fun hgK hgo => tk 29 (.iface 118 (.agg #[.pointer (some ⟨a, 0, none⟩)])) ?_
  simp only [pp]
  refine rl_end hgo <| hKK7 _ _ <| wp_block <| wp_seq_k fun KK8 hKK8 => rl_begin fun hgK hgo => tk 30 (.tuple #[.agg #[.pointer (some ⟨a, 0, none⟩)], .bool true]) <| tk 31 (.bool true) <| tk 32 (.agg #[.pointer (some ⟨a, 0, none⟩)]) ?_
  simp only [pp]
  refine rl_end hgo <| hKK8 _ _ <| wp_cond_true (by kernel_rfl) <| wp_seq_k fun KK9 hKK9 => rl_begin fun hgK hgo => ?_
  refine rl_alloc (some 6) 118 #[.pointer none] rfl (by kernel_rfl) (fun W => by kernel_rfl) fun p10 w10 hL10 hp10 hb10 => ?_
  have hz10 := hL10.size
  have hlt10 := hb10.lt
  try simp only [pp]
  refine rl_store p10 #[.pointer (some ⟨a, 0, none⟩)] rfl rfl (by kernel_rfl) rfl rfl (by kernel_rfl) hb10 rfl (by kernel_rfl) fun w11 hU11 hn11 => ?_
  have hz11 := hU11.size
  replace hT := (hT.later hL5).later hL10
  replace hT := hT.upd hU11 (by omega)
  replace hB := (hB.later hL5).later hL10
  replace hB := hB.upd hU11 (by omega)
  replace ha := (ha.later hL5).later hL10
  replace ha := ha.upd hU11 (by omega)
  clear hb10
  have hb10 := hn11
  clear hn11
  try simp only [pp]
  refine rl_end hgo <| hKK9 _ _ <| wp_seq_k fun KK12 hKK12 => rl_begin fun hgK hgo => tk 34 (.pointer (some ⟨p10, 0, none⟩)) ?_
  simp only [pp]
  refine tx 35 (.pointer (some ⟨a, 0, none⟩)) (by exact ld 116 p10 0 (hb10.cell 0)) <| tk 36 (.int .i64 n) ?_
  simp only [pp]
  refine rl_call (some 37) 104 #[.pointer (some ⟨a, 0, none⟩), .int .i64 n] rfl (by kernel_rfl) (by kernel_rfl) (LSplit_any a l n (by omega) (by omega) _ hT ha) ?_
  rintro e w13 ⟨p, q, rfl, hL13, hp, hq⟩
  refine ⟨_, rfl, ?_⟩
  have hz13 := hL13.size
  try simp only [pp]
  refine tk 33 (.tuple #[.pointer (some ⟨p, 0, none⟩), .pointer (some ⟨q, 0, none⟩), .int .i64 0]) <| tk 38 (.pointer (some ⟨p, 0, none⟩)) <| tk 39 (.pointer (some ⟨q, 0, none⟩)) <| tk 40 (.int .i64 0) <| tk 7 (.pointer (some ⟨p, 0, none⟩)) <| tk 8 (.pointer (some ⟨q, 0, none⟩)) <| tk 9 (.int .i64 0) ?_
  simp only [pp]
  refine rl_end hgo <| hKK12 _ _ <| wp_seq_k fun KK14 hKK14 => rl_begin fun hgK hgo => tk 41 (.pointer (some ⟨p, 0, none⟩)) <| tk 42 (.agg #[.pointer (some ⟨p, 0, none⟩)]) <| tk 43 (.iface 118 (.agg #[.pointer (some ⟨p, 0, none⟩)])) <| tk 44 (.pointer (some ⟨q, 0, none⟩)) <| tk 45 (.agg #[.pointer (some ⟨q, 0, none⟩)]) <| tk 46 (.iface 118 (.agg #[.pointer (some ⟨q, 0, none⟩)])) <| tk 4 (.iface 118 (.agg #[.pointer (some ⟨p, 0, none⟩)])) <| tk 5 (.iface 118 (.agg #[.pointer (some ⟨q, 0, none⟩)])) ?_
  simp only [pp]
  refine rl_end hgo <| hKK14 _ _ ?_
  refine wp_ret ?_
  try simp only [Exit.then, Exit.inBlock]
  refine bp_ret (v := .tuple #[.iface 118 (.agg #[.pointer (some ⟨p, 0, none⟩)]), .iface 118 (.agg #[.pointer (some ⟨q, 0, none⟩)])]) (res2 rfl (res_tmp (by kernel_rfl)) (res_tmp (by kernel_rfl))) ?_
  replace hB := hB.later hL13
  exact ⟨_, _, rfl, hB, (Tree.tip_mk hp).node ⟨by rw [List.length_take]; omega, by rw [List.length_take]; omega⟩, (Tree.tip_mk hq).node ⟨by rw [List.length_drop]; omega, by rw [List.length_drop]; omega⟩⟩
set_option maxRecDepth 100000 in
set_option maxHeartbeats 8000000 in
theorem split_f1 (p q : Tr) (n : Nat) (v : Value) (w : World) (hT : Tabs w) (ht : Tree w (.fork p q) v) (ho : (Tr.fork p q).ok) (h1 : 0 < n) (h2 : n ≤ p.bytes.length) (hm : p.bytes.length + q.bytes.length ≤ 200000000)
    (ih : ∀ v w, Tabs w → Tree w p v → Calls Tryd.prog 82 #[v, .int .i64 n] w (SplitP p.bytes n w)) : Calls Tryd.prog 82 #[v, .int .i64 n] w (SplitP (Tr.fork p q).bytes n w) := by
  have hB := Ltr.refl w
  obtain ⟨f1, x1, e1, c1⟩ := inv_size ht
  have hl := Tr.len_fork p q
  obtain ⟨op, oq, -, -⟩ := ho
  have lp := p.len_pos op
  have lq := q.len_pos oq
  have IH := Lib.hid ih
  clear ih
  obtain ⟨a, vp, vq, rfl, hb, hp, hq⟩ := ht.fork_open
  obtain ⟨f2, x2, e2, c2⟩ := inv_size hp
  have nq := hq.node oq
  clear ht hq
  go_enter Tryd.func82, Tryd.ntmps82
  have h4 := hT.four
  have hlt_hb := hb.lt
  refine wp_seq_k fun KK1 hKK1 => rl_begin fun hgK hgo => tk 4 .nilIface <| tk 5 .nilIface ?_
  simp only [pp]
  refine rl_end hgo <| hKK1 _ _ <| wp_seq_k fun KK2 hKK2 => wp_block <| wp_seq_k fun KK3 hKK3 => rl_begin fun hgK hgo => tk 16 (.iface 111 (.pointer (some ⟨a, 0, none⟩))) <| tk 17 (.bool false) <| tk 18 (.bool false) <| tk 19 (.int .i64 n) ?_
  simp only [pp]
  refine tx 20 (.bool false) (by exact eqf (x := n) (y := 0) (by omega)) <| tk 21 (.bool false) <| tk 15 (.bool false) ?_
  simp only [pp]
  refine rl_end hgo <| hKK3 _ _ <| wp_cond_false (by kernel_rfl) <| wp_seq_k fun KK4 hKK4 => rl_begin fun hgK hgo => tk 24 (.int .i64 n) <| tk 25 (.iface 111 (.pointer (some ⟨a, 0, none⟩))) ?_
  simp only [pp]
  refine rl_call (some 26) f1 #[x1] rfl (by kernel_rfl) (by exact e1 _ _ _ _ rfl rfl) (c1 _ hB) ?_
  rintro e w5 ⟨rfl, hL5⟩
  refine ⟨_, rfl, ?_⟩
  have hz5 := hL5.size
  try simp only [pp]
  refine tx 27 (.bool false) (by exact eqf (x := n) (y := (Tr.fork p q).bytes.length) (by omega)) <| tk 23 (.bool false) ?_
  simp only [pp]
  refine rl_end hgo <| hKK4 _ _ <| wp_cond_false (by kernel_rfl) <| wp_skip <| hKK2 _ _ <| wp_seq_k fun KK6 hKK6 => wp_seq_k fun KK7 hKK7 => rl_begin fun hgK hgo => tk 29 (.iface 111 (.pointer (some ⟨a, 0, none⟩))) ?_
  simp only [pp]
  refine rl_end hgo <| hKK7 _ _ <| wp_block <| wp_seq_k fun KK8 hKK8 => rl_begin fun hgK hgo => tk 30 (.tuple #[.agg #[.pointer none], .bool false]) <| tk 31 (.bool false) <| tk 32 (.agg #[.pointer none]) ?_
  simp only [pp]
  refine rl_end hgo <| hKK8 _ _ <| wp_cond_false (by kernel_rfl) <| wp_seq_k fun KK9 hKK9 => rl_begin fun hgK hgo => tk 47 (.tuple #[.pointer (some ⟨a, 0, none⟩), .bool true]) <| tk 48 (.bool true) <| tk 49 (.pointer (some ⟨a, 0, none⟩)) ?_
  simp only [pp]
  refine rl_end hgo <| hKK9 _ _ <| wp_cond_true (by kernel_rfl) <| wp_seq_k fun KK10 hKK10 => rl_begin fun hgK hgo => tk 10 (.pointer (some ⟨a, 0, none⟩)) ?_
  simp only [pp]
  refine rl_end hgo <| hKK10 _ _ <| wp_seq_k fun KK11 hKK11 => wp_seq_k fun KK12 hKK12 => rl_begin fun hgK hgo => tk 50 (.int .i64 n) <| tk 51 (.pointer (some ⟨a, 0, none⟩)) <| tk 52 (.pointer (some ⟨a, 0, none⟩)) <| tk 53 (.pointer (some ⟨a, 0, none⟩)) ?_
  simp only [pp]
  replace hb := hb.later hL5
  refine tx 54 vp (by exact ld 108 a 0 (hb.cell 0)) ?_
  simp only [pp]
  replace hB := hB.later hL5
  refine rl_call (some 55) f2 #[x2] rfl (by kernel_rfl) (by exact e2 _ _ _ _ rfl rfl) (c2 _ (hB.later (Ltr.refl _))) ?_
  rintro e w13 ⟨rfl, hL13⟩
  refine ⟨_, rfl, ?_⟩
  have hz13 := hL13.size
  try simp only [pp]
  refine tx 56 (.bool true) (by exact ebt (c := (n : Int) ≤ p.bytes.length) (by omega)) ?_
  simp only [pp]
  refine rl_end hgo <| hKK12 _ _ <| wp_cond_true (by kernel_rfl) <| wp_seq_k fun KK14 hKK14 => rl_begin fun hgK hgo => tk 58 (.pointer (some ⟨a, 0, none⟩)) <| tk 59 (.pointer (some ⟨a, 0, none⟩)) <| tk 60 (.pointer (some ⟨a, 0, none⟩)) ?_
  simp only [pp]
  replace hb := hb.later hL13
  refine tx 61 vp (by exact ld 108 a 0 (hb.cell 0)) <| tk 62 (.int .i64 n) ?_
  simp only [pp]
  replace hT := (hT.later hL5).later hL13
  replace hp := (hp.later hL5).later hL13
  refine rl_call (some 63) 82 #[vp, .int .i64 n] rfl (by kernel_rfl) (by kernel_rfl) (IH.out vp _ hT hp) ?_
  rintro e w15 ⟨va, vb, rfl, hL15, na, nb⟩
  refine ⟨_, rfl, ?_⟩
  have hz15 := hL15.size
  try simp only [pp]
  refine tk 57 (.tuple #[va, vb]) <| tk 64 va <| tk 65 vb <| tk 11 va <| tk 12 vb ?_
  simp only [pp]
  refine rl_end hgo <| hKK14 _ _ <| wp_seq_k fun KK16 hKK16 => rl_begin fun hgK hgo => tk 66 va <| tk 67 vb <| tk 68 (.pointer (some ⟨a, 0, none⟩)) <| tk 69 (.pointer (some ⟨a, 0, none⟩)) <| tk 70 (.pointer (some ⟨a, 1, none⟩)) ?_
  simp only [pp]
  replace hb := hb.later hL15
  refine tx 71 vq (by exact ld 108 a 1 (hb.cell 1)) ?_
  simp only [pp]
  replace nq := ((nq.later hL5).later hL13).later hL15
  replace hT := hT.later hL15
  refine rl_call (some 72) 83 #[vb, vq] rfl (by kernel_rfl) (by kernel_rfl) (join_any _ _ vb vq _ hT nb nq (by rw [List.length_drop]; omega)) ?_
  rintro e w17 ⟨vj, rfl, hL17, nj⟩
  refine ⟨_, rfl, ?_⟩
  have hz17 := hL17.size
  try simp only [pp]
  refine tk 4 va <| tk 5 vj ?_
  simp only [pp]
  refine rl_end hgo <| hKK16 _ _ ?_
  refine wp_ret ?_
  try simp only [Exit.then, Exit.inBlock]
  refine bp_ret (v := .tuple #[va, vj]) (res2 rfl (res_tmp (by kernel_rfl)) (res_tmp (by kernel_rfl))) ?_
  replace hB := ((hB.later hL13).later hL15).later hL17
  replace na := na.later hL17
  exact ⟨_, _, rfl, hB, by rw [Tr.b_fork, List.take_append_of_le_length h2]; exact na, by rw [Tr.b_fork, List.drop_append_of_le_length h2]; exact nj⟩
set_option maxRecDepth 100000 in
set_option maxHeartbeats 8000000 in
theorem split_f2 (p q : Tr) (n : Nat) (v : Value) (w : World) (hT : Tabs w) (ht : Tree w (.fork p q) v) (ho : (Tr.fork p q).ok) (h1 : p.bytes.length < n) (h2 : n < p.bytes.length + q.bytes.length) (hm : p.bytes.length + q.bytes.length ≤ 200000000)
    (ih : ∀ v w, Tabs w → Tree w q v → Calls Tryd.prog 82 #[v, .int .i64 ((n - p.bytes.length : Nat) : Int)] w (SplitP q.bytes (n - p.bytes.length) w)) : Calls Tryd.prog 82 #[v, .int .i64 n] w (SplitP (Tr.fork p q).bytes n w) := by
  have hB := Ltr.refl w
  obtain ⟨f1, x1, e1, c1⟩ := inv_size ht
  have hl := Tr.len_fork p q
  obtain ⟨op, oq, -, -⟩ := ho
  have lp := p.len_pos op
  have lq := q.len_pos oq
  have IH := Lib.hid ih
  clear ih
  obtain ⟨a, vp, vq, rfl, hb, hp, hq⟩ := ht.fork_open
  obtain ⟨f2, x2, e2, c2⟩ := inv_size hp
  have np := hp.node op
  clear ht hp
  go_enter Tryd.func82, Tryd.ntmps82
  have h4 := hT.four
  have hlt_hb := hb.lt
  refine wp_seq_k fun KK1 hKK1 => rl_begin fun hgK hgo => tk 4 .nilIface <| tk 5 .nilIface ?_
  simp only [pp]
  refine rl_end hgo <| hKK1 _ _ <| wp_seq_k fun KK2 hKK2 => wp_block <| wp_seq_k fun KK3 hKK3 => rl_begin fun hgK hgo => tk 16 (.iface 111 (.pointer (some ⟨a, 0, none⟩))) <| tk 17 (.bool false) <| tk 18 (.bool false) <| tk 19 (.int .i64 n) ?_
  simp only [pp]
  refine tx 20 (.bool false) (by exact eqf (x := n) (y := 0) (by omega)) <| tk 21 (.bool false) <| tk 15 (.bool false) ?_
  simp only [pp]
  refine rl_end hgo <| hKK3 _ _ <| wp_cond_false (by kernel_rfl) <| wp_seq_k fun KK4 hKK4 => rl_begin fun hgK hgo => tk 24 (.int .i64 n) <| tk 25 (.iface 111 (.pointer (some ⟨a, 0, none⟩))) ?_
  simp only [pp]
  refine rl_call (some 26) f1 #[x1] rfl (by kernel_rfl) (by exact e1 _ _ _ _ rfl rfl) (c1 _ hB) ?_
  rintro e w5 ⟨rfl, hL5⟩
  refine ⟨_, rfl, ?_⟩
  have hz5 := hL5.size
  try simp only [pp]
  refine tx 27 (.bool false) (by exact eqf (x := n) (y := (Tr.fork p q).bytes.length) (by omega)) <| tk 23 (.bool false) ?_
  simp only [pp]
  refine rl_end hgo <| hKK4 _ _ <| wp_cond_false (by kernel_rfl) <| wp_skip <| hKK2 _ _ <| wp_seq_k fun KK6 hKK6 => wp_seq_k fun KK7 hKK7 => rl_begin fun hgK hgo => tk 29 (.iface 111 (.pointer (some ⟨a, 0, none⟩))) ?_
  simp only [pp]
  refine rl_end hgo <| hKK7 _ _ <| wp_block <| wp_seq_k fun KK8 hKK8 => rl_begin fun hgK hgo => tk 30 (.tuple #[.agg #[.pointer none], .bool false]) <| tk 31 (.bool false) <| tk 32 (.agg #[.pointer none]) ?_
  simp only [pp]
  refine rl_end hgo <| hKK8 _ _ <| wp_cond_false (by kernel_rfl) <| wp_seq_k fun KK9 hKK9 => rl_begin fun hgK hgo => tk 47 (.tuple #[.pointer (some ⟨a, 0, none⟩), .bool true]) <| tk 48 (.bool true) <| tk 49 (.pointer (some ⟨a, 0, none⟩)) ?_
  simp only [pp]
  refine rl_end hgo <| hKK9 _ _ <| wp_cond_true (by kernel_rfl) <| wp_seq_k fun KK10 hKK10 => rl_begin fun hgK hgo => tk 10 (.pointer (some ⟨a, 0, none⟩)) ?_
  simp only [pp]
  refine rl_end hgo <| hKK10 _ _ <| wp_seq_k fun KK11 hKK11 => wp_seq_k fun KK12 hKK12 => rl_begin fun hgK hgo => tk 50 (.int .i64 n) <| tk 51 (.pointer (some ⟨a, 0, none⟩)) <| tk 52 (.pointer (some ⟨a, 0, none⟩)) <| tk 53 (.pointer (some ⟨a, 0, none⟩)) ?_
  simp only [pp]
  replace hb := hb.later hL5
  refine tx 54 vp (by exact ld 108 a 0 (hb.cell 0)) ?_
  simp only [pp]
  replace hB := hB.later hL5
  refine rl_call (some 55) f2 #[x2] rfl (by kernel_rfl) (by exact e2 _ _ _ _ rfl rfl) (c2 _ (hB.later (Ltr.refl _))) ?_
  rintro e w13 ⟨rfl, hL13⟩
  refine ⟨_, rfl, ?_⟩
  have hz13 := hL13.size
  try simp only [pp]
  refine tx 56 (.bool false) (by exact ebf (c := (n : Int) ≤ p.bytes.length) (by omega)) ?_
  simp only [pp]
  refine rl_end hgo <| hKK12 _ _ <| wp_cond_false (by kernel_rfl) <| wp_skip <| hKK11 _ _ <| wp_seq_k fun KK14 hKK14 => ?_
  refine rm_begin (fun W => Ltr w13 W) (by kernel_rfl) (by exact bl_drew (bl_refl _)) fun K15 hgo w15 hE hS15 => ?_
  have hv15 : Ltr w13 w15 := by rw [hE]; exact bl_drew (bl_refl _)
  have hz15 := hv15.size
  clear hE hS15
  refine mk 0 74 (.pointer (some ⟨a, 0, none⟩)) <| mk 1 75 (.pointer (some ⟨a, 0, none⟩)) <| mk 2 76 (.pointer (some ⟨a, 1, none⟩)) ?_
  try simp only [pp]
  replace hb := hb.later hL13
  refine mx 3 77 vq rfl (fun W hW => by (exact ld 108 a 1 ((hb.later hW).cell 1))) <| mk 4 78 (.int .i64 n) <| mk 5 79 (.pointer (some ⟨a, 0, none⟩)) <| mk 6 80 (.pointer (some ⟨a, 0, none⟩)) <| mk 7 81 (.pointer (some ⟨a, 0, none⟩)) ?_
  try simp only [pp]
  refine mx 8 82 vp rfl (fun W hW => by (exact ld 108 a 0 ((hb.later hW).cell 0))) ?_
  try simp only [pp]
  replace hB := hB.later hL13
  refine rm_call 9 (some 83) (.int .i64 p.bytes.length) f2 #[x2] rfl rfl (by kernel_rfl) (by kernel_rfl) (by kernel_rfl) (by kernel_rfl) (fun W hW => by exact e2 _ _ _ _ rfl rfl) (fun W hW => c2 _ (hB.later hW)) (fun _ _ h k => Ltr.trans h k) ?_
  try simp only [pp]
  refine mx 10 84 (.int .i64 (((n - p.bytes.length : Nat) : Int))) rfl (fun W hW => by (exact ex_arith (e := (n : Int) - p.bytes.length) (r := ((n - p.bytes.length : Nat) : Int)) (by kernel_rfl) (by omega) (by omega))) ?_
  try simp only [pp]
  refine rm_pick1 (i := 11) (by kernel_rfl) ?_
  replace hT := (hT.later hL5).later hL13
  replace hq := (hq.later hL5).later hL13
  refine rm_callx (some 85) 82 #[vq, .int .i64 (((n - p.bytes.length : Nat) : Int))] rfl rfl (by kernel_rfl) (fun W hW => by kernel_rfl) (fun W hlz hW => IH.out vq _ (hT.later (show Ltr w13 W from hW)) (hq.later (show Ltr w13 W from hW))) (by rintro W e w' ⟨va, vb, rfl, hL16, na, nb⟩; exact hL16) (fun _ _ h k => Ltr.trans h k) ?_
  rintro q16 e w16 hq16 hQ16 ⟨va, vb, rfl, hL16, na, nb⟩ hS16
  refine ⟨_, rfl, ?_⟩
  have hz16 := hL16.size
  have hy16 := hq16.size
  try simp only [pp]
  refine mk 12 73 (.tuple #[va, vb]) <| mk 13 86 va <| mk 14 87 vb <| mk 15 13 va <| mk 16 14 vb ?_
  try simp only [pp]
  refine rm_done (by kernel_rfl) (fun w17 hL17 hS17 => hgo.out _ _ ?_) _
  clear hgo K15
  have hz17 := (show Ltr w13 _ from hS17).size
  have hy17 := hL17.size
  refine hKK14 _ _ <| wp_seq_k fun KK18 hKK18 => rl_begin fun hgK hgo => tk 88 (.pointer (some ⟨a, 0, none⟩)) <| tk 89 (.pointer (some ⟨a, 0, none⟩)) <| tk 90 (.pointer (some ⟨a, 0, none⟩)) ?_
  simp only [pp]
  replace hb := hb.later (show Ltr w13 _ from hS17)
  refine tx 91 vp (by exact ld 108 a 0 (hb.cell 0)) <| tk 92 va ?_
  simp only [pp]
  replace np := ((np.later hL5).later hL13).later (show Ltr w13 _ from hS17)
  replace na := na.later hL17
  replace hT := hT.later (show Ltr w13 _ from hS17)
  refine rl_call (some 93) 83 #[vp, va] rfl (by kernel_rfl) (by kernel_rfl) (join_any _ _ vp va _ hT np na (by rw [List.length_take]; omega)) ?_
  rintro e w19 ⟨vj, rfl, hL19, nj⟩
  refine ⟨_, rfl, ?_⟩
  have hz19 := hL19.size
  try simp only [pp]
  refine tk 94 vb <| tk 4 vj <| tk 5 vb ?_
  simp only [pp]
  refine rl_end hgo <| hKK18 _ _ ?_
  refine wp_ret ?_
  try simp only [Exit.then, Exit.inBlock]
  refine bp_ret (v := .tuple #[vj, vb]) (res2 rfl (res_tmp (by kernel_rfl)) (res_tmp (by kernel_rfl))) ?_
  replace nb := (nb.later hL17).later hL19
  replace hB := (hB.later (show Ltr w13 _ from hS17)).later hL19
  exact ⟨_, _, rfl, hB, by rw [Tr.b_fork, List.take_append, List.take_of_length_le (by omega)]; exact nj, by rw [Tr.b_fork, List.drop_append, List.drop_eq_nil_of_le (by omega), List.nil_append]; exact nb⟩
theorem split_tt (k : Nat) : ∀ (t : Tr) (n : Nat) (v : Value) (w : World), t.h ≤ k → Tabs w → Tree w t v → t.ok → n ≤ t.bytes.length → t.bytes.length ≤ 200000000 → Calls Tryd.prog 82 #[v, .int .i64 n] w (SplitP t.bytes n w) := by
  induction k with
  | zero => intro t n v w h; have := t.h_pos; omega
  | succ k ih =>
    intro t n v w hk hT ht ho hn hm
    by_cases h0 : n = 0
    · subst h0; exact split_0 t v w ht ho
    by_cases h1 : n = t.bytes.length
    · subst h1; exact split_all t v w ht ho
    cases t with
    | tip l => exact split_tip l n v w hT ht ho (by omega) (by simp only [Tr.bytes] at hn h1; omega)
    | fork p q =>
      have hl := Tr.len_fork p q
      simp only [Tr.h] at hk
      by_cases h2 : n ≤ p.bytes.length
      · exact split_f1 p q n v w hT ht ho (by omega) h2 (by omega) fun v w hT hp => ih p n v w (by omega) hT hp ho.1 h2 (by omega)
      · exact split_f2 p q n v w hT ht ho (by omega) (by omega) (by omega) fun v w hT hq => ih q _ v w (by omega) hT hq ho.2.1 (by omega) (by omega)
theorem split_any (l : List UInt8) (n : Nat) (v : Value) (w : World) (hT : Tabs w) (hv : Node w l v) (hn : n ≤ l.length) (hm : l.length ≤ 200000000) : Calls Tryd.prog 82 #[v, .int .i64 n] w (SplitP l n w) := by
  rcases hv with ⟨rfl, rfl⟩ | ⟨t, ho, rfl, ht⟩
  · exact split_nil n w
  · exact split_tt _ t n v w (Nat.le_refl _) hT ht ho hn hm
def SplitR (l : List UInt8) (n : Nat) (w : World) (e : Ending) (w' : World) : Prop := ∃ p q, e = .returned (.tuple #[.pointer (some ⟨p, 0, none⟩), .pointer (some ⟨q, 0, none⟩), .int .i64 0]) ∧ Ltr w w' ∧ RopeAt w' p (l.take n) ∧ RopeAt w' q (l.drop n) ∧ w.heap.size ≤ p ∧ w.heap.size ≤ q
set_option maxRecDepth 100000 in
set_option maxHeartbeats 8000000 in
theorem RSplit_any (b : Nat) (l : List UInt8) (n : Nat) (w : World) (hT : Tabs w) (hr : RopeAt w b l) (hn : n ≤ l.length) (hm : l.length ≤ 200000000) :
    Calls Tryd.prog 39 #[.pointer (some ⟨b, 0, none⟩), .int .i64 n] w (SplitR l n w) := by
  have hB := Ltr.refl w
  have hr0 := hr
  obtain ⟨v, hb, nv⟩ := hr
  go_enter Tryd.func39, Tryd.ntmps39
  have h4 := hT.four
  have hlt_hb := hb.lt
  refine wp_seq_k fun KK1 hKK1 => rl_begin fun hgK hgo => tk 4 (.pointer none) <| tk 5 (.pointer none) <| tk 6 (.int .i64 0) ?_
  simp only [pp]
  refine rl_end hgo <| hKK1 _ _ <| wp_seq_k fun KK2 hKK2 => wp_seq_k fun KK3 hKK3 => rl_begin fun hgK hgo => tk 10 (.pointer (some ⟨b, 0, none⟩)) <| tk 11 (.int .i64 n) ?_
  simp only [pp]
  refine rl_call (some 12) 77 #[.pointer (some ⟨b, 0, none⟩), .int .i64 n] rfl (by kernel_rfl) (by kernel_rfl) (place_in b l n hn _ hr0) ?_
  rintro e w4 ⟨rfl, hL4⟩
  refine ⟨_, rfl, ?_⟩
  have hz4 := hL4.size
  try simp only [pp]
  refine tk 7 (.int .i64 0) ?_
  simp only [pp]
  refine rl_end hgo <| hKK3 _ _ <| wp_seq_k fun KK5 hKK5 => rl_begin fun hgK hgo => tk 13 (.int .i64 0) ?_
  simp only [pp]
  refine tx 14 (.bool false) (by exact nef (x := 0) (y := 0) (by omega)) ?_
  simp only [pp]
  refine rl_end hgo <| hKK5 _ _ <| wp_cond_false (by kernel_rfl) <| wp_skip <| hKK2 _ _ <| wp_seq_k fun KK6 hKK6 => rl_begin fun hgK hgo => tk 17 (.pointer (some ⟨b, 0, none⟩)) <| tk 18 (.pointer (some ⟨b, 0, none⟩)) <| tk 19 (.pointer (some ⟨b, 0, none⟩)) ?_
  simp only [pp]
  replace hb := hb.later hL4
  refine tx 20 v (by exact ld 108 b 0 (hb.cell 0)) <| tk 21 (.int .i64 n) ?_
  simp only [pp]
  replace hT := hT.later hL4
  replace nv := nv.later hL4
  refine rl_call (some 22) 82 #[v, .int .i64 n] rfl (by kernel_rfl) (by kernel_rfl) (split_any l n v _ hT nv hn hm) ?_
  rintro e w7 ⟨va, vb, rfl, hL7, na, nb⟩
  refine ⟨_, rfl, ?_⟩
  have hz7 := hL7.size
  try simp only [pp]
  refine tk 16 (.tuple #[va, vb]) <| tk 23 va <| tk 24 vb <| tk 8 va <| tk 9 vb ?_
  simp only [pp]
  refine rl_end hgo <| hKK6 _ _ <| wp_seq_k fun KK8 hKK8 => rl_begin fun hgK hgo => tk 25 va ?_
  simp only [pp]
  refine tx 26 (.agg #[va]) (by exact ex_build_node (x := Go.Operand.tmp 25) (v := va) rfl rfl na.form _) ?_
  simp only [pp]
  refine rl_alloc (some 27) 110 #[va] rfl (by kernel_rfl) (fun W => by kernel_rfl) fun p w9 hL9 hp9 hp => ?_
  have hz9 := hL9.size
  have hlt9 := hp.lt
  try simp only [pp]
  refine tk 28 vb ?_
  simp only [pp]
  replace nb := nb.later hL9
  refine tx 29 (.agg #[vb]) (by exact ex_build_node (x := Go.Operand.tmp 28) (v := vb) rfl rfl nb.form _) ?_
  simp only [pp]
  refine rl_alloc (some 30) 110 #[vb] rfl (by kernel_rfl) (fun W => by kernel_rfl) fun q w10 hL10 hp10 hq => ?_
  have hz10 := hL10.size
  have hlt10 := hq.lt
  try simp only [pp]
  refine tk 4 (.pointer (some ⟨p, 0, none⟩)) <| tk 5 (.pointer (some ⟨q, 0, none⟩)) <| tk 6 (.int .i64 0) ?_
  simp only [pp]
  refine rl_end hgo <| hKK8 _ _ ?_
  refine wp_ret ?_
  try simp only [Exit.then, Exit.inBlock]
  refine bp_ret (v := .tuple #[.pointer (some ⟨p, 0, none⟩), .pointer (some ⟨q, 0, none⟩), .int .i64 0]) (res3 rfl (res_tmp (by kernel_rfl)) (res_tmp (by kernel_rfl)) (res_tmp (by kernel_rfl))) ?_
  replace hB := (((hB.later hL4).later hL7).later hL9).later hL10
  replace na := (na.later hL9).later hL10
  replace nb := nb.later hL10
  replace hp := hp.later hL10
  exact ⟨_, _, rfl, hB, ⟨_, hp, na⟩, ⟨_, hq, nb⟩, by omega, by omega⟩
set_option maxRecDepth 100000 in
set_option maxHeartbeats 8000000 in
theorem RSplit_out (b : Nat) (l : List UInt8) (n : Int) (w : World) (hr : RopeAt w b l) (hn : n < 0 ∨ (l.length : Int) < n) :
    Calls Tryd.prog 39 #[.pointer (some ⟨b, 0, none⟩), .int .i64 n] w fun e w' => e = .returned (.tuple #[.pointer none, .pointer none, .int .i64 2]) ∧ Ltr w w' := by
  have hB := Ltr.refl w
  go_enter Tryd.func39, Tryd.ntmps39
  refine wp_seq_k fun KK1 hKK1 => rl_begin fun hgK hgo => tk 4 (.pointer none) <| tk 5 (.pointer none) <| tk 6 (.int .i64 0) ?_
  simp only [pp]
  refine rl_end hgo <| hKK1 _ _ <| wp_seq_k fun KK2 hKK2 => wp_seq_k fun KK3 hKK3 => rl_begin fun hgK hgo => tk 10 (.pointer (some ⟨b, 0, none⟩)) <| tk 11 (.int .i64 n) ?_
  simp only [pp]
  refine rl_call (some 12) 77 #[.pointer (some ⟨b, 0, none⟩), .int .i64 n] rfl (by kernel_rfl) (by kernel_rfl) (place_out b l n hn _ hr) ?_
  rintro e w4 ⟨rfl, hL4⟩
  refine ⟨_, rfl, ?_⟩
  have hz4 := hL4.size
  try simp only [pp]
  refine tk 7 (.int .i64 2) ?_
  simp only [pp]
  refine rl_end hgo <| hKK3 _ _ <| wp_seq_k fun KK5 hKK5 => rl_begin fun hgK hgo => tk 13 (.int .i64 2) ?_
  simp only [pp]
  refine tx 14 (.bool true) (by exact net (x := 2) (y := 0) (by omega)) ?_
  simp only [pp]
  refine rl_end hgo <| hKK5 _ _ <| wp_cond_true (by kernel_rfl) <| wp_seq_k fun KK6 hKK6 => rl_begin fun hgK hgo => tk 15 (.int .i64 2) <| tk 4 (.pointer none) <| tk 5 (.pointer none) <| tk 6 (.int .i64 2) ?_
  simp only [pp]
  refine rl_end hgo <| hKK6 _ _ ?_
  refine wp_ret ?_
  try simp only [Exit.then, Exit.inBlock]
  refine bp_ret (v := .tuple #[.pointer none, .pointer none, .int .i64 2]) (res3 rfl (res_tmp (by kernel_rfl)) (res_tmp (by kernel_rfl)) (res_tmp (by kernel_rfl))) ?_
  replace hB := hB.later hL4
  exact ⟨rfl, hB⟩
set_option maxRecDepth 100000 in
set_option maxHeartbeats 8000000 in
theorem Replace_any (b : Nat) (l : List UInt8) (lo hi : Nat) (A : Option Addr) (c : Nat) (m : List UInt8) (w : World) (hT : Tabs w) (hr : RopeAt w b l) (h1 : lo ≤ hi) (h2 : hi ≤ l.length) (hA : BytesAt w A m) (hc : m.length ≤ c) (hm : l.length + m.length ≤ 200000000) :
    Calls Tryd.prog 37 #[.pointer (some ⟨b, 0, none⟩), .int .i64 lo, .int .i64 hi, .slice A m.length c] w (NewP (l.take lo ++ m ++ l.drop hi) w) := by
  have hB := Ltr.refl w
  have hr0 := hr
  obtain ⟨v, hb, nv⟩ := hr
  have k1 : (l.take lo).length = lo := by rw [List.length_take]; omega
  have k2 : (l.drop hi).length = l.length - hi := List.length_drop
  go_enter Tryd.func37, Tryd.ntmps37
  have h4 := hT.four
  have hlt_hb := hb.lt
  refine wp_seq_k fun KK1 hKK1 => rl_begin fun hgK hgo => tk 8 (.pointer none) <| tk 9 (.int .i64 0) ?_
  simp only [pp]
  refine rl_end hgo <| hKK1 _ _ <| wp_seq_k fun KK2 hKK2 => wp_seq_k fun KK3 hKK3 => rl_begin fun hgK hgo => tk 17 (.pointer (some ⟨b, 0, none⟩)) <| tk 18 (.int .i64 hi) ?_
  simp only [pp]
  refine rl_call (some 19) 77 #[.pointer (some ⟨b, 0, none⟩), .int .i64 hi] rfl (by kernel_rfl) (by kernel_rfl) (place_in b l hi h2 _ hr0) ?_
  rintro e w4 ⟨rfl, hL4⟩
  refine ⟨_, rfl, ?_⟩
  have hz4 := hL4.size
  try simp only [pp]
  refine tk 10 (.int .i64 0) ?_
  simp only [pp]
  refine rl_end hgo <| hKK3 _ _ <| wp_seq_k fun KK5 hKK5 => rl_begin fun hgK hgo => tk 20 (.int .i64 0) ?_
  simp only [pp]
  refine tx 21 (.bool false) (by exact nef (x := 0) (y := 0) (by omega)) ?_
  simp only [pp]
  refine rl_end hgo <| hKK5 _ _ <| wp_cond_false (by kernel_rfl) <| wp_skip <| hKK2 _ _ <| wp_seq_k fun KK6 hKK6 => wp_block <| wp_seq_k fun KK7 hKK7 => rl_begin fun hgK hgo => tk 24 (.int .i64 lo) ?_
  simp only [pp]
  refine tx 25 (.bool false) (by exact ebf (c := (lo : Int) < 0) (by omega)) <| tk 26 (.bool false) <| tk 27 (.int .i64 lo) <| tk 28 (.int .i64 hi) ?_
  simp only [pp]
  refine tx 29 (.bool false) (by exact ebf (c := (lo : Int) > hi) (by omega)) <| tk 30 (.bool false) <| tk 23 (.bool false) ?_
  simp only [pp]
  refine rl_end hgo <| hKK7 _ _ <| wp_cond_false (by kernel_rfl) <| wp_seq_k fun KK8 hKK8 => rl_begin fun hgK hgo => tk 32 (.slice A m.length c) <| tk 33 (.int .i64 m.length) <| tk 34 (.pointer (some ⟨b, 0, none⟩)) ?_
  simp only [pp]
  replace hr0 := hr0.later hL4
  refine rl_call (some 35) 45 #[.pointer (some ⟨b, 0, none⟩)] rfl (by kernel_rfl) (by kernel_rfl) (Len_any b l _ hr0) ?_
  rintro e w9 ⟨rfl, hL9⟩
  refine ⟨_, rfl, ?_⟩
  have hz9 := hL9.size
  try simp only [pp]
  refine tk 36 (.int .i64 hi) <| tk 37 (.int .i64 lo) ?_
  simp only [pp]
  refine tx 38 (.int .i64 ((hi : Int) - lo)) (by exact ex_arith (e := (hi : Int) - lo) (r := (hi : Int) - lo) (by kernel_rfl) (by omega) (by omega)) ?_
  simp only [pp]
  refine tx 39 (.int .i64 ((l.length : Int) - ((hi : Int) - lo))) (by exact ex_arith (e := (l.length : Int) - ((hi : Int) - lo)) (r := (l.length : Int) - ((hi : Int) - lo)) (by kernel_rfl) (by omega) (by omega)) ?_
  simp only [pp]
  refine tx 40 (.int .i64 ((268435456 : Int) - ((l.length : Int) - ((hi : Int) - lo)))) (by exact ex_arith (e := (268435456 : Int) - ((l.length : Int) - ((hi : Int) - lo))) (r := (268435456 : Int) - ((l.length : Int) - ((hi : Int) - lo))) (by kernel_rfl) (by omega) (by omega)) ?_
  simp only [pp]
  refine tx 41 (.bool false) (by exact ex_bool (c := (m.length : Int) > ((268435456 : Int) - ((l.length : Int) - ((hi : Int) - lo)))) (by kernel_rfl) ⟨fun q => (by cases q), fun q => absurd q (by omega)⟩) <| tk 31 (.bool false) ?_
  simp only [pp]
  refine rl_end hgo <| hKK8 _ _ <| wp_cond_false (by kernel_rfl) <| wp_skip <| hKK6 _ _ <| wp_seq_k fun KK10 hKK10 => rl_begin fun hgK hgo => tk 43 (.slice A m.length c) ?_
  simp only [pp]
  replace hT := (hT.later hL4).later hL9
  replace hA := (hA.later hL4).later hL9
  refine rl_call (some 44) 36 #[.slice A m.length c] rfl (by kernel_rfl) (by kernel_rfl) (New_any A c m _ hT hA hc (by omega)) ?_
  rintro e w11 ⟨q, rfl, hL11, ⟨vm, hq, nm⟩, hqn⟩
  refine ⟨_, rfl, ?_⟩
  have hz11 := hL11.size
  have hlt_hq := hq.lt
  try simp only [pp]
  refine tk 42 (.tuple #[.pointer (some ⟨q, 0, none⟩), .int .i64 0]) <| tk 45 (.pointer (some ⟨q, 0, none⟩)) <| tk 46 (.int .i64 0) <| tk 11 (.pointer (some ⟨q, 0, none⟩)) <| tk 12 (.int .i64 0) ?_
  simp only [pp]
  refine rl_end hgo <| hKK10 _ _ <| wp_seq_k fun KK12 hKK12 => wp_seq_k fun KK13 hKK13 => rl_begin fun hgK hgo => tk 47 (.int .i64 0) ?_
  simp only [pp]
  refine tx 48 (.bool false) (by exact nef (x := 0) (y := 0) (by omega)) ?_
  simp only [pp]
  refine rl_end hgo <| hKK13 _ _ <| wp_cond_false (by kernel_rfl) <| wp_skip <| hKK12 _ _ <| wp_seq_k fun KK14 hKK14 => rl_begin fun hgK hgo => tk 51 (.pointer (some ⟨b, 0, none⟩)) <| tk 52 (.pointer (some ⟨b, 0, none⟩)) <| tk 53 (.pointer (some ⟨b, 0, none⟩)) ?_
  simp only [pp]
  replace hb := ((hb.later hL4).later hL9).later hL11
  refine tx 54 v (by exact ld 108 b 0 (hb.cell 0)) <| tk 55 (.int .i64 lo) ?_
  simp only [pp]
  replace nv := ((nv.later hL4).later hL9).later hL11
  replace hT := hT.later hL11
  refine rl_call (some 56) 82 #[v, .int .i64 lo] rfl (by kernel_rfl) (by kernel_rfl) (split_any l lo v _ hT nv (by omega) (by omega)) ?_
  rintro e w15 ⟨va, va', rfl, hL15, na, na'⟩
  refine ⟨_, rfl, ?_⟩
  have hz15 := hL15.size
  try simp only [pp]
  refine tk 50 (.tuple #[va, va']) <| tk 57 va <| tk 58 (va') <| tk 13 va <| tk 14 (va') ?_
  simp only [pp]
  refine rl_end hgo <| hKK14 _ _ <| wp_seq_k fun KK16 hKK16 => rl_begin fun hgK hgo => tk 60 (.pointer (some ⟨b, 0, none⟩)) <| tk 61 (.pointer (some ⟨b, 0, none⟩)) <| tk 62 (.pointer (some ⟨b, 0, none⟩)) ?_
  simp only [pp]
  replace hb := hb.later hL15
  refine tx 63 v (by exact ld 108 b 0 (hb.cell 0)) <| tk 64 (.int .i64 hi) ?_
  simp only [pp]
  replace hT := hT.later hL15
  replace nv := nv.later hL15
  refine rl_call (some 65) 82 #[v, .int .i64 hi] rfl (by kernel_rfl) (by kernel_rfl) (split_any l hi v _ hT nv (by omega) (by omega)) ?_
  rintro e w17 ⟨vb', vb, rfl, hL17, nb', nb⟩
  refine ⟨_, rfl, ?_⟩
  have hz17 := hL17.size
  try simp only [pp]
  refine tk 59 (.tuple #[vb', vb]) <| tk 66 (vb') <| tk 67 vb <| tk 15 (vb') <| tk 16 vb ?_
  simp only [pp]
  refine rl_end hgo <| hKK16 _ _ <| wp_seq_k fun KK18 hKK18 => rl_begin fun hgK hgo => tk 68 va <| tk 69 (.pointer (some ⟨q, 0, none⟩)) <| tk 70 (.pointer (some ⟨q, 0, none⟩)) <| tk 71 (.pointer (some ⟨q, 0, none⟩)) ?_
  simp only [pp]
  replace hq := (hq.later hL15).later hL17
  refine tx 72 vm (by exact ld 108 q 0 (hq.cell 0)) ?_
  simp only [pp]
  replace nm := (nm.later hL15).later hL17
  replace hT := hT.later hL17
  replace na := na.later hL17
  refine rl_call (some 73) 83 #[va, vm] rfl (by kernel_rfl) (by kernel_rfl) (join_any _ _ va vm _ hT na nm (by omega)) ?_
  rintro e w19 ⟨v1, rfl, hL19, n1⟩
  refine ⟨_, rfl, ?_⟩
  have hz19 := hL19.size
  try simp only [pp]
  refine tk 74 vb ?_
  simp only [pp]
  replace hT := hT.later hL19
  replace nb := nb.later hL19
  refine rl_call (some 75) 83 #[v1, vb] rfl (by kernel_rfl) (by kernel_rfl) (join_any _ _ v1 vb _ hT n1 nb (by rw [List.length_append]; omega)) ?_
  rintro e w20 ⟨v2, rfl, hL20, n2⟩
  refine ⟨_, rfl, ?_⟩
  have hz20 := hL20.size
  try simp only [pp]
  refine tx 76 (.agg #[v2]) (by exact ex_build_node (x := Go.Operand.tmp 75) (v := v2) rfl rfl n2.form _) ?_
  simp only [pp]
  refine rl_alloc (some 77) 110 #[v2] rfl (by kernel_rfl) (fun W => by kernel_rfl) fun z w21 hL21 hp21 hz => ?_
  have hz21 := hL21.size
  have hlt21 := hz.lt
  try simp only [pp]
  refine tk 8 (.pointer (some ⟨z, 0, none⟩)) <| tk 9 (.int .i64 0) ?_
  simp only [pp]
  refine rl_end hgo <| hKK18 _ _ ?_
  refine wp_ret ?_
  try simp only [Exit.then, Exit.inBlock]
  refine bp_ret (v := .tuple #[.pointer (some ⟨z, 0, none⟩), .int .i64 0]) (res2 rfl (res_tmp (by kernel_rfl)) (res_tmp (by kernel_rfl))) ?_
  replace hB := (((((((hB.later hL4).later hL9).later hL11).later hL15).later hL17).later hL19).later hL20).later hL21
  replace n2 := n2.later hL21
  exact ⟨_, rfl, hB, ⟨_, hz, n2⟩, by omega⟩
set_option maxRecDepth 100000 in
set_option maxHeartbeats 8000000 in
theorem Replace_out (b : Nat) (l : List UInt8) (lo hi : Int) (V : Value) (w : World) (hr : RopeAt w b l) (h1 : ¬ (0 ≤ lo ∧ lo ≤ hi ∧ hi ≤ l.length)) :
    Calls Tryd.prog 37 #[.pointer (some ⟨b, 0, none⟩), .int .i64 lo, .int .i64 hi, V] w fun e w' => e = .returned (.tuple #[.pointer none, .int .i64 2]) ∧ Ltr w w' := by
  have hB := Ltr.refl w
  by_cases h2 : hi < 0 ∨ (l.length : Int) < hi
  · skip
    go_enter Tryd.func37, Tryd.ntmps37
    refine wp_seq_k fun KK1 hKK1 => rl_begin fun hgK hgo => tk 8 (.pointer none) <| tk 9 (.int .i64 0) ?_
    simp only [pp]
    refine rl_end hgo <| hKK1 _ _ <| wp_seq_k fun KK2 hKK2 => wp_seq_k fun KK3 hKK3 => rl_begin fun hgK hgo => tk 17 (.pointer (some ⟨b, 0, none⟩)) <| tk 18 (.int .i64 hi) ?_
    simp only [pp]
    refine rl_call (some 19) 77 #[.pointer (some ⟨b, 0, none⟩), .int .i64 hi] rfl (by kernel_rfl) (by kernel_rfl) (place_out b l hi h2 _ hr) ?_
    rintro e w4 ⟨rfl, hL4⟩
    refine ⟨_, rfl, ?_⟩
    have hz4 := hL4.size
    try simp only [pp]
    refine tk 10 (.int .i64 2) ?_
    simp only [pp]
    refine rl_end hgo <| hKK3 _ _ <| wp_seq_k fun KK5 hKK5 => rl_begin fun hgK hgo => tk 20 (.int .i64 2) ?_
    simp only [pp]
    refine tx 21 (.bool true) (by exact net (x := 2) (y := 0) (by omega)) ?_
    simp only [pp]
    refine rl_end hgo <| hKK5 _ _ <| wp_cond_true (by kernel_rfl) <| wp_seq_k fun KK6 hKK6 => rl_begin fun hgK hgo => tk 22 (.int .i64 2) <| tk 8 (.pointer none) <| tk 9 (.int .i64 2) ?_
    simp only [pp]
    refine rl_end hgo <| hKK6 _ _ ?_
    refine wp_ret ?_
    try simp only [Exit.then, Exit.inBlock]
    refine bp_ret (v := .tuple #[.pointer none, .int .i64 2]) (res2 rfl (res_tmp (by kernel_rfl)) (res_tmp (by kernel_rfl))) ?_
    replace hB := hB.later hL4
    exact ⟨rfl, hB⟩
  · obtain ⟨k, rfl⟩ := Int.eq_ofNat_of_zero_le (by omega : 0 ≤ hi)
    go_enter Tryd.func37, Tryd.ntmps37
    refine wp_seq_k fun KK1 hKK1 => rl_begin fun hgK hgo => tk 8 (.pointer none) <| tk 9 (.int .i64 0) ?_
    simp only [pp]
    refine rl_end hgo <| hKK1 _ _ <| wp_seq_k fun KK2 hKK2 => wp_seq_k fun KK3 hKK3 => rl_begin fun hgK hgo => tk 17 (.pointer (some ⟨b, 0, none⟩)) <| tk 18 (.int .i64 (k : Int)) ?_
    simp only [pp]
    refine rl_call (some 19) 77 #[.pointer (some ⟨b, 0, none⟩), .int .i64 (k : Int)] rfl (by kernel_rfl) (by kernel_rfl) (place_in b l k (by omega) _ hr) ?_
    rintro e w4 ⟨rfl, hL4⟩
    refine ⟨_, rfl, ?_⟩
    have hz4 := hL4.size
    try simp only [pp]
    refine tk 10 (.int .i64 0) ?_
    simp only [pp]
    refine rl_end hgo <| hKK3 _ _ <| wp_seq_k fun KK5 hKK5 => rl_begin fun hgK hgo => tk 20 (.int .i64 0) ?_
    simp only [pp]
    refine tx 21 (.bool false) (by exact nef (x := 0) (y := 0) (by omega)) ?_
    simp only [pp]
    refine rl_end hgo <| hKK5 _ _ <| wp_cond_false (by kernel_rfl) <| wp_skip <| hKK2 _ _ <| wp_seq_k fun KK6 hKK6 => wp_block <| wp_seq_k fun KK7 hKK7 => rl_begin fun hgK hgo => tk 24 (.int .i64 lo) ?_
    simp only [pp]
    replace hB := hB.later hL4
    replace hr := hr.later hL4
    by_cases h3 : lo < 0
    ·refine tx 25 (.bool true) (by exact ebt (c := (lo : Int) < 0) (by omega)) <| tk 26 (.bool true) ?_
     simp only [pp]
     refine rl_pass (some 27) rfl (by kernel_rfl) ?_
     try simp only [pp]
     refine rl_pass (some 28) rfl (by kernel_rfl) ?_
     try simp only [pp]
     refine rl_pass (some 29) rfl (by kernel_rfl) ?_
     try simp only [pp]
     refine tk 30 (.bool true) <| tk 23 (.bool true) ?_
     simp only [pp]
     refine rl_end hgo <| hKK7 _ _ <| wp_cond_true (by kernel_rfl) <| wp_seq_k fun KK8 hKK8 => rl_begin fun hgK hgo => tk 8 (.pointer none) <| tk 9 (.int .i64 2) ?_
     simp only [pp]
     refine rl_end hgo <| hKK8 _ _ ?_
     refine wp_ret ?_
     try simp only [Exit.then, Exit.inBlock]
     refine bp_ret (v := .tuple #[.pointer none, .int .i64 2]) (res2 rfl (res_tmp (by kernel_rfl)) (res_tmp (by kernel_rfl))) ?_
     exact ⟨rfl, hB⟩
    ·refine tx 25 (.bool false) (by exact ebf (c := (lo : Int) < 0) (by omega)) <| tk 26 (.bool false) <| tk 27 (.int .i64 lo) <| tk 28 (.int .i64 (k : Int)) ?_
     simp only [pp]
     refine tx 29 (.bool true) (by exact ebt (c := (lo : Int) > (k : Int)) (by omega)) <| tk 30 (.bool true) <| tk 23 (.bool true) ?_
     simp only [pp]
     refine rl_end hgo <| hKK7 _ _ <| wp_cond_true (by kernel_rfl) <| wp_seq_k fun KK9 hKK9 => rl_begin fun hgK hgo => tk 8 (.pointer none) <| tk 9 (.int .i64 2) ?_
     simp only [pp]
     refine rl_end hgo <| hKK9 _ _ ?_
     refine wp_ret ?_
     try simp only [Exit.then, Exit.inBlock]
     refine bp_ret (v := .tuple #[.pointer none, .int .i64 2]) (res2 rfl (res_tmp (by kernel_rfl)) (res_tmp (by kernel_rfl))) ?_
     exact ⟨rfl, hB⟩
end Go.Proofs.YtliphfgiaioebaaDoor
