/-
  Package rope: Len, Weld, place, Depth, Join.
-/
import Derived.Test.YtliphfgiaioebaaDoorGrown
namespace Go.Proofs.YtliphfgiaioebaaDoor
set_option linter.unusedVariables false
set_option linter.unusedSimpArgs false
open Go.RowKit

set_option maxRecDepth 100000 in
set_option maxHeartbeats 8000000 in
theorem Len_any (b : Nat) (l : List UInt8) (w : World) (hr : RopeAt w b l) :
    Calls Tryd.prog 45 #[.pointer (some ⟨b, 0, none⟩)] w fun e w' => e = .returned (.int .i64 l.length) ∧ Ltr w w' := by
  have hB := Ltr.refl w
  obtain ⟨v, hb, ⟨rfl, rfl⟩ | ⟨t, ot, rfl, ht⟩⟩ := hr
  · skip
    go_enter Tryd.func45, Tryd.ntmps45
    have hlt_hb := hb.lt
    refine wp_seq_k fun KK1 hKK1 => ?_
    refine rl_begin fun hgK hgo => ?_
    refine rl_take (some 2) (.int .i64 0) rfl (by kernel_rfl) (by kernel_rfl) ?_
    try simp only [pa, pn, pb, pc, pd]
    refine rl_nil ?_
    refine hgo.out _ _ ?_
    clear hgo hgK
    refine hKK1 _ _ ?_
    refine wp_seq_k fun KK2 hKK2 => ?_
    refine wp_seq_k fun KK3 hKK3 => ?_
    refine rl_begin fun hgK hgo => ?_
    refine rl_take (some 3) (.pointer (some ⟨b, 0, none⟩)) rfl (by kernel_rfl) (by kernel_rfl) ?_
    try simp only [pa, pn, pb, pc, pd]
    refine rl_take (some 4) (.bool false) rfl (by kernel_rfl) (by kernel_rfl) ?_
    try simp only [pa, pn, pb, pc, pd]
    refine rl_take (some 5) (.bool false) rfl (by kernel_rfl) (by kernel_rfl) ?_
    try simp only [pa, pn, pb, pc, pd]
    refine rl_take (some 6) (.pointer (some ⟨b, 0, none⟩)) rfl (by kernel_rfl) (by kernel_rfl) ?_
    try simp only [pa, pn, pb, pc, pd]
    refine rl_take (some 7) (.pointer (some ⟨b, 0, none⟩)) rfl (by kernel_rfl) (by kernel_rfl) ?_
    try simp only [pa, pn, pb, pc, pd]
    refine rl_take (some 8) (.pointer (some ⟨b, 0, none⟩)) rfl (by kernel_rfl) (by kernel_rfl) ?_
    try simp only [pa, pn, pb, pc, pd]
    refine rl_take (some 9) (.nilIface) rfl (by kernel_rfl) (by exact ld1 108 _ rfl b 0 rfl (fun _ => by kernel_rfl) _ (hb.cell 0)) ?_
    try simp only [pa, pn, pb, pc, pd]
    refine rl_take (some 10) (.bool true) rfl (by kernel_rfl) (by kernel_rfl) ?_
    try simp only [pa, pn, pb, pc, pd]
    refine rl_take (some 11) (.bool true) rfl (by kernel_rfl) (by kernel_rfl) ?_
    try simp only [pa, pn, pb, pc, pd]
    refine rl_nil ?_
    refine hgo.out _ _ ?_
    clear hgo hgK
    refine hKK3 _ _ ?_
    refine wp_cond_true (by kernel_rfl) ?_
    refine wp_seq_k fun KK4 hKK4 => ?_
    refine rl_begin fun hgK hgo => ?_
    refine rl_take (some 2) (.int .i64 0) rfl (by kernel_rfl) (by kernel_rfl) ?_
    try simp only [pa, pn, pb, pc, pd]
    refine rl_nil ?_
    refine hgo.out _ _ ?_
    clear hgo hgK
    refine hKK4 _ _ ?_
    refine wp_ret ?_
    try simp only [Exit.then, Exit.inBlock]
    refine bp_ret (v := .int .i64 0) (res1 rfl (res_tmp (by kernel_rfl))) ?_
    exact ⟨rfl, hB⟩
  · obtain ⟨f1, x1, e1, c1⟩ := inv_size ht
    obtain ⟨ty, z, rfl⟩ := ht.iface
    go_enter Tryd.func45, Tryd.ntmps45
    have hlt_hb := hb.lt
    refine wp_seq_k fun KK1 hKK1 => ?_
    refine rl_begin fun hgK hgo => ?_
    refine rl_take (some 2) (.int .i64 0) rfl (by kernel_rfl) (by kernel_rfl) ?_
    try simp only [pa, pn, pb, pc, pd]
    refine rl_nil ?_
    refine hgo.out _ _ ?_
    clear hgo hgK
    refine hKK1 _ _ ?_
    refine wp_seq_k fun KK2 hKK2 => ?_
    refine wp_seq_k fun KK3 hKK3 => ?_
    refine rl_begin fun hgK hgo => ?_
    refine rl_take (some 3) (.pointer (some ⟨b, 0, none⟩)) rfl (by kernel_rfl) (by kernel_rfl) ?_
    try simp only [pa, pn, pb, pc, pd]
    refine rl_take (some 4) (.bool false) rfl (by kernel_rfl) (by kernel_rfl) ?_
    try simp only [pa, pn, pb, pc, pd]
    refine rl_take (some 5) (.bool false) rfl (by kernel_rfl) (by kernel_rfl) ?_
    try simp only [pa, pn, pb, pc, pd]
    refine rl_take (some 6) (.pointer (some ⟨b, 0, none⟩)) rfl (by kernel_rfl) (by kernel_rfl) ?_
    try simp only [pa, pn, pb, pc, pd]
    refine rl_take (some 7) (.pointer (some ⟨b, 0, none⟩)) rfl (by kernel_rfl) (by kernel_rfl) ?_
    try simp only [pa, pn, pb, pc, pd]
    refine rl_take (some 8) (.pointer (some ⟨b, 0, none⟩)) rfl (by kernel_rfl) (by kernel_rfl) ?_
    try simp only [pa, pn, pb, pc, pd]
    refine rl_take (some 9) (.iface ty z) rfl (by kernel_rfl) (by exact ld1 108 _ rfl b 0 rfl (fun _ => by kernel_rfl) _ (hb.cell 0)) ?_
    try simp only [pa, pn, pb, pc, pd]
    refine rl_take (some 10) (.bool false) rfl (by kernel_rfl) (by kernel_rfl) ?_
    try simp only [pa, pn, pb, pc, pd]
    refine rl_take (some 11) (.bool false) rfl (by kernel_rfl) (by kernel_rfl) ?_
    try simp only [pa, pn, pb, pc, pd]
    refine rl_nil ?_
    refine hgo.out _ _ ?_
    clear hgo hgK
    refine hKK3 _ _ ?_
    refine wp_cond_false (by kernel_rfl) ?_
    refine wp_skip ?_
    refine hKK2 _ _ ?_
    refine wp_seq_k fun KK4 hKK4 => ?_
    refine rl_begin fun hgK hgo => ?_
    refine rl_take (some 12) (.pointer (some ⟨b, 0, none⟩)) rfl (by kernel_rfl) (by kernel_rfl) ?_
    try simp only [pa, pn, pb, pc, pd]
    refine rl_take (some 13) (.pointer (some ⟨b, 0, none⟩)) rfl (by kernel_rfl) (by kernel_rfl) ?_
    try simp only [pa, pn, pb, pc, pd]
    refine rl_take (some 14) (.pointer (some ⟨b, 0, none⟩)) rfl (by kernel_rfl) (by kernel_rfl) ?_
    try simp only [pa, pn, pb, pc, pd]
    refine rl_take (some 15) (.iface ty z) rfl (by kernel_rfl) (by exact ld1 108 _ rfl b 0 rfl (fun _ => by kernel_rfl) _ (hb.cell 0)) ?_
    try simp only [pa, pn, pb, pc, pd]
    refine rl_call (some 16) f1 #[x1] rfl (by kernel_rfl) (by exact e1 _ _ _ _ rfl rfl) (c1 _ hB) ?_
    rintro e w5 ⟨rfl, hL5⟩
    refine ⟨_, rfl, ?_⟩
    replace hB := hB.later hL5
    replace hb := hb.later hL5
    have hz5 := hL5.size
    try simp only [pa, pn, pb, pc, pd]
    refine rl_take (some 2) (.int .i64 t.bytes.length) rfl (by kernel_rfl) (by kernel_rfl) ?_
    try simp only [pa, pn, pb, pc, pd]
    refine rl_nil ?_
    refine hgo.out _ _ ?_
    clear hgo hgK
    refine hKK4 _ _ ?_
    refine wp_ret ?_
    try simp only [Exit.then, Exit.inBlock]
    refine bp_ret (v := .int .i64 t.bytes.length) (res1 rfl (res_tmp (by kernel_rfl))) ?_
    exact ⟨rfl, hB⟩
set_option maxRecDepth 100000 in
set_option maxHeartbeats 8000000 in
theorem RWeld_any (b : Nat) (l : List UInt8) (w : World) (hT : Tabs w) (hr : RopeAt w b l) :
    Calls Tryd.prog 41 #[.pointer (some ⟨b, 0, none⟩)] w fun e w' => e = .returned (wv l) ∧ Ltr w w' := by
  have hB := Ltr.refl w
  obtain ⟨v, hb, ⟨rfl, rfl⟩ | ⟨t, ot, rfl, ht⟩⟩ := hr
  · skip
    go_enter Tryd.func41, Tryd.ntmps41
    have h4 := hT.four
    have hlt_hb := hb.lt
    refine wp_seq_k fun KK1 hKK1 => ?_
    refine rl_begin fun hgK hgo => ?_
    refine rl_alloc (some 2) 36 #[.int .i64 0, .int .i64 0, .int .i64 0, .int .i64 0, .string ⟨#[]⟩, .string ⟨#[]⟩] rfl (by kernel_rfl) (fun W => by kernel_rfl) fun p2 w2 hL2 hp2 hb2 => ?_
    replace hT := hT.later hL2
    replace hB := hB.later hL2
    replace hb := hb.later hL2
    have hz2 := hL2.size
    have hlt2 := hb2.lt
    try simp only [pa, pn, pb, pc, pd]
    refine rl_nil ?_
    refine hgo.out _ _ ?_
    clear hgo hgK
    refine hKK1 _ _ ?_
    refine wp_seq_k fun KK3 hKK3 => ?_
    refine wp_seq_k fun KK4 hKK4 => ?_
    refine rl_begin fun hgK hgo => ?_
    refine rl_take (some 3) (.pointer (some ⟨b, 0, none⟩)) rfl (by kernel_rfl) (by kernel_rfl) ?_
    try simp only [pa, pn, pb, pc, pd]
    refine rl_take (some 4) (.bool false) rfl (by kernel_rfl) (by kernel_rfl) ?_
    try simp only [pa, pn, pb, pc, pd]
    refine rl_take (some 5) (.bool false) rfl (by kernel_rfl) (by kernel_rfl) ?_
    try simp only [pa, pn, pb, pc, pd]
    refine rl_take (some 6) (.pointer (some ⟨b, 0, none⟩)) rfl (by kernel_rfl) (by kernel_rfl) ?_
    try simp only [pa, pn, pb, pc, pd]
    refine rl_take (some 7) (.pointer (some ⟨b, 0, none⟩)) rfl (by kernel_rfl) (by kernel_rfl) ?_
    try simp only [pa, pn, pb, pc, pd]
    refine rl_take (some 8) (.pointer (some ⟨b, 0, none⟩)) rfl (by kernel_rfl) (by kernel_rfl) ?_
    try simp only [pa, pn, pb, pc, pd]
    refine rl_take (some 9) (.nilIface) rfl (by kernel_rfl) (by exact ld1 108 _ rfl b 0 rfl (fun _ => by kernel_rfl) _ (hb.cell 0)) ?_
    try simp only [pa, pn, pb, pc, pd]
    refine rl_take (some 10) (.bool true) rfl (by kernel_rfl) (by kernel_rfl) ?_
    try simp only [pa, pn, pb, pc, pd]
    refine rl_take (some 11) (.bool true) rfl (by kernel_rfl) (by kernel_rfl) ?_
    try simp only [pa, pn, pb, pc, pd]
    refine rl_nil ?_
    refine hgo.out _ _ ?_
    clear hgo hgK
    refine hKK4 _ _ ?_
    refine wp_cond_true (by kernel_rfl) ?_
    refine wp_seq_k fun KK5 hKK5 => ?_
    refine rl_begin fun hgK hgo => ?_
    refine rl_call (some 12) 60 #[.slice none 0 0] rfl (by kernel_rfl) (by kernel_rfl) (Of_wv none 0 [] _ hT (BytesAt.nil _ _) (Nat.zero_le _) (by simp)) ?_
    rintro e w6 ⟨rfl, hL6⟩
    refine ⟨_, rfl, ?_⟩
    replace hT := hT.later hL6
    replace hB := hB.later hL6
    replace hb := hb.later hL6
    replace hb2 := hb2.later hL6
    have hz6 := hL6.size
    try simp only [pa, pn, pb, pc, pd]
    refine rl_store p2 #[.int .i64 (@List.nil UInt8).length, .int .i64 (runesN (@List.nil UInt8)), .int .i64 (unitsN (@List.nil UInt8)), .int .i64 (endsN (@List.nil UInt8)), .string (bs (headOf (@List.nil UInt8))), .string (bs (tailOf (@List.nil UInt8)))] rfl rfl (by kernel_rfl) rfl rfl (by kernel_rfl) hb2 rfl (by kernel_rfl) fun w7 hU7 hn7 => ?_
    have hz7 := hU7.size
    replace hT := hT.upd hU7 (by omega)
    replace hB := hB.upd hU7 (by omega)
    replace hb := hb.upd hU7 (by omega)
    clear hb2
    have hb2 := hn7
    clear hn7
    try simp only [pa, pn, pb, pc, pd]
    refine rl_nil ?_
    refine hgo.out _ _ ?_
    clear hgo hgK
    refine hKK5 _ _ ?_
    refine wp_ret ?_
    try simp only [Exit.then, Exit.inBlock]
    refine bp_ret (v := .agg #[.int .i64 (@List.nil UInt8).length, .int .i64 (runesN (@List.nil UInt8)), .int .i64 (unitsN (@List.nil UInt8)), .int .i64 (endsN (@List.nil UInt8)), .string (bs (headOf (@List.nil UInt8))), .string (bs (tailOf (@List.nil UInt8)))]) (res1 rfl (res_cell (b := p2) (cs := [.int .i64 (@List.nil UInt8).length, .int .i64 (runesN (@List.nil UInt8)), .int .i64 (unitsN (@List.nil UInt8)), .int .i64 (endsN (@List.nil UInt8)), .string (bs (headOf (@List.nil UInt8))), .string (bs (tailOf (@List.nil UInt8)))]) (by kernel_rfl) (fun _ => by kernel_rfl) (by kernel_rfl) hb2)) ?_
    exact ⟨rfl, hB⟩
  · obtain ⟨f1, x1, e1, c1⟩ := inv_weld ht
    obtain ⟨ty, z, rfl⟩ := ht.iface
    go_enter Tryd.func41, Tryd.ntmps41
    have hlt_hb := hb.lt
    refine wp_seq_k fun KK1 hKK1 => ?_
    refine rl_begin fun hgK hgo => ?_
    refine rl_alloc (some 2) 36 #[.int .i64 0, .int .i64 0, .int .i64 0, .int .i64 0, .string ⟨#[]⟩, .string ⟨#[]⟩] rfl (by kernel_rfl) (fun W => by kernel_rfl) fun p2 w2 hL2 hp2 hb2 => ?_
    replace hB := hB.later hL2
    replace hb := hb.later hL2
    have hz2 := hL2.size
    have hlt2 := hb2.lt
    try simp only [pa, pn, pb, pc, pd]
    refine rl_nil ?_
    refine hgo.out _ _ ?_
    clear hgo hgK
    refine hKK1 _ _ ?_
    refine wp_seq_k fun KK3 hKK3 => ?_
    refine wp_seq_k fun KK4 hKK4 => ?_
    refine rl_begin fun hgK hgo => ?_
    refine rl_take (some 3) (.pointer (some ⟨b, 0, none⟩)) rfl (by kernel_rfl) (by kernel_rfl) ?_
    try simp only [pa, pn, pb, pc, pd]
    refine rl_take (some 4) (.bool false) rfl (by kernel_rfl) (by kernel_rfl) ?_
    try simp only [pa, pn, pb, pc, pd]
    refine rl_take (some 5) (.bool false) rfl (by kernel_rfl) (by kernel_rfl) ?_
    try simp only [pa, pn, pb, pc, pd]
    refine rl_take (some 6) (.pointer (some ⟨b, 0, none⟩)) rfl (by kernel_rfl) (by kernel_rfl) ?_
    try simp only [pa, pn, pb, pc, pd]
    refine rl_take (some 7) (.pointer (some ⟨b, 0, none⟩)) rfl (by kernel_rfl) (by kernel_rfl) ?_
    try simp only [pa, pn, pb, pc, pd]
    refine rl_take (some 8) (.pointer (some ⟨b, 0, none⟩)) rfl (by kernel_rfl) (by kernel_rfl) ?_
    try simp only [pa, pn, pb, pc, pd]
    refine rl_take (some 9) (.iface ty z) rfl (by kernel_rfl) (by exact ld1 108 _ rfl b 0 rfl (fun _ => by kernel_rfl) _ (hb.cell 0)) ?_
    try simp only [pa, pn, pb, pc, pd]
    refine rl_take (some 10) (.bool false) rfl (by kernel_rfl) (by kernel_rfl) ?_
    try simp only [pa, pn, pb, pc, pd]
    refine rl_take (some 11) (.bool false) rfl (by kernel_rfl) (by kernel_rfl) ?_
    try simp only [pa, pn, pb, pc, pd]
    refine rl_nil ?_
    refine hgo.out _ _ ?_
    clear hgo hgK
    refine hKK4 _ _ ?_
    refine wp_cond_false (by kernel_rfl) ?_
    refine wp_skip ?_
    refine hKK3 _ _ ?_
    refine wp_seq_k fun KK5 hKK5 => ?_
    refine rl_begin fun hgK hgo => ?_
    refine rl_take (some 13) (.pointer (some ⟨b, 0, none⟩)) rfl (by kernel_rfl) (by kernel_rfl) ?_
    try simp only [pa, pn, pb, pc, pd]
    refine rl_take (some 14) (.pointer (some ⟨b, 0, none⟩)) rfl (by kernel_rfl) (by kernel_rfl) ?_
    try simp only [pa, pn, pb, pc, pd]
    refine rl_take (some 15) (.pointer (some ⟨b, 0, none⟩)) rfl (by kernel_rfl) (by kernel_rfl) ?_
    try simp only [pa, pn, pb, pc, pd]
    refine rl_take (some 16) (.iface ty z) rfl (by kernel_rfl) (by exact ld1 108 _ rfl b 0 rfl (fun _ => by kernel_rfl) _ (hb.cell 0)) ?_
    try simp only [pa, pn, pb, pc, pd]
    refine rl_call (some 17) f1 #[x1] rfl (by kernel_rfl) (by exact e1 _ _ _ _ rfl rfl) (c1 _ hB) ?_
    rintro e w6 ⟨rfl, hL6⟩
    refine ⟨_, rfl, ?_⟩
    replace hB := hB.later hL6
    replace hb := hb.later hL6
    replace hb2 := hb2.later hL6
    have hz6 := hL6.size
    try simp only [pa, pn, pb, pc, pd]
    refine rl_store p2 #[.int .i64 (t.bytes).length, .int .i64 (runesN (t.bytes)), .int .i64 (unitsN (t.bytes)), .int .i64 (endsN (t.bytes)), .string (bs (headOf (t.bytes))), .string (bs (tailOf (t.bytes)))] rfl rfl (by kernel_rfl) rfl rfl (by kernel_rfl) hb2 rfl (by kernel_rfl) fun w7 hU7 hn7 => ?_
    have hz7 := hU7.size
    replace hB := hB.upd hU7 (by omega)
    replace hb := hb.upd hU7 (by omega)
    clear hb2
    have hb2 := hn7
    clear hn7
    try simp only [pa, pn, pb, pc, pd]
    refine rl_nil ?_
    refine hgo.out _ _ ?_
    clear hgo hgK
    refine hKK5 _ _ ?_
    refine wp_ret ?_
    try simp only [Exit.then, Exit.inBlock]
    refine bp_ret (v := .agg #[.int .i64 (t.bytes).length, .int .i64 (runesN (t.bytes)), .int .i64 (unitsN (t.bytes)), .int .i64 (endsN (t.bytes)), .string (bs (headOf (t.bytes))), .string (bs (tailOf (t.bytes)))]) (res1 rfl (res_cell (b := p2) (cs := [.int .i64 (t.bytes).length, .int .i64 (runesN (t.bytes)), .int .i64 (unitsN (t.bytes)), .int .i64 (endsN (t.bytes)), .string (bs (headOf (t.bytes))), .string (bs (tailOf (t.bytes)))]) (by kernel_rfl) (fun _ => by kernel_rfl) (by kernel_rfl) hb2)) ?_
    exact ⟨rfl, hB⟩
def placeE (n : Int) (l : List UInt8) : Int := if 0 ≤ n ∧ n ≤ (l.length : Int) then 0 else 2
set_option maxRecDepth 100000 in
set_option maxHeartbeats 8000000 in
theorem place_any (b : Nat) (l : List UInt8) (n : Int) (w : World) (hr : RopeAt w b l) :
    Calls Tryd.prog 77 #[.pointer (some ⟨b, 0, none⟩), .int .i64 n] w fun e w' => e = .returned (.int .i64 (placeE n l)) ∧ Ltr w w' := by
  have hB := Ltr.refl w
  go_enter Tryd.func77, Tryd.ntmps77
  refine wp_seq_k fun KK1 hKK1 => ?_
  refine rl_begin fun hgK hgo => ?_
  refine rl_take (some 4) (.int .i64 0) rfl (by kernel_rfl) (by kernel_rfl) ?_
  try simp only [pa, pn, pb, pc, pd]
  refine rl_nil ?_
  refine hgo.out _ _ ?_
  clear hgo hgK
  refine hKK1 _ _ ?_
  refine wp_seq_k fun KK2 hKK2 => ?_
  refine wp_block ?_
  refine wp_seq_k fun KK3 hKK3 => ?_
  refine rl_begin fun hgK hgo => ?_
  refine rl_take (some 6) (.pointer (some ⟨b, 0, none⟩)) rfl (by kernel_rfl) (by kernel_rfl) ?_
  try simp only [pa, pn, pb, pc, pd]
  refine rl_take (some 7) (.bool false) rfl (by kernel_rfl) (by kernel_rfl) ?_
  try simp only [pa, pn, pb, pc, pd]
  refine rl_take (some 5) (.bool false) rfl (by kernel_rfl) (by kernel_rfl) ?_
  try simp only [pa, pn, pb, pc, pd]
  refine rl_nil ?_
  refine hgo.out _ _ ?_
  clear hgo hgK
  refine hKK3 _ _ ?_
  refine wp_cond_false (by kernel_rfl) ?_
  refine wp_seq_k fun KK4 hKK4 => ?_
  refine rl_begin fun hgK hgo => ?_
  refine rl_take (some 9) (.int .i64 n) rfl (by kernel_rfl) (by kernel_rfl) ?_
  try simp only [pa, pn, pb, pc, pd]
  by_cases h1 : n < 0
  · refine rl_take (some 10) (.bool true) rfl (by kernel_rfl) (by exact ex_bool (c := (n : Int) < 0) (by kernel_rfl) ⟨fun _ => by omega, fun _ => rfl⟩) ?_
    try simp only [pa, pn, pb, pc, pd]
    refine rl_take (some 11) (.bool true) rfl (by kernel_rfl) (by kernel_rfl) ?_
    try simp only [pa, pn, pb, pc, pd]
    refine rl_pass (some 12) rfl (by kernel_rfl) ?_
    try simp only [pa, pn, pb, pc, pd]
    refine rl_pass (some 13) rfl (by kernel_rfl) ?_
    try simp only [pa, pn, pb, pc, pd]
    refine rl_pass (some 14) rfl (by kernel_rfl) ?_
    try simp only [pa, pn, pb, pc, pd]
    refine rl_pass (some 15) rfl (by kernel_rfl) ?_
    try simp only [pa, pn, pb, pc, pd]
    refine rl_take (some 16) (.bool true) rfl (by kernel_rfl) (by kernel_rfl) ?_
    try simp only [pa, pn, pb, pc, pd]
    refine rl_take (some 8) (.bool true) rfl (by kernel_rfl) (by kernel_rfl) ?_
    try simp only [pa, pn, pb, pc, pd]
    refine rl_nil ?_
    refine hgo.out _ _ ?_
    clear hgo hgK
    refine hKK4 _ _ ?_
    refine wp_cond_true (by kernel_rfl) ?_
    refine wp_seq_k fun KK5 hKK5 => ?_
    refine rl_begin fun hgK hgo => ?_
    refine rl_take (some 4) (.int .i64 2) rfl (by kernel_rfl) (by kernel_rfl) ?_
    try simp only [pa, pn, pb, pc, pd]
    refine rl_nil ?_
    refine hgo.out _ _ ?_
    clear hgo hgK
    refine hKK5 _ _ ?_
    refine wp_ret ?_
    try simp only [Exit.then, Exit.inBlock]
    refine bp_ret (v := .int .i64 2) (res1 rfl (res_tmp (by kernel_rfl))) ?_
    exact ⟨ret_int (by unfold placeE; rw [if_neg (by omega)]), hB⟩
  · refine rl_take (some 10) (.bool false) rfl (by kernel_rfl) (by exact ex_bool (c := (n : Int) < 0) (by kernel_rfl) ⟨fun q => (by cases q), fun q => absurd q (by omega)⟩) ?_
    try simp only [pa, pn, pb, pc, pd]
    refine rl_take (some 11) (.bool false) rfl (by kernel_rfl) (by kernel_rfl) ?_
    try simp only [pa, pn, pb, pc, pd]
    refine rl_take (some 12) (.int .i64 n) rfl (by kernel_rfl) (by kernel_rfl) ?_
    try simp only [pa, pn, pb, pc, pd]
    refine rl_take (some 13) (.pointer (some ⟨b, 0, none⟩)) rfl (by kernel_rfl) (by kernel_rfl) ?_
    try simp only [pa, pn, pb, pc, pd]
    refine rl_call (some 14) 45 #[.pointer (some ⟨b, 0, none⟩)] rfl (by kernel_rfl) (by kernel_rfl) (Len_any b l _ hr) ?_
    rintro e w6 ⟨rfl, hL6⟩
    refine ⟨_, rfl, ?_⟩
    replace hB := hB.later hL6
    replace hr := hr.later hL6
    have hz6 := hL6.size
    try simp only [pa, pn, pb, pc, pd]
    by_cases h2 : n > (l.length : Int)
    · refine rl_take (some 15) (.bool true) rfl (by kernel_rfl) (by exact ex_bool (c := (n : Int) > l.length) (by kernel_rfl) ⟨fun _ => by omega, fun _ => rfl⟩) ?_
      try simp only [pa, pn, pb, pc, pd]
      refine rl_take (some 16) (.bool true) rfl (by kernel_rfl) (by kernel_rfl) ?_
      try simp only [pa, pn, pb, pc, pd]
      refine rl_take (some 8) (.bool true) rfl (by kernel_rfl) (by kernel_rfl) ?_
      try simp only [pa, pn, pb, pc, pd]
      refine rl_nil ?_
      refine hgo.out _ _ ?_
      clear hgo hgK
      refine hKK4 _ _ ?_
      refine wp_cond_true (by kernel_rfl) ?_
      refine wp_seq_k fun KK7 hKK7 => ?_
      refine rl_begin fun hgK hgo => ?_
      refine rl_take (some 4) (.int .i64 2) rfl (by kernel_rfl) (by kernel_rfl) ?_
      try simp only [pa, pn, pb, pc, pd]
      refine rl_nil ?_
      refine hgo.out _ _ ?_
      clear hgo hgK
      refine hKK7 _ _ ?_
      refine wp_ret ?_
      try simp only [Exit.then, Exit.inBlock]
      refine bp_ret (v := .int .i64 2) (res1 rfl (res_tmp (by kernel_rfl))) ?_
      exact ⟨ret_int (by unfold placeE; rw [if_neg (by omega)]), hB⟩
    · refine rl_take (some 15) (.bool false) rfl (by kernel_rfl) (by exact ex_bool (c := (n : Int) > l.length) (by kernel_rfl) ⟨fun q => (by cases q), fun q => absurd q (by omega)⟩) ?_
      try simp only [pa, pn, pb, pc, pd]
      refine rl_take (some 16) (.bool false) rfl (by kernel_rfl) (by kernel_rfl) ?_
      try simp only [pa, pn, pb, pc, pd]
      refine rl_take (some 8) (.bool false) rfl (by kernel_rfl) (by kernel_rfl) ?_
      try simp only [pa, pn, pb, pc, pd]
      refine rl_nil ?_
      refine hgo.out _ _ ?_
      clear hgo hgK
      refine hKK4 _ _ ?_
      refine wp_cond_false (by kernel_rfl) ?_
      refine wp_skip ?_
      refine hKK2 _ _ ?_
      refine wp_seq_k fun KK8 hKK8 => ?_
      refine rl_begin fun hgK hgo => ?_
      refine rl_take (some 4) (.int .i64 0) rfl (by kernel_rfl) (by kernel_rfl) ?_
      try simp only [pa, pn, pb, pc, pd]
      refine rl_nil ?_
      refine hgo.out _ _ ?_
      clear hgo hgK
      refine hKK8 _ _ ?_
      refine wp_ret ?_
      try simp only [Exit.then, Exit.inBlock]
      refine bp_ret (v := .int .i64 0) (res1 rfl (res_tmp (by kernel_rfl))) ?_
      exact ⟨ret_int (by unfold placeE; rw [if_pos (by omega)]), hB⟩
theorem place_in (b : Nat) (l : List UInt8) (n : Nat) (hn : n ≤ l.length) (w : World) (hr : RopeAt w b l) :
    Calls Tryd.prog 77 #[.pointer (some ⟨b, 0, none⟩), .int .i64 n] w fun e w' => e = .returned (.int .i64 0) ∧ Ltr w w' := by
  have := place_any b l n w hr
  unfold placeE at this
  rwa [if_pos (by omega)] at this
theorem place_out (b : Nat) (l : List UInt8) (n : Int) (hn : n < 0 ∨ (l.length : Int) < n) (w : World) (hr : RopeAt w b l) :
    Calls Tryd.prog 77 #[.pointer (some ⟨b, 0, none⟩), .int .i64 n] w fun e w' => e = .returned (.int .i64 2) ∧ Ltr w w' := by
  have := place_any b l n w hr
  unfold placeE at this
  rwa [if_neg (by omega)] at this
theorem Node.nil_or {w : World} {l : List UInt8} {v : Value} (h : Node w l v) : (l = [] ∧ v = .nilIface) ∨ (0 < l.length ∧ ∃ t : Tr, t.ok ∧ t.bytes = l ∧ Tree w t v) := h.imp id fun ⟨t, h1, h2, h3⟩ => ⟨by rw [← h2]; exact t.len_pos h1, t, h1, h2, h3⟩
/-- how deep a rope of these bytes may be -/
def DepthP (b : Nat) (l : List UInt8) (w : World) (e : Ending) (w' : World) : Prop := ∃ d : Nat, e = .returned (.int .i64 d) ∧ Ltr w w' ∧ (l = [] → d = 0) ∧ (0 < l.length → ∃ t : Tr, t.ok ∧ t.bytes = l ∧ t.h = d)
set_option maxRecDepth 100000 in
set_option maxHeartbeats 8000000 in
theorem Depth_any (b : Nat) (l : List UInt8) (w : World) (hr : RopeAt w b l) :
    Calls Tryd.prog 34 #[.pointer (some ⟨b, 0, none⟩)] w (DepthP b l w) := by
  have hB := Ltr.refl w
  have hr0 := hr
  obtain ⟨v, hb, hn⟩ := hr
  rcases hn.nil_or with ⟨rfl, rfl⟩ | ⟨h0, t, ot, rfl, ht⟩
  · clear hn hb
    go_enter Tryd.func34, Tryd.ntmps34
    refine wp_seq_k fun KK1 hKK1 => ?_
    refine rl_begin fun hgK hgo => ?_
    refine rl_take (some 2) (.int .i64 0) rfl (by kernel_rfl) (by kernel_rfl) ?_
    try simp only [pa, pn, pb, pc, pd]
    refine rl_nil ?_
    refine hgo.out _ _ ?_
    clear hgo hgK
    refine hKK1 _ _ ?_
    refine wp_seq_k fun KK2 hKK2 => ?_
    refine wp_seq_k fun KK3 hKK3 => ?_
    refine rl_begin fun hgK hgo => ?_
    refine rl_take (some 3) (.pointer (some ⟨b, 0, none⟩)) rfl (by kernel_rfl) (by kernel_rfl) ?_
    try simp only [pa, pn, pb, pc, pd]
    refine rl_call (some 4) 45 #[.pointer (some ⟨b, 0, none⟩)] rfl (by kernel_rfl) (by kernel_rfl) (Len_any b [] _ hr0) ?_
    rintro e w4 ⟨rfl, hL4⟩
    refine ⟨_, rfl, ?_⟩
    replace hB := hB.later hL4
    replace hr0 := hr0.later hL4
    have hz4 := hL4.size
    try simp only [pa, pn, pb, pc, pd]
    refine rl_take (some 5) (.bool true) rfl (by kernel_rfl) (by exact ex_beq (x := (@List.nil UInt8).length) (y := 0) (by kernel_rfl) ⟨fun _ => by rfl, fun _ => rfl⟩) ?_
    try simp only [pa, pn, pb, pc, pd]
    refine rl_nil ?_
    refine hgo.out _ _ ?_
    clear hgo hgK
    refine hKK3 _ _ ?_
    refine wp_cond_true (by kernel_rfl) ?_
    refine wp_seq_k fun KK5 hKK5 => ?_
    refine rl_begin fun hgK hgo => ?_
    refine rl_take (some 2) (.int .i64 0) rfl (by kernel_rfl) (by kernel_rfl) ?_
    try simp only [pa, pn, pb, pc, pd]
    refine rl_nil ?_
    refine hgo.out _ _ ?_
    clear hgo hgK
    refine hKK5 _ _ ?_
    refine wp_ret ?_
    try simp only [Exit.then, Exit.inBlock]
    refine bp_ret (v := .int .i64 0) (res1 rfl (res_tmp (by kernel_rfl))) ?_
    exact ⟨0, rfl, hB, fun _ => rfl, fun h => absurd h (by simp)⟩
  · obtain ⟨f1, x1, e1, c1⟩ := inv_height ht
    obtain ⟨ty, z, rfl⟩ := ht.iface
    clear hn
    go_enter Tryd.func34, Tryd.ntmps34
    have hlt_hb := hb.lt
    refine wp_seq_k fun KK1 hKK1 => ?_
    refine rl_begin fun hgK hgo => ?_
    refine rl_take (some 2) (.int .i64 0) rfl (by kernel_rfl) (by kernel_rfl) ?_
    try simp only [pa, pn, pb, pc, pd]
    refine rl_nil ?_
    refine hgo.out _ _ ?_
    clear hgo hgK
    refine hKK1 _ _ ?_
    refine wp_seq_k fun KK2 hKK2 => ?_
    refine wp_seq_k fun KK3 hKK3 => ?_
    refine rl_begin fun hgK hgo => ?_
    refine rl_take (some 3) (.pointer (some ⟨b, 0, none⟩)) rfl (by kernel_rfl) (by kernel_rfl) ?_
    try simp only [pa, pn, pb, pc, pd]
    refine rl_call (some 4) 45 #[.pointer (some ⟨b, 0, none⟩)] rfl (by kernel_rfl) (by kernel_rfl) (Len_any b t.bytes _ hr0) ?_
    rintro e w4 ⟨rfl, hL4⟩
    refine ⟨_, rfl, ?_⟩
    replace hB := hB.later hL4
    replace hr0 := hr0.later hL4
    replace hb := hb.later hL4
    have hz4 := hL4.size
    try simp only [pa, pn, pb, pc, pd]
    refine rl_take (some 5) (.bool false) rfl (by kernel_rfl) (by exact ex_beq (x := t.bytes.length) (y := 0) (by kernel_rfl) ⟨fun q => (by cases q), fun q => absurd q (by omega)⟩) ?_
    try simp only [pa, pn, pb, pc, pd]
    refine rl_nil ?_
    refine hgo.out _ _ ?_
    clear hgo hgK
    refine hKK3 _ _ ?_
    refine wp_cond_false (by kernel_rfl) ?_
    refine wp_skip ?_
    refine hKK2 _ _ ?_
    refine wp_seq_k fun KK5 hKK5 => ?_
    refine rl_begin fun hgK hgo => ?_
    refine rl_take (some 6) (.pointer (some ⟨b, 0, none⟩)) rfl (by kernel_rfl) (by kernel_rfl) ?_
    try simp only [pa, pn, pb, pc, pd]
    refine rl_take (some 7) (.pointer (some ⟨b, 0, none⟩)) rfl (by kernel_rfl) (by kernel_rfl) ?_
    try simp only [pa, pn, pb, pc, pd]
    refine rl_take (some 8) (.pointer (some ⟨b, 0, none⟩)) rfl (by kernel_rfl) (by kernel_rfl) ?_
    try simp only [pa, pn, pb, pc, pd]
    refine rl_take (some 9) (.iface ty z) rfl (by kernel_rfl) (by exact ld1 108 _ rfl b 0 rfl (fun _ => by kernel_rfl) _ (hb.cell 0)) ?_
    try simp only [pa, pn, pb, pc, pd]
    refine rl_call (some 10) f1 #[x1] rfl (by kernel_rfl) (by exact e1 _ _ _ _ rfl rfl) (c1 _ hB) ?_
    rintro e w6 ⟨rfl, hL6⟩
    refine ⟨_, rfl, ?_⟩
    replace hB := hB.later hL6
    replace hr0 := hr0.later hL6
    replace hb := hb.later hL6
    have hz6 := hL6.size
    try simp only [pa, pn, pb, pc, pd]
    refine rl_take (some 2) (.int .i64 t.h) rfl (by kernel_rfl) (by kernel_rfl) ?_
    try simp only [pa, pn, pb, pc, pd]
    refine rl_nil ?_
    refine hgo.out _ _ ?_
    clear hgo hgK
    refine hKK5 _ _ ?_
    refine wp_ret ?_
    try simp only [Exit.then, Exit.inBlock]
    refine bp_ret (v := .int .i64 t.h) (res1 rfl (res_tmp (by kernel_rfl))) ?_
    exact ⟨t.h, rfl, hB, fun h => absurd (congrArg List.length h) (by have : ([] : List UInt8).length = 0 := rfl; omega), fun _ => ⟨t, ot, rfl, rfl⟩⟩
set_option maxRecDepth 100000 in
set_option maxHeartbeats 8000000 in
theorem RJoin_any (a b : Nat) (l m : List UInt8) (w : World) (hT : Tabs w) (ha : RopeAt w a l) (hb : RopeAt w b m) (hm : l.length + m.length ≤ 200000000) :
    Calls Tryd.prog 42 #[.pointer (some ⟨a, 0, none⟩), .pointer (some ⟨b, 0, none⟩)] w (NewP (l ++ m) w) := by
  have hB := Ltr.refl w
  have ha0 := ha
  have hb0 := hb
  obtain ⟨va, ka, na⟩ := ha
  obtain ⟨vb, kb, nb⟩ := hb
  go_enter Tryd.func42, Tryd.ntmps42
  have h4 := hT.four
  have hlt_ka := ka.lt
  have hlt_kb := kb.lt
  refine wp_seq_k fun KK1 hKK1 => ?_
  refine rl_begin fun hgK hgo => ?_
  refine rl_take (some 4) (.pointer none) rfl (by kernel_rfl) (by kernel_rfl) ?_
  try simp only [pa, pn, pb, pc, pd]
  refine rl_take (some 5) (.int .i64 0) rfl (by kernel_rfl) (by kernel_rfl) ?_
  try simp only [pa, pn, pb, pc, pd]
  refine rl_nil ?_
  refine hgo.out _ _ ?_
  clear hgo hgK
  refine hKK1 _ _ ?_
  refine wp_seq_k fun KK2 hKK2 => ?_
  refine wp_block ?_
  refine wp_seq_k fun KK3 hKK3 => ?_
  refine rl_begin fun hgK hgo => ?_
  refine rl_take (some 7) (.pointer (some ⟨a, 0, none⟩)) rfl (by kernel_rfl) (by kernel_rfl) ?_
  try simp only [pa, pn, pb, pc, pd]
  refine rl_take (some 8) (.bool false) rfl (by kernel_rfl) (by kernel_rfl) ?_
  try simp only [pa, pn, pb, pc, pd]
  refine rl_take (some 9) (.bool false) rfl (by kernel_rfl) (by kernel_rfl) ?_
  try simp only [pa, pn, pb, pc, pd]
  refine rl_take (some 10) (.pointer (some ⟨b, 0, none⟩)) rfl (by kernel_rfl) (by kernel_rfl) ?_
  try simp only [pa, pn, pb, pc, pd]
  refine rl_take (some 11) (.bool false) rfl (by kernel_rfl) (by kernel_rfl) ?_
  try simp only [pa, pn, pb, pc, pd]
  refine rl_take (some 12) (.bool false) rfl (by kernel_rfl) (by kernel_rfl) ?_
  try simp only [pa, pn, pb, pc, pd]
  refine rl_take (some 6) (.bool false) rfl (by kernel_rfl) (by kernel_rfl) ?_
  try simp only [pa, pn, pb, pc, pd]
  refine rl_nil ?_
  refine hgo.out _ _ ?_
  clear hgo hgK
  refine hKK3 _ _ ?_
  refine wp_cond_false (by kernel_rfl) ?_
  refine wp_seq_k fun KK4 hKK4 => ?_
  refine rl_begin fun hgK hgo => ?_
  refine rl_take (some 14) (.pointer (some ⟨a, 0, none⟩)) rfl (by kernel_rfl) (by kernel_rfl) ?_
  try simp only [pa, pn, pb, pc, pd]
  refine rl_call (some 15) 45 #[.pointer (some ⟨a, 0, none⟩)] rfl (by kernel_rfl) (by kernel_rfl) (Len_any a l _ ha0) ?_
  rintro e w5 ⟨rfl, hL5⟩
  refine ⟨_, rfl, ?_⟩
  replace hT := hT.later hL5
  replace hB := hB.later hL5
  replace ha0 := ha0.later hL5
  replace hb0 := hb0.later hL5
  replace na := na.later hL5
  replace nb := nb.later hL5
  replace ka := ka.later hL5
  replace kb := kb.later hL5
  have hz5 := hL5.size
  try simp only [pa, pn, pb, pc, pd]
  refine rl_take (some 16) (.pointer (some ⟨b, 0, none⟩)) rfl (by kernel_rfl) (by kernel_rfl) ?_
  try simp only [pa, pn, pb, pc, pd]
  refine rl_call (some 17) 45 #[.pointer (some ⟨b, 0, none⟩)] rfl (by kernel_rfl) (by kernel_rfl) (Len_any b m _ hb0) ?_
  rintro e w6 ⟨rfl, hL6⟩
  refine ⟨_, rfl, ?_⟩
  replace hT := hT.later hL6
  replace hB := hB.later hL6
  replace ha0 := ha0.later hL6
  replace hb0 := hb0.later hL6
  replace na := na.later hL6
  replace nb := nb.later hL6
  replace ka := ka.later hL6
  replace kb := kb.later hL6
  have hz6 := hL6.size
  try simp only [pa, pn, pb, pc, pd]
  refine rl_take (some 18) (.int .i64 ((l.length : Int) + m.length)) rfl (by kernel_rfl) (by exact ex_arith (e := (l.length : Int) + m.length) (r := (l.length : Int) + m.length) (by kernel_rfl) (by omega) (by omega)) ?_
  try simp only [pa, pn, pb, pc, pd]
  refine rl_take (some 19) (.bool false) rfl (by kernel_rfl) (by exact ex_bool (c := (((l.length : Int) + m.length) : Int) > 268435456) (by kernel_rfl) ⟨fun q => (by cases q), fun q => absurd q (by omega)⟩) ?_
  try simp only [pa, pn, pb, pc, pd]
  refine rl_take (some 13) (.bool false) rfl (by kernel_rfl) (by kernel_rfl) ?_
  try simp only [pa, pn, pb, pc, pd]
  refine rl_nil ?_
  refine hgo.out _ _ ?_
  clear hgo hgK
  refine hKK4 _ _ ?_
  refine wp_cond_false (by kernel_rfl) ?_
  refine wp_skip ?_
  refine hKK2 _ _ ?_
  refine wp_seq_k fun KK7 hKK7 => ?_
  refine rm_begin (fun W => Ltr w6 W) (by kernel_rfl) (by exact bl_drew (bl_refl _)) fun K8 hgo w8 hE hS8 => ?_
  have hv8 : Ltr w6 w8 := by rw [hE]; exact bl_drew (bl_refl _)
  have hz8 := hv8.size
  clear hE hS8
  refine rm_take 0 (some 20) (.pointer (some ⟨a, 0, none⟩)) (oi := { dst := some 20, op := Go.Op.move (Go.Operand.tmp 0), type := 31, pos := "rope.go:132", after := #[], guard := none }) rfl rfl (by kernel_rfl) (by kernel_rfl) (by kernel_rfl) (by kernel_rfl) (fun W hW => by (kernel_rfl)) ?_
  try simp only [pa, pn, pb, pc, pd]
  refine rm_take 1 (some 21) (.pointer (some ⟨a, 0, none⟩)) (oi := { dst := some 21, op := Go.Op.nilCheck (Go.Operand.tmp 20), type := 0, pos := "rope.go:132", after := #[{ on := 0, ground := Go.Ground.data }], guard := none }) rfl rfl (by kernel_rfl) (by kernel_rfl) (by kernel_rfl) (by kernel_rfl) (fun W hW => by (kernel_rfl)) ?_
  try simp only [pa, pn, pb, pc, pd]
  refine rm_take 2 (some 22) (.pointer (some ⟨a, 0, none⟩)) (oi := { dst := some 22, op := Go.Op.fieldAddr 110 (Go.Operand.tmp 21) 0, type := 0, pos := "rope.go:132", after := #[{ on := 1, ground := Go.Ground.data }], guard := none }) rfl rfl (by kernel_rfl) (by kernel_rfl) (by kernel_rfl) (by kernel_rfl) (fun W hW => by (kernel_rfl)) ?_
  try simp only [pa, pn, pb, pc, pd]
  refine rm_take 3 (some 23) (va) (oi := { dst := some 23, op := Go.Op.load 108 (Go.Operand.tmp 22), type := 108, pos := "rope.go:132", after := #[{ on := 2, ground := Go.Ground.data }], guard := none }) rfl rfl (by kernel_rfl) (by kernel_rfl) (by kernel_rfl) (by kernel_rfl) (fun W hW => by (exact ld1 108 _ rfl a 0 rfl (fun _ => by kernel_rfl) _ ((ka.later hW).cell 0))) ?_
  try simp only [pa, pn, pb, pc, pd]
  refine rm_take 4 (some 24) (.pointer (some ⟨b, 0, none⟩)) (oi := { dst := some 24, op := Go.Op.move (Go.Operand.tmp 1), type := 31, pos := "rope.go:132", after := #[], guard := none }) rfl rfl (by kernel_rfl) (by kernel_rfl) (by kernel_rfl) (by kernel_rfl) (fun W hW => by (kernel_rfl)) ?_
  try simp only [pa, pn, pb, pc, pd]
  refine rm_take 5 (some 25) (.pointer (some ⟨b, 0, none⟩)) (oi := { dst := some 25, op := Go.Op.nilCheck (Go.Operand.tmp 24), type := 0, pos := "rope.go:132", after := #[{ on := 4, ground := Go.Ground.data }], guard := none }) rfl rfl (by kernel_rfl) (by kernel_rfl) (by kernel_rfl) (by kernel_rfl) (fun W hW => by (kernel_rfl)) ?_
  try simp only [pa, pn, pb, pc, pd]
  refine rm_take 6 (some 26) (.pointer (some ⟨b, 0, none⟩)) (oi := { dst := some 26, op := Go.Op.fieldAddr 110 (Go.Operand.tmp 25) 0, type := 0, pos := "rope.go:132", after := #[{ on := 5, ground := Go.Ground.data }], guard := none }) rfl rfl (by kernel_rfl) (by kernel_rfl) (by kernel_rfl) (by kernel_rfl) (fun W hW => by (kernel_rfl)) ?_
  try simp only [pa, pn, pb, pc, pd]
  refine rm_take 7 (some 27) (vb) (oi := { dst := some 27, op := Go.Op.load 108 (Go.Operand.tmp 26), type := 108, pos := "rope.go:132", after := #[{ on := 6, ground := Go.Ground.data }], guard := none }) rfl rfl (by kernel_rfl) (by kernel_rfl) (by kernel_rfl) (by kernel_rfl) (fun W hW => by (exact ld1 108 _ rfl b 0 rfl (fun _ => by kernel_rfl) _ ((kb.later hW).cell 0))) ?_
  try simp only [pa, pn, pb, pc, pd]
  refine rm_pick1 (i := 8) (by kernel_rfl) ?_
  refine rm_callx (some 28) 83 #[va, vb] (oi := { dst := some 28, op := Go.Op.call { callee := Go.Callee.value (Go.Operand.func 83), args := #[Go.Operand.tmp 23, Go.Operand.tmp 27], argTypes := #[108, 108] }, type := 108, pos := "rope.go:132", after := #[{ on := 3, ground := Go.Ground.data }, { on := 7, ground := Go.Ground.data }], guard := none }) rfl rfl (by kernel_rfl) (fun W hW => by kernel_rfl) (fun W hlz hW => join_any l m va vb _ (hT.later (show Ltr w6 W from hW)) (na.later (show Ltr w6 W from hW)) (nb.later (show Ltr w6 W from hW)) hm) (by rintro W e w' ⟨v, rfl, hL9, hv⟩; exact hL9) (fun _ _ h k => Ltr.trans h k) ?_
  rintro q9 e w9 hq9 hQ9 ⟨v, rfl, hL9, hv⟩ hS9
  refine ⟨_, rfl, ?_⟩
  have hz9 := hL9.size
  have hy9 := hq9.size
  try simp only [pa, pn, pb, pc, pd]
  refine rm_take 9 (some 29) (.agg #[v]) (oi := { dst := some 29, op := Go.Op.build 110 #[(0, Go.Operand.tmp 28)], type := 110, pos := "rope.go:132", after := #[{ on := 8, ground := Go.Ground.data }], guard := none }) rfl rfl (by kernel_rfl) (by kernel_rfl) (by kernel_rfl) (by kernel_rfl) (fun W hW => by (exact ex_build_node (x := Go.Operand.tmp 28) (v := v) rfl rfl hv.form _)) ?_
  try simp only [pa, pn, pb, pc, pd]
  refine rm_pick1 (i := 10) (by kernel_rfl) ?_
  refine rm_alloc (some 30) 110 #[v] (oi := { dst := some 30, op := Go.Op.box 110 (Go.Operand.tmp 29), type := 31, pos := "rope.go:132", after := #[{ on := 9, ground := Go.Ground.data }], guard := none }) rfl rfl (by kernel_rfl) (fun W => by kernel_rfl) (fun _ _ h k => Ltr.trans h k) fun q w10 hL10 hp10 hq hS10 => ?_
  replace hv := hv.later hL10
  have hz10 := hL10.size
  have hlt10 := hq.lt
  try simp only [pa, pn, pb, pc, pd]
  refine rm_take 11 (some 4) (.pointer (some ⟨q, 0, none⟩)) (oi := { dst := some 4, op := Go.Op.assign (Go.Operand.tmp 30), type := 31, pos := "rope.go:132", after := #[{ on := 10, ground := Go.Ground.data }, { on := 8, ground := Go.Ground.chain }, { on := 0, ground := Go.Ground.phase }, { on := 1, ground := Go.Ground.phase }, { on := 2, ground := Go.Ground.phase }, { on := 3, ground := Go.Ground.phase }, { on := 4, ground := Go.Ground.phase }, { on := 5, ground := Go.Ground.phase }, { on := 6, ground := Go.Ground.phase }, { on := 7, ground := Go.Ground.phase }, { on := 8, ground := Go.Ground.phase }, { on := 9, ground := Go.Ground.phase }, { on := 10, ground := Go.Ground.phase }], guard := none }) rfl rfl (by kernel_rfl) (by kernel_rfl) (by kernel_rfl) (by kernel_rfl) (fun W hW => by (kernel_rfl)) ?_
  try simp only [pa, pn, pb, pc, pd]
  refine rm_take 12 (some 5) (.int .i64 0) (oi := { dst := some 5, op := Go.Op.assign (Go.Operand.const (Go.Value.int Go.IntKind.i64 0)), type := 50, pos := "rope.go:132", after := #[{ on := 11, ground := Go.Ground.chain }, { on := 0, ground := Go.Ground.phase }, { on := 1, ground := Go.Ground.phase }, { on := 2, ground := Go.Ground.phase }, { on := 3, ground := Go.Ground.phase }, { on := 4, ground := Go.Ground.phase }, { on := 5, ground := Go.Ground.phase }, { on := 6, ground := Go.Ground.phase }, { on := 7, ground := Go.Ground.phase }, { on := 8, ground := Go.Ground.phase }, { on := 9, ground := Go.Ground.phase }, { on := 10, ground := Go.Ground.phase }, { on := 11, ground := Go.Ground.phase }], guard := none }) rfl rfl (by kernel_rfl) (by kernel_rfl) (by kernel_rfl) (by kernel_rfl) (fun W hW => by (kernel_rfl)) ?_
  try simp only [pa, pn, pb, pc, pd]
  refine rm_done (by kernel_rfl) (fun w11 hL11 hS11 => hgo.out _ _ ?_) _
  clear hgo K8
  replace hv := hv.later hL11
  replace hq := hq.later hL11
  replace hT := hT.later (show Ltr w6 _ from hS11)
  replace hB := hB.later (show Ltr w6 _ from hS11)
  replace ha0 := ha0.later (show Ltr w6 _ from hS11)
  replace hb0 := hb0.later (show Ltr w6 _ from hS11)
  replace na := na.later (show Ltr w6 _ from hS11)
  replace nb := nb.later (show Ltr w6 _ from hS11)
  replace ka := ka.later (show Ltr w6 _ from hS11)
  replace kb := kb.later (show Ltr w6 _ from hS11)
  have hz11 := (show Ltr w6 _ from hS11).size
  have hy11 := hL11.size
  refine hKK7 _ _ ?_
  refine wp_ret ?_
  try simp only [Exit.then, Exit.inBlock]
  refine bp_ret (v := .tuple #[.pointer (some ⟨q, 0, none⟩), .int .i64 0]) (res2 rfl (res_tmp (by kernel_rfl)) (res_tmp (by kernel_rfl))) ?_
  exact ⟨_, rfl, hB, ⟨v, hq, hv⟩, by omega⟩
end Go.Proofs.YtliphfgiaioebaaDoor
