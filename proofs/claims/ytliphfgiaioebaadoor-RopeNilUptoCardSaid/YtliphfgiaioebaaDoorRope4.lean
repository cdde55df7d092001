/-
  Package rope: join of any two nodes.
-/
import Derived.Test.YtliphfgiaioebaaDoorRope3
namespace Go.Proofs.YtliphfgiaioebaaDoor
set_option linter.unusedVariables false
set_option linter.unusedSimpArgs false
open Go.RowKit

set_option maxRecDepth 100000 in
set_option maxHeartbeats 8000000 in
theorem join_ff (p q r s : Tr) (vx vy : Value) (w : World) (hT : Tabs w) (hx : Tree w (Tr.fork p q) vx) (hy : Tree w (Tr.fork r s) vy) (ox : ((Tr.fork p q)).ok) (oy : ((Tr.fork r s)).ok) (hm : ((Tr.fork p q)).bytes.length + ((Tr.fork r s)).bytes.length ≤ 200000000)
    (d1 : ((Tr.fork p q)).h ≤ ((Tr.fork r s)).h + 1) (d2 : ((Tr.fork r s)).h ≤ ((Tr.fork p q)).h + 1) :
    Calls Tryd.prog 83 #[vx, vy] w (JoinP (Tr.fork p q) (Tr.fork r s) vx vy w) := by
  have hB := Ltr.refl w
  obtain ⟨f1, x1, e1, c1⟩ := inv_height hx
  obtain ⟨f2, x2, e2, c2⟩ := inv_height hy
  have bx := Tr.h_le _ ox
  have by' := Tr.h_le _ oy
  have nx := hx.n
  have ny := hy.n
  obtain ⟨a, vp, vq, rfl, -, -, -⟩ := hx.fork_open
  obtain ⟨b, vr, vs, rfl, -, -, -⟩ := hy.fork_open
  clear hx hy
  go_enter Tryd.func83, Tryd.ntmps83
  have h4 := hT.four
  refine wp_seq_k fun KK1 hKK1 => ?_
  refine rl_begin fun hgK hgo => ?_
  refine rl_take (some 4) (.nilIface) rfl (by kernel_rfl) (by kernel_rfl) ?_
  try simp only [pa, pn, pb, pc, pd]
  refine rl_nil ?_
  refine hgo.out _ _ ?_
  clear hgo hgK
  refine hKK1 _ _ ?_
  refine wp_seq_k fun KK2 hKK2 => ?_
  refine wp_block ?_
  refine wp_seq_k fun KK3 hKK3 => ?_
  refine rl_begin fun hgK hgo => ?_
  refine rl_take (some 15) (.iface 111 (.pointer (some ⟨a, 0, none⟩))) rfl (by kernel_rfl) (by kernel_rfl) ?_
  try simp only [pa, pn, pb, pc, pd]
  refine rl_take (some 16) (.bool false) rfl (by kernel_rfl) (by kernel_rfl) ?_
  try simp only [pa, pn, pb, pc, pd]
  refine rl_take (some 14) (.bool false) rfl (by kernel_rfl) (by kernel_rfl) ?_
  try simp only [pa, pn, pb, pc, pd]
  refine rl_nil ?_
  refine hgo.out _ _ ?_
  clear hgo hgK
  refine hKK3 _ _ ?_
  refine wp_cond_false (by kernel_rfl) ?_
  refine wp_seq_k fun KK4 hKK4 => ?_
  refine rl_begin fun hgK hgo => ?_
  refine rl_take (some 19) (.iface 111 (.pointer (some ⟨b, 0, none⟩))) rfl (by kernel_rfl) (by kernel_rfl) ?_
  try simp only [pa, pn, pb, pc, pd]
  refine rl_take (some 20) (.bool false) rfl (by kernel_rfl) (by kernel_rfl) ?_
  try simp only [pa, pn, pb, pc, pd]
  refine rl_take (some 18) (.bool false) rfl (by kernel_rfl) (by kernel_rfl) ?_
  try simp only [pa, pn, pb, pc, pd]
  refine rl_nil ?_
  refine hgo.out _ _ ?_
  clear hgo hgK
  refine hKK4 _ _ ?_
  refine wp_cond_false (by kernel_rfl) ?_
  refine wp_skip ?_
  refine hKK2 _ _ ?_
  refine wp_seq_k fun KK5 hKK5 => ?_
  refine wp_seq_k fun KK6 hKK6 => ?_
  refine rl_begin fun hgK hgo => ?_
  refine rl_take (some 22) (.iface 111 (.pointer (some ⟨a, 0, none⟩))) rfl (by kernel_rfl) (by kernel_rfl) ?_
  try simp only [pa, pn, pb, pc, pd]
  refine rl_call (some 23) f1 #[x1] rfl (by kernel_rfl) (by exact e1 _ _ _ _ rfl rfl) (c1 _ hB) ?_
  rintro e w7 ⟨rfl, hL7⟩
  refine ⟨_, rfl, ?_⟩
  replace hT := hT.later hL7
  replace hB := hB.later hL7
  replace nx := nx.later hL7
  replace ny := ny.later hL7
  have hz7 := hL7.size
  try simp only [pa, pn, pb, pc, pd]
  refine rl_take (some 24) (.iface 111 (.pointer (some ⟨b, 0, none⟩))) rfl (by kernel_rfl) (by kernel_rfl) ?_
  try simp only [pa, pn, pb, pc, pd]
  refine rl_call (some 25) f2 #[x2] rfl (by kernel_rfl) (by exact e2 _ _ _ _ rfl rfl) (c2 _ hB) ?_
  rintro e w8 ⟨rfl, hL8⟩
  refine ⟨_, rfl, ?_⟩
  replace hT := hT.later hL8
  replace hB := hB.later hL8
  replace nx := nx.later hL8
  replace ny := ny.later hL8
  have hz8 := hL8.size
  try simp only [pa, pn, pb, pc, pd]
  refine rl_take (some 26) (.int .i64 (((((Tr.fork p q)).h : Int) : Int) - (((Tr.fork r s)).h : Int))) rfl (by kernel_rfl) (by exact ex_arith (e := ((((Tr.fork p q)).h : Int) : Int) - (((Tr.fork r s)).h : Int)) (r := ((((Tr.fork p q)).h : Int) : Int) - (((Tr.fork r s)).h : Int)) (by kernel_rfl) (by omega) (by omega)) ?_
  try simp only [pa, pn, pb, pc, pd]
  refine rl_take (some 5) (.int .i64 (((((Tr.fork p q)).h : Int) : Int) - (((Tr.fork r s)).h : Int))) rfl (by kernel_rfl) (by kernel_rfl) ?_
  try simp only [pa, pn, pb, pc, pd]
  refine rl_nil ?_
  refine hgo.out _ _ ?_
  clear hgo hgK
  refine hKK6 _ _ ?_
  refine wp_block ?_
  refine wp_seq_k fun KK9 hKK9 => ?_
  refine rl_begin fun hgK hgo => ?_
  refine rl_take (some 28) (.int .i64 (((((Tr.fork p q)).h : Int) : Int) - (((Tr.fork r s)).h : Int))) rfl (by kernel_rfl) (by kernel_rfl) ?_
  try simp only [pa, pn, pb, pc, pd]
  refine rl_take (some 29) (.bool false) rfl (by kernel_rfl) (by exact ex_bool (c := ((((((Tr.fork p q)).h : Int) : Int) - (((Tr.fork r s)).h : Int)) : Int) > 1) (by kernel_rfl) ⟨fun q => (by cases q), fun q => absurd q (by omega)⟩) ?_
  try simp only [pa, pn, pb, pc, pd]
  refine rl_take (some 27) (.bool false) rfl (by kernel_rfl) (by kernel_rfl) ?_
  try simp only [pa, pn, pb, pc, pd]
  refine rl_nil ?_
  refine hgo.out _ _ ?_
  clear hgo hgK
  refine hKK9 _ _ ?_
  refine wp_cond_false (by kernel_rfl) ?_
  refine wp_seq_k fun KK10 hKK10 => ?_
  refine rl_begin fun hgK hgo => ?_
  refine rl_take (some 44) (.int .i64 (((((Tr.fork p q)).h : Int) : Int) - (((Tr.fork r s)).h : Int))) rfl (by kernel_rfl) (by kernel_rfl) ?_
  try simp only [pa, pn, pb, pc, pd]
  refine rl_take (some 45) (.bool false) rfl (by kernel_rfl) (by exact ex_bool (c := ((((((Tr.fork p q)).h : Int) : Int) - (((Tr.fork r s)).h : Int)) : Int) < (-1)) (by kernel_rfl) ⟨fun q => (by cases q), fun q => absurd q (by omega)⟩) ?_
  try simp only [pa, pn, pb, pc, pd]
  refine rl_take (some 43) (.bool false) rfl (by kernel_rfl) (by kernel_rfl) ?_
  try simp only [pa, pn, pb, pc, pd]
  refine rl_nil ?_
  refine hgo.out _ _ ?_
  clear hgo hgK
  refine hKK10 _ _ ?_
  refine wp_cond_false (by kernel_rfl) ?_
  refine wp_skip ?_
  refine hKK5 _ _ ?_
  refine wp_seq_k fun KK11 hKK11 => ?_
  refine rl_begin fun hgK hgo => ?_
  refine rl_take (some 60) (.iface 111 (.pointer (some ⟨a, 0, none⟩))) rfl (by kernel_rfl) (by kernel_rfl) ?_
  try simp only [pa, pn, pb, pc, pd]
  refine rl_take (some 61) (.tuple #[.agg #[.pointer none], .bool false]) rfl (by kernel_rfl) (by kernel_rfl) ?_
  try simp only [pa, pn, pb, pc, pd]
  refine rl_take (some 59) (.tuple #[.agg #[.pointer none], .bool false]) rfl (by kernel_rfl) (by kernel_rfl) ?_
  try simp only [pa, pn, pb, pc, pd]
  refine rl_take (some 62) (.agg #[.pointer none]) rfl (by kernel_rfl) (by kernel_rfl) ?_
  try simp only [pa, pn, pb, pc, pd]
  refine rl_take (some 63) (.bool false) rfl (by kernel_rfl) (by kernel_rfl) ?_
  try simp only [pa, pn, pb, pc, pd]
  refine rl_alloc (some 8) 118 #[.pointer none] rfl (by kernel_rfl) (fun W => by kernel_rfl) fun p12 w12 hL12 hp12 hb12 => ?_
  replace hT := hT.later hL12
  replace hB := hB.later hL12
  replace nx := nx.later hL12
  replace ny := ny.later hL12
  have hz12 := hL12.size
  have hlt12 := hb12.lt
  try simp only [pa, pn, pb, pc, pd]
  refine rl_store p12 #[.pointer none] rfl rfl (by kernel_rfl) rfl rfl (by kernel_rfl) hb12 rfl (by kernel_rfl) fun w13 hU13 hn13 => ?_
  have hz13 := hU13.size
  replace hT := hT.upd hU13 (by omega)
  replace hB := hB.upd hU13 (by omega)
  replace nx := nx.upd hU13 (by omega)
  replace ny := ny.upd hU13 (by omega)
  clear hb12
  have hb12 := hn13
  clear hn13
  try simp only [pa, pn, pb, pc, pd]
  refine rl_take (some 9) (.bool false) rfl (by kernel_rfl) (by kernel_rfl) ?_
  try simp only [pa, pn, pb, pc, pd]
  refine rl_nil ?_
  refine hgo.out _ _ ?_
  clear hgo hgK
  refine hKK11 _ _ ?_
  refine wp_seq_k fun KK14 hKK14 => ?_
  refine rl_begin fun hgK hgo => ?_
  refine rl_take (some 65) (.iface 111 (.pointer (some ⟨b, 0, none⟩))) rfl (by kernel_rfl) (by kernel_rfl) ?_
  try simp only [pa, pn, pb, pc, pd]
  refine rl_take (some 66) (.tuple #[.agg #[.pointer none], .bool false]) rfl (by kernel_rfl) (by kernel_rfl) ?_
  try simp only [pa, pn, pb, pc, pd]
  refine rl_take (some 64) (.tuple #[.agg #[.pointer none], .bool false]) rfl (by kernel_rfl) (by kernel_rfl) ?_
  try simp only [pa, pn, pb, pc, pd]
  refine rl_take (some 67) (.agg #[.pointer none]) rfl (by kernel_rfl) (by kernel_rfl) ?_
  try simp only [pa, pn, pb, pc, pd]
  refine rl_take (some 68) (.bool false) rfl (by kernel_rfl) (by kernel_rfl) ?_
  try simp only [pa, pn, pb, pc, pd]
  refine rl_alloc (some 10) 118 #[.pointer none] rfl (by kernel_rfl) (fun W => by kernel_rfl) fun p15 w15 hL15 hp15 hb15 => ?_
  replace hT := hT.later hL15
  replace hB := hB.later hL15
  replace nx := nx.later hL15
  replace ny := ny.later hL15
  replace hb12 := hb12.later hL15
  have hz15 := hL15.size
  have hlt15 := hb15.lt
  try simp only [pa, pn, pb, pc, pd]
  refine rl_store p15 #[.pointer none] rfl rfl (by kernel_rfl) rfl rfl (by kernel_rfl) hb15 rfl (by kernel_rfl) fun w16 hU16 hn16 => ?_
  have hz16 := hU16.size
  replace hT := hT.upd hU16 (by omega)
  replace hB := hB.upd hU16 (by omega)
  replace nx := nx.upd hU16 (by omega)
  replace ny := ny.upd hU16 (by omega)
  replace hb12 := hb12.upd hU16 (by omega)
  clear hb15
  have hb15 := hn16
  clear hn16
  try simp only [pa, pn, pb, pc, pd]
  refine rl_take (some 11) (.bool false) rfl (by kernel_rfl) (by kernel_rfl) ?_
  try simp only [pa, pn, pb, pc, pd]
  refine rl_nil ?_
  refine hgo.out _ _ ?_
  clear hgo hgK
  refine hKK14 _ _ ?_
  refine wp_seq_k fun KK17 hKK17 => ?_
  refine wp_seq_k fun KK18 hKK18 => ?_
  refine rl_begin fun hgK hgo => ?_
  refine rl_take (some 69) (.bool false) rfl (by kernel_rfl) (by kernel_rfl) ?_
  try simp only [pa, pn, pb, pc, pd]
  refine rl_take (some 70) (.bool false) rfl (by kernel_rfl) (by kernel_rfl) ?_
  try simp only [pa, pn, pb, pc, pd]
  refine rl_pass (some 71) rfl (by kernel_rfl) ?_
  try simp only [pa, pn, pb, pc, pd]
  refine rl_take (some 72) (.bool false) rfl (by kernel_rfl) (by kernel_rfl) ?_
  try simp only [pa, pn, pb, pc, pd]
  refine rl_take (some 73) (.bool false) rfl (by kernel_rfl) (by kernel_rfl) ?_
  try simp only [pa, pn, pb, pc, pd]
  refine rl_pass (some 74) rfl (by kernel_rfl) ?_
  try simp only [pa, pn, pb, pc, pd]
  refine rl_pass (some 75) rfl (by kernel_rfl) ?_
  try simp only [pa, pn, pb, pc, pd]
  refine rl_pass (some 76) rfl (by kernel_rfl) ?_
  try simp only [pa, pn, pb, pc, pd]
  refine rl_pass (some 77) rfl (by kernel_rfl) ?_
  try simp only [pa, pn, pb, pc, pd]
  refine rl_pass (some 78) rfl (by kernel_rfl) ?_
  try simp only [pa, pn, pb, pc, pd]
  refine rl_pass (some 79) rfl (by kernel_rfl) ?_
  try simp only [pa, pn, pb, pc, pd]
  refine rl_take (some 80) (.bool false) rfl (by kernel_rfl) (by kernel_rfl) ?_
  try simp only [pa, pn, pb, pc, pd]
  refine rl_nil ?_
  refine hgo.out _ _ ?_
  clear hgo hgK
  refine hKK18 _ _ ?_
  refine wp_cond_false (by kernel_rfl) ?_
  refine wp_skip ?_
  refine hKK17 _ _ ?_
  refine wp_seq_k fun KK19 hKK19 => ?_
  refine rl_begin fun hgK hgo => ?_
  refine rl_take (some 94) (.iface 111 (.pointer (some ⟨a, 0, none⟩))) rfl (by kernel_rfl) (by kernel_rfl) ?_
  try simp only [pa, pn, pb, pc, pd]
  refine rl_take (some 95) (.iface 111 (.pointer (some ⟨b, 0, none⟩))) rfl (by kernel_rfl) (by kernel_rfl) ?_
  try simp only [pa, pn, pb, pc, pd]
  refine rl_call (some 96) 107 #[.iface 111 (.pointer (some ⟨a, 0, none⟩)), .iface 111 (.pointer (some ⟨b, 0, none⟩))] rfl (by kernel_rfl) (by kernel_rfl) (pair_any (Tr.fork p q) (Tr.fork r s) _ _ _ hT nx.tree ny.tree (by omega) (by omega) (by omega)) ?_
  rintro e w20 ⟨v, rfl, hL20, hv⟩
  refine ⟨_, rfl, ?_⟩
  replace hT := hT.later hL20
  replace hB := hB.later hL20
  replace nx := nx.later hL20
  replace ny := ny.later hL20
  replace hb12 := hb12.later hL20
  replace hb15 := hb15.later hL20
  have hz20 := hL20.size
  try simp only [pa, pn, pb, pc, pd]
  refine rl_take (some 4) (v) rfl (by kernel_rfl) (by kernel_rfl) ?_
  try simp only [pa, pn, pb, pc, pd]
  refine rl_nil ?_
  refine hgo.out _ _ ?_
  clear hgo hgK
  refine hKK19 _ _ ?_
  refine wp_ret ?_
  try simp only [Exit.then, Exit.inBlock]
  refine bp_ret (v := v) (res1 rfl (res_tmp (by kernel_rfl))) ?_
  exact ⟨_, rfl, hB, .fork (Tr.fork p q) (Tr.fork r s), hv, ⟨ox, oy, d1, d2⟩, rfl, (by show _ ≤ 1 + max _ _; omega), (by show 1 + max _ _ ≤ _; omega)⟩
set_option maxRecDepth 100000 in
set_option maxHeartbeats 8000000 in
theorem join_ft (p q : Tr) (m : List UInt8) (vx vy : Value) (w : World) (hT : Tabs w) (hx : Tree w (Tr.fork p q) vx) (hy : Tree w (Tr.tip m) vy) (ox : ((Tr.fork p q)).ok) (oy : ((Tr.tip m)).ok) (hm : ((Tr.fork p q)).bytes.length + ((Tr.tip m)).bytes.length ≤ 200000000)
    (d1 : ((Tr.fork p q)).h ≤ ((Tr.tip m)).h + 1) (d2 : ((Tr.tip m)).h ≤ ((Tr.fork p q)).h + 1) :
    Calls Tryd.prog 83 #[vx, vy] w (JoinP (Tr.fork p q) (Tr.tip m) vx vy w) := by
  have hB := Ltr.refl w
  obtain ⟨f1, x1, e1, c1⟩ := inv_height hx
  obtain ⟨f2, x2, e2, c2⟩ := inv_height hy
  have bx := Tr.h_le _ ox
  have by' := Tr.h_le _ oy
  have nx := hx.n
  have ny := hy.n
  obtain ⟨a, vp, vq, rfl, -, -, -⟩ := hx.fork_open
  obtain ⟨b, rfl, -⟩ := hy.tip_open
  clear hx hy
  go_enter Tryd.func83, Tryd.ntmps83
  have h4 := hT.four
  refine wp_seq_k fun KK1 hKK1 => ?_
  refine rl_begin fun hgK hgo => ?_
  refine rl_take (some 4) (.nilIface) rfl (by kernel_rfl) (by kernel_rfl) ?_
  try simp only [pa, pn, pb, pc, pd]
  refine rl_nil ?_
  refine hgo.out _ _ ?_
  clear hgo hgK
  refine hKK1 _ _ ?_
  refine wp_seq_k fun KK2 hKK2 => ?_
  refine wp_block ?_
  refine wp_seq_k fun KK3 hKK3 => ?_
  refine rl_begin fun hgK hgo => ?_
  refine rl_take (some 15) (.iface 111 (.pointer (some ⟨a, 0, none⟩))) rfl (by kernel_rfl) (by kernel_rfl) ?_
  try simp only [pa, pn, pb, pc, pd]
  refine rl_take (some 16) (.bool false) rfl (by kernel_rfl) (by kernel_rfl) ?_
  try simp only [pa, pn, pb, pc, pd]
  refine rl_take (some 14) (.bool false) rfl (by kernel_rfl) (by kernel_rfl) ?_
  try simp only [pa, pn, pb, pc, pd]
  refine rl_nil ?_
  refine hgo.out _ _ ?_
  clear hgo hgK
  refine hKK3 _ _ ?_
  refine wp_cond_false (by kernel_rfl) ?_
  refine wp_seq_k fun KK4 hKK4 => ?_
  refine rl_begin fun hgK hgo => ?_
  refine rl_take (some 19) (.iface 118 (.agg #[.pointer (some ⟨b, 0, none⟩)])) rfl (by kernel_rfl) (by kernel_rfl) ?_
  try simp only [pa, pn, pb, pc, pd]
  refine rl_take (some 20) (.bool false) rfl (by kernel_rfl) (by kernel_rfl) ?_
  try simp only [pa, pn, pb, pc, pd]
  refine rl_take (some 18) (.bool false) rfl (by kernel_rfl) (by kernel_rfl) ?_
  try simp only [pa, pn, pb, pc, pd]
  refine rl_nil ?_
  refine hgo.out _ _ ?_
  clear hgo hgK
  refine hKK4 _ _ ?_
  refine wp_cond_false (by kernel_rfl) ?_
  refine wp_skip ?_
  refine hKK2 _ _ ?_
  refine wp_seq_k fun KK5 hKK5 => ?_
  refine wp_seq_k fun KK6 hKK6 => ?_
  refine rl_begin fun hgK hgo => ?_
  refine rl_take (some 22) (.iface 111 (.pointer (some ⟨a, 0, none⟩))) rfl (by kernel_rfl) (by kernel_rfl) ?_
  try simp only [pa, pn, pb, pc, pd]
  refine rl_call (some 23) f1 #[x1] rfl (by kernel_rfl) (by exact e1 _ _ _ _ rfl rfl) (c1 _ hB) ?_
  rintro e w7 ⟨rfl, hL7⟩
  refine ⟨_, rfl, ?_⟩
  replace hT := hT.later hL7
  replace hB := hB.later hL7
  replace nx := nx.later hL7
  replace ny := ny.later hL7
  have hz7 := hL7.size
  try simp only [pa, pn, pb, pc, pd]
  refine rl_take (some 24) (.iface 118 (.agg #[.pointer (some ⟨b, 0, none⟩)])) rfl (by kernel_rfl) (by kernel_rfl) ?_
  try simp only [pa, pn, pb, pc, pd]
  refine rl_call (some 25) f2 #[x2] rfl (by kernel_rfl) (by exact e2 _ _ _ _ rfl rfl) (c2 _ hB) ?_
  rintro e w8 ⟨rfl, hL8⟩
  refine ⟨_, rfl, ?_⟩
  replace hT := hT.later hL8
  replace hB := hB.later hL8
  replace nx := nx.later hL8
  replace ny := ny.later hL8
  have hz8 := hL8.size
  try simp only [pa, pn, pb, pc, pd]
  refine rl_take (some 26) (.int .i64 (((((Tr.fork p q)).h : Int) : Int) - (((Tr.tip m)).h : Int))) rfl (by kernel_rfl) (by exact ex_arith (e := ((((Tr.fork p q)).h : Int) : Int) - (((Tr.tip m)).h : Int)) (r := ((((Tr.fork p q)).h : Int) : Int) - (((Tr.tip m)).h : Int)) (by kernel_rfl) (by omega) (by omega)) ?_
  try simp only [pa, pn, pb, pc, pd]
  refine rl_take (some 5) (.int .i64 (((((Tr.fork p q)).h : Int) : Int) - (((Tr.tip m)).h : Int))) rfl (by kernel_rfl) (by kernel_rfl) ?_
  try simp only [pa, pn, pb, pc, pd]
  refine rl_nil ?_
  refine hgo.out _ _ ?_
  clear hgo hgK
  refine hKK6 _ _ ?_
  refine wp_block ?_
  refine wp_seq_k fun KK9 hKK9 => ?_
  refine rl_begin fun hgK hgo => ?_
  refine rl_take (some 28) (.int .i64 (((((Tr.fork p q)).h : Int) : Int) - (((Tr.tip m)).h : Int))) rfl (by kernel_rfl) (by kernel_rfl) ?_
  try simp only [pa, pn, pb, pc, pd]
  refine rl_take (some 29) (.bool false) rfl (by kernel_rfl) (by exact ex_bool (c := ((((((Tr.fork p q)).h : Int) : Int) - (((Tr.tip m)).h : Int)) : Int) > 1) (by kernel_rfl) ⟨fun q => (by cases q), fun q => absurd q (by omega)⟩) ?_
  try simp only [pa, pn, pb, pc, pd]
  refine rl_take (some 27) (.bool false) rfl (by kernel_rfl) (by kernel_rfl) ?_
  try simp only [pa, pn, pb, pc, pd]
  refine rl_nil ?_
  refine hgo.out _ _ ?_
  clear hgo hgK
  refine hKK9 _ _ ?_
  refine wp_cond_false (by kernel_rfl) ?_
  refine wp_seq_k fun KK10 hKK10 => ?_
  refine rl_begin fun hgK hgo => ?_
  refine rl_take (some 44) (.int .i64 (((((Tr.fork p q)).h : Int) : Int) - (((Tr.tip m)).h : Int))) rfl (by kernel_rfl) (by kernel_rfl) ?_
  try simp only [pa, pn, pb, pc, pd]
  refine rl_take (some 45) (.bool false) rfl (by kernel_rfl) (by exact ex_bool (c := ((((((Tr.fork p q)).h : Int) : Int) - (((Tr.tip m)).h : Int)) : Int) < (-1)) (by kernel_rfl) ⟨fun q => (by cases q), fun q => absurd q (by omega)⟩) ?_
  try simp only [pa, pn, pb, pc, pd]
  refine rl_take (some 43) (.bool false) rfl (by kernel_rfl) (by kernel_rfl) ?_
  try simp only [pa, pn, pb, pc, pd]
  refine rl_nil ?_
  refine hgo.out _ _ ?_
  clear hgo hgK
  refine hKK10 _ _ ?_
  refine wp_cond_false (by kernel_rfl) ?_
  refine wp_skip ?_
  refine hKK5 _ _ ?_
  refine wp_seq_k fun KK11 hKK11 => ?_
  refine rl_begin fun hgK hgo => ?_
  refine rl_take (some 60) (.iface 111 (.pointer (some ⟨a, 0, none⟩))) rfl (by kernel_rfl) (by kernel_rfl) ?_
  try simp only [pa, pn, pb, pc, pd]
  refine rl_take (some 61) (.tuple #[.agg #[.pointer none], .bool false]) rfl (by kernel_rfl) (by kernel_rfl) ?_
  try simp only [pa, pn, pb, pc, pd]
  refine rl_take (some 59) (.tuple #[.agg #[.pointer none], .bool false]) rfl (by kernel_rfl) (by kernel_rfl) ?_
  try simp only [pa, pn, pb, pc, pd]
  refine rl_take (some 62) (.agg #[.pointer none]) rfl (by kernel_rfl) (by kernel_rfl) ?_
  try simp only [pa, pn, pb, pc, pd]
  refine rl_take (some 63) (.bool false) rfl (by kernel_rfl) (by kernel_rfl) ?_
  try simp only [pa, pn, pb, pc, pd]
  refine rl_alloc (some 8) 118 #[.pointer none] rfl (by kernel_rfl) (fun W => by kernel_rfl) fun p12 w12 hL12 hp12 hb12 => ?_
  replace hT := hT.later hL12
  replace hB := hB.later hL12
  replace nx := nx.later hL12
  replace ny := ny.later hL12
  have hz12 := hL12.size
  have hlt12 := hb12.lt
  try simp only [pa, pn, pb, pc, pd]
  refine rl_store p12 #[.pointer none] rfl rfl (by kernel_rfl) rfl rfl (by kernel_rfl) hb12 rfl (by kernel_rfl) fun w13 hU13 hn13 => ?_
  have hz13 := hU13.size
  replace hT := hT.upd hU13 (by omega)
  replace hB := hB.upd hU13 (by omega)
  replace nx := nx.upd hU13 (by omega)
  replace ny := ny.upd hU13 (by omega)
  clear hb12
  have hb12 := hn13
  clear hn13
  try simp only [pa, pn, pb, pc, pd]
  refine rl_take (some 9) (.bool false) rfl (by kernel_rfl) (by kernel_rfl) ?_
  try simp only [pa, pn, pb, pc, pd]
  refine rl_nil ?_
  refine hgo.out _ _ ?_
  clear hgo hgK
  refine hKK11 _ _ ?_
  refine wp_seq_k fun KK14 hKK14 => ?_
  refine rl_begin fun hgK hgo => ?_
  refine rl_take (some 65) (.iface 118 (.agg #[.pointer (some ⟨b, 0, none⟩)])) rfl (by kernel_rfl) (by kernel_rfl) ?_
  try simp only [pa, pn, pb, pc, pd]
  refine rl_take (some 66) (.tuple #[.agg #[.pointer (some ⟨b, 0, none⟩)], .bool true]) rfl (by kernel_rfl) (by kernel_rfl) ?_
  try simp only [pa, pn, pb, pc, pd]
  refine rl_take (some 64) (.tuple #[.agg #[.pointer (some ⟨b, 0, none⟩)], .bool true]) rfl (by kernel_rfl) (by kernel_rfl) ?_
  try simp only [pa, pn, pb, pc, pd]
  refine rl_take (some 67) (.agg #[.pointer (some ⟨b, 0, none⟩)]) rfl (by kernel_rfl) (by kernel_rfl) ?_
  try simp only [pa, pn, pb, pc, pd]
  refine rl_take (some 68) (.bool true) rfl (by kernel_rfl) (by kernel_rfl) ?_
  try simp only [pa, pn, pb, pc, pd]
  refine rl_alloc (some 10) 118 #[.pointer none] rfl (by kernel_rfl) (fun W => by kernel_rfl) fun p15 w15 hL15 hp15 hb15 => ?_
  replace hT := hT.later hL15
  replace hB := hB.later hL15
  replace nx := nx.later hL15
  replace ny := ny.later hL15
  replace hb12 := hb12.later hL15
  have hz15 := hL15.size
  have hlt15 := hb15.lt
  try simp only [pa, pn, pb, pc, pd]
  refine rl_store p15 #[.pointer (some ⟨b, 0, none⟩)] rfl rfl (by kernel_rfl) rfl rfl (by kernel_rfl) hb15 rfl (by kernel_rfl) fun w16 hU16 hn16 => ?_
  have hz16 := hU16.size
  replace hT := hT.upd hU16 (by omega)
  replace hB := hB.upd hU16 (by omega)
  replace nx := nx.upd hU16 (by omega)
  replace ny := ny.upd hU16 (by omega)
  replace hb12 := hb12.upd hU16 (by omega)
  clear hb15
  have hb15 := hn16
  clear hn16
  try simp only [pa, pn, pb, pc, pd]
  refine rl_take (some 11) (.bool true) rfl (by kernel_rfl) (by kernel_rfl) ?_
  try simp only [pa, pn, pb, pc, pd]
  refine rl_nil ?_
  refine hgo.out _ _ ?_
  clear hgo hgK
  refine hKK14 _ _ ?_
  refine wp_seq_k fun KK17 hKK17 => ?_
  refine wp_seq_k fun KK18 hKK18 => ?_
  refine rl_begin fun hgK hgo => ?_
  refine rl_take (some 69) (.bool false) rfl (by kernel_rfl) (by kernel_rfl) ?_
  try simp only [pa, pn, pb, pc, pd]
  refine rl_take (some 70) (.bool false) rfl (by kernel_rfl) (by kernel_rfl) ?_
  try simp only [pa, pn, pb, pc, pd]
  refine rl_pass (some 71) rfl (by kernel_rfl) ?_
  try simp only [pa, pn, pb, pc, pd]
  refine rl_take (some 72) (.bool false) rfl (by kernel_rfl) (by kernel_rfl) ?_
  try simp only [pa, pn, pb, pc, pd]
  refine rl_take (some 73) (.bool false) rfl (by kernel_rfl) (by kernel_rfl) ?_
  try simp only [pa, pn, pb, pc, pd]
  refine rl_pass (some 74) rfl (by kernel_rfl) ?_
  try simp only [pa, pn, pb, pc, pd]
  refine rl_pass (some 75) rfl (by kernel_rfl) ?_
  try simp only [pa, pn, pb, pc, pd]
  refine rl_pass (some 76) rfl (by kernel_rfl) ?_
  try simp only [pa, pn, pb, pc, pd]
  refine rl_pass (some 77) rfl (by kernel_rfl) ?_
  try simp only [pa, pn, pb, pc, pd]
  refine rl_pass (some 78) rfl (by kernel_rfl) ?_
  try simp only [pa, pn, pb, pc, pd]
  refine rl_pass (some 79) rfl (by kernel_rfl) ?_
  try simp only [pa, pn, pb, pc, pd]
  refine rl_take (some 80) (.bool false) rfl (by kernel_rfl) (by kernel_rfl) ?_
  try simp only [pa, pn, pb, pc, pd]
  refine rl_nil ?_
  refine hgo.out _ _ ?_
  clear hgo hgK
  refine hKK18 _ _ ?_
  refine wp_cond_false (by kernel_rfl) ?_
  refine wp_skip ?_
  refine hKK17 _ _ ?_
  refine wp_seq_k fun KK19 hKK19 => ?_
  refine rl_begin fun hgK hgo => ?_
  refine rl_take (some 94) (.iface 111 (.pointer (some ⟨a, 0, none⟩))) rfl (by kernel_rfl) (by kernel_rfl) ?_
  try simp only [pa, pn, pb, pc, pd]
  refine rl_take (some 95) (.iface 118 (.agg #[.pointer (some ⟨b, 0, none⟩)])) rfl (by kernel_rfl) (by kernel_rfl) ?_
  try simp only [pa, pn, pb, pc, pd]
  refine rl_call (some 96) 107 #[.iface 111 (.pointer (some ⟨a, 0, none⟩)), .iface 118 (.agg #[.pointer (some ⟨b, 0, none⟩)])] rfl (by kernel_rfl) (by kernel_rfl) (pair_any (Tr.fork p q) (Tr.tip m) _ _ _ hT nx.tree ny.tree (by omega) (by omega) (by omega)) ?_
  rintro e w20 ⟨v, rfl, hL20, hv⟩
  refine ⟨_, rfl, ?_⟩
  replace hT := hT.later hL20
  replace hB := hB.later hL20
  replace nx := nx.later hL20
  replace ny := ny.later hL20
  replace hb12 := hb12.later hL20
  replace hb15 := hb15.later hL20
  have hz20 := hL20.size
  try simp only [pa, pn, pb, pc, pd]
  refine rl_take (some 4) (v) rfl (by kernel_rfl) (by kernel_rfl) ?_
  try simp only [pa, pn, pb, pc, pd]
  refine rl_nil ?_
  refine hgo.out _ _ ?_
  clear hgo hgK
  refine hKK19 _ _ ?_
  refine wp_ret ?_
  try simp only [Exit.then, Exit.inBlock]
  refine bp_ret (v := v) (res1 rfl (res_tmp (by kernel_rfl))) ?_
  exact ⟨_, rfl, hB, .fork (Tr.fork p q) (Tr.tip m), hv, ⟨ox, oy, d1, d2⟩, rfl, (by show _ ≤ 1 + max _ _; omega), (by show 1 + max _ _ ≤ _; omega)⟩
set_option maxRecDepth 100000 in
set_option maxHeartbeats 8000000 in
theorem join_tf (l : List UInt8) (r s : Tr) (vx vy : Value) (w : World) (hT : Tabs w) (hx : Tree w (Tr.tip l) vx) (hy : Tree w (Tr.fork r s) vy) (ox : ((Tr.tip l)).ok) (oy : ((Tr.fork r s)).ok) (hm : ((Tr.tip l)).bytes.length + ((Tr.fork r s)).bytes.length ≤ 200000000)
    (d1 : ((Tr.tip l)).h ≤ ((Tr.fork r s)).h + 1) (d2 : ((Tr.fork r s)).h ≤ ((Tr.tip l)).h + 1) :
    Calls Tryd.prog 83 #[vx, vy] w (JoinP (Tr.tip l) (Tr.fork r s) vx vy w) := by
  have hB := Ltr.refl w
  obtain ⟨f1, x1, e1, c1⟩ := inv_height hx
  obtain ⟨f2, x2, e2, c2⟩ := inv_height hy
  have bx := Tr.h_le _ ox
  have by' := Tr.h_le _ oy
  have nx := hx.n
  have ny := hy.n
  obtain ⟨a, rfl, -⟩ := hx.tip_open
  obtain ⟨b, vr, vs, rfl, -, -, -⟩ := hy.fork_open
  clear hx hy
  go_enter Tryd.func83, Tryd.ntmps83
  have h4 := hT.four
  refine wp_seq_k fun KK1 hKK1 => ?_
  refine rl_begin fun hgK hgo => ?_
  refine rl_take (some 4) (.nilIface) rfl (by kernel_rfl) (by kernel_rfl) ?_
  try simp only [pa, pn, pb, pc, pd]
  refine rl_nil ?_
  refine hgo.out _ _ ?_
  clear hgo hgK
  refine hKK1 _ _ ?_
  refine wp_seq_k fun KK2 hKK2 => ?_
  refine wp_block ?_
  refine wp_seq_k fun KK3 hKK3 => ?_
  refine rl_begin fun hgK hgo => ?_
  refine rl_take (some 15) (.iface 118 (.agg #[.pointer (some ⟨a, 0, none⟩)])) rfl (by kernel_rfl) (by kernel_rfl) ?_
  try simp only [pa, pn, pb, pc, pd]
  refine rl_take (some 16) (.bool false) rfl (by kernel_rfl) (by kernel_rfl) ?_
  try simp only [pa, pn, pb, pc, pd]
  refine rl_take (some 14) (.bool false) rfl (by kernel_rfl) (by kernel_rfl) ?_
  try simp only [pa, pn, pb, pc, pd]
  refine rl_nil ?_
  refine hgo.out _ _ ?_
  clear hgo hgK
  refine hKK3 _ _ ?_
  refine wp_cond_false (by kernel_rfl) ?_
  refine wp_seq_k fun KK4 hKK4 => ?_
  refine rl_begin fun hgK hgo => ?_
  refine rl_take (some 19) (.iface 111 (.pointer (some ⟨b, 0, none⟩))) rfl (by kernel_rfl) (by kernel_rfl) ?_
  try simp only [pa, pn, pb, pc, pd]
  refine rl_take (some 20) (.bool false) rfl (by kernel_rfl) (by kernel_rfl) ?_
  try simp only [pa, pn, pb, pc, pd]
  refine rl_take (some 18) (.bool false) rfl (by kernel_rfl) (by kernel_rfl) ?_
  try simp only [pa, pn, pb, pc, pd]
  refine rl_nil ?_
  refine hgo.out _ _ ?_
  clear hgo hgK
  refine hKK4 _ _ ?_
  refine wp_cond_false (by kernel_rfl) ?_
  refine wp_skip ?_
  refine hKK2 _ _ ?_
  refine wp_seq_k fun KK5 hKK5 => ?_
  refine wp_seq_k fun KK6 hKK6 => ?_
  refine rl_begin fun hgK hgo => ?_
  refine rl_take (some 22) (.iface 118 (.agg #[.pointer (some ⟨a, 0, none⟩)])) rfl (by kernel_rfl) (by kernel_rfl) ?_
  try simp only [pa, pn, pb, pc, pd]
  refine rl_call (some 23) f1 #[x1] rfl (by kernel_rfl) (by exact e1 _ _ _ _ rfl rfl) (c1 _ hB) ?_
  rintro e w7 ⟨rfl, hL7⟩
  refine ⟨_, rfl, ?_⟩
  replace hT := hT.later hL7
  replace hB := hB.later hL7
  replace nx := nx.later hL7
  replace ny := ny.later hL7
  have hz7 := hL7.size
  try simp only [pa, pn, pb, pc, pd]
  refine rl_take (some 24) (.iface 111 (.pointer (some ⟨b, 0, none⟩))) rfl (by kernel_rfl) (by kernel_rfl) ?_
  try simp only [pa, pn, pb, pc, pd]
  refine rl_call (some 25) f2 #[x2] rfl (by kernel_rfl) (by exact e2 _ _ _ _ rfl rfl) (c2 _ hB) ?_
  rintro e w8 ⟨rfl, hL8⟩
  refine ⟨_, rfl, ?_⟩
  replace hT := hT.later hL8
  replace hB := hB.later hL8
  replace nx := nx.later hL8
  replace ny := ny.later hL8
  have hz8 := hL8.size
  try simp only [pa, pn, pb, pc, pd]
  refine rl_take (some 26) (.int .i64 (((((Tr.tip l)).h : Int) : Int) - (((Tr.fork r s)).h : Int))) rfl (by kernel_rfl) (by exact ex_arith (e := ((((Tr.tip l)).h : Int) : Int) - (((Tr.fork r s)).h : Int)) (r := ((((Tr.tip l)).h : Int) : Int) - (((Tr.fork r s)).h : Int)) (by kernel_rfl) (by omega) (by omega)) ?_
  try simp only [pa, pn, pb, pc, pd]
  refine rl_take (some 5) (.int .i64 (((((Tr.tip l)).h : Int) : Int) - (((Tr.fork r s)).h : Int))) rfl (by kernel_rfl) (by kernel_rfl) ?_
  try simp only [pa, pn, pb, pc, pd]
  refine rl_nil ?_
  refine hgo.out _ _ ?_
  clear hgo hgK
  refine hKK6 _ _ ?_
  refine wp_block ?_
  refine wp_seq_k fun KK9 hKK9 => ?_
  refine rl_begin fun hgK hgo => ?_
  refine rl_take (some 28) (.int .i64 (((((Tr.tip l)).h : Int) : Int) - (((Tr.fork r s)).h : Int))) rfl (by kernel_rfl) (by kernel_rfl) ?_
  try simp only [pa, pn, pb, pc, pd]
  refine rl_take (some 29) (.bool false) rfl (by kernel_rfl) (by exact ex_bool (c := ((((((Tr.tip l)).h : Int) : Int) - (((Tr.fork r s)).h : Int)) : Int) > 1) (by kernel_rfl) ⟨fun q => (by cases q), fun q => absurd q (by omega)⟩) ?_
  try simp only [pa, pn, pb, pc, pd]
  refine rl_take (some 27) (.bool false) rfl (by kernel_rfl) (by kernel_rfl) ?_
  try simp only [pa, pn, pb, pc, pd]
  refine rl_nil ?_
  refine hgo.out _ _ ?_
  clear hgo hgK
  refine hKK9 _ _ ?_
  refine wp_cond_false (by kernel_rfl) ?_
  refine wp_seq_k fun KK10 hKK10 => ?_
  refine rl_begin fun hgK hgo => ?_
  refine rl_take (some 44) (.int .i64 (((((Tr.tip l)).h : Int) : Int) - (((Tr.fork r s)).h : Int))) rfl (by kernel_rfl) (by kernel_rfl) ?_
  try simp only [pa, pn, pb, pc, pd]
  refine rl_take (some 45) (.bool false) rfl (by kernel_rfl) (by exact ex_bool (c := ((((((Tr.tip l)).h : Int) : Int) - (((Tr.fork r s)).h : Int)) : Int) < (-1)) (by kernel_rfl) ⟨fun q => (by cases q), fun q => absurd q (by omega)⟩) ?_
  try simp only [pa, pn, pb, pc, pd]
  refine rl_take (some 43) (.bool false) rfl (by kernel_rfl) (by kernel_rfl) ?_
  try simp only [pa, pn, pb, pc, pd]
  refine rl_nil ?_
  refine hgo.out _ _ ?_
  clear hgo hgK
  refine hKK10 _ _ ?_
  refine wp_cond_false (by kernel_rfl) ?_
  refine wp_skip ?_
  refine hKK5 _ _ ?_
  refine wp_seq_k fun KK11 hKK11 => ?_
  refine rl_begin fun hgK hgo => ?_
  refine rl_take (some 60) (.iface 118 (.agg #[.pointer (some ⟨a, 0, none⟩)])) rfl (by kernel_rfl) (by kernel_rfl) ?_
  try simp only [pa, pn, pb, pc, pd]
  refine rl_take (some 61) (.tuple #[.agg #[.pointer (some ⟨a, 0, none⟩)], .bool true]) rfl (by kernel_rfl) (by kernel_rfl) ?_
  try simp only [pa, pn, pb, pc, pd]
  refine rl_take (some 59) (.tuple #[.agg #[.pointer (some ⟨a, 0, none⟩)], .bool true]) rfl (by kernel_rfl) (by kernel_rfl) ?_
  try simp only [pa, pn, pb, pc, pd]
  refine rl_take (some 62) (.agg #[.pointer (some ⟨a, 0, none⟩)]) rfl (by kernel_rfl) (by kernel_rfl) ?_
  try simp only [pa, pn, pb, pc, pd]
  refine rl_take (some 63) (.bool true) rfl (by kernel_rfl) (by kernel_rfl) ?_
  try simp only [pa, pn, pb, pc, pd]
  refine rl_alloc (some 8) 118 #[.pointer none] rfl (by kernel_rfl) (fun W => by kernel_rfl) fun p12 w12 hL12 hp12 hb12 => ?_
  replace hT := hT.later hL12
  replace hB := hB.later hL12
  replace nx := nx.later hL12
  replace ny := ny.later hL12
  have hz12 := hL12.size
  have hlt12 := hb12.lt
  try simp only [pa, pn, pb, pc, pd]
  refine rl_store p12 #[.pointer (some ⟨a, 0, none⟩)] rfl rfl (by kernel_rfl) rfl rfl (by kernel_rfl) hb12 rfl (by kernel_rfl) fun w13 hU13 hn13 => ?_
  have hz13 := hU13.size
  replace hT := hT.upd hU13 (by omega)
  replace hB := hB.upd hU13 (by omega)
  replace nx := nx.upd hU13 (by omega)
  replace ny := ny.upd hU13 (by omega)
  clear hb12
  have hb12 := hn13
  clear hn13
  try simp only [pa, pn, pb, pc, pd]
  refine rl_take (some 9) (.bool true) rfl (by kernel_rfl) (by kernel_rfl) ?_
  try simp only [pa, pn, pb, pc, pd]
  refine rl_nil ?_
  refine hgo.out _ _ ?_
  clear hgo hgK
  refine hKK11 _ _ ?_
  refine wp_seq_k fun KK14 hKK14 => ?_
  refine rl_begin fun hgK hgo => ?_
  refine rl_take (some 65) (.iface 111 (.pointer (some ⟨b, 0, none⟩))) rfl (by kernel_rfl) (by kernel_rfl) ?_
  try simp only [pa, pn, pb, pc, pd]
  refine rl_take (some 66) (.tuple #[.agg #[.pointer none], .bool false]) rfl (by kernel_rfl) (by kernel_rfl) ?_
  try simp only [pa, pn, pb, pc, pd]
  refine rl_take (some 64) (.tuple #[.agg #[.pointer none], .bool false]) rfl (by kernel_rfl) (by kernel_rfl) ?_
  try simp only [pa, pn, pb, pc, pd]
  refine rl_take (some 67) (.agg #[.pointer none]) rfl (by kernel_rfl) (by kernel_rfl) ?_
  try simp only [pa, pn, pb, pc, pd]
  refine rl_take (some 68) (.bool false) rfl (by kernel_rfl) (by kernel_rfl) ?_
  try simp only [pa, pn, pb, pc, pd]
  refine rl_alloc (some 10) 118 #[.pointer none] rfl (by kernel_rfl) (fun W => by kernel_rfl) fun p15 w15 hL15 hp15 hb15 => ?_
  replace hT := hT.later hL15
  replace hB := hB.later hL15
  replace nx := nx.later hL15
  replace ny := ny.later hL15
  replace hb12 := hb12.later hL15
  have hz15 := hL15.size
  have hlt15 := hb15.lt
  try simp only [pa, pn, pb, pc, pd]
  refine rl_store p15 #[.pointer none] rfl rfl (by kernel_rfl) rfl rfl (by kernel_rfl) hb15 rfl (by kernel_rfl) fun w16 hU16 hn16 => ?_
  have hz16 := hU16.size
  replace hT := hT.upd hU16 (by omega)
  replace hB := hB.upd hU16 (by omega)
  replace nx := nx.upd hU16 (by omega)
  replace ny := ny.upd hU16 (by omega)
  replace hb12 := hb12.upd hU16 (by omega)
  clear hb15
  have hb15 := hn16
  clear hn16
  try simp only [pa, pn, pb, pc, pd]
  refine rl_take (some 11) (.bool false) rfl (by kernel_rfl) (by kernel_rfl) ?_
  try simp only [pa, pn, pb, pc, pd]
  refine rl_nil ?_
  refine hgo.out _ _ ?_
  clear hgo hgK
  refine hKK14 _ _ ?_
  refine wp_seq_k fun KK17 hKK17 => ?_
  refine wp_seq_k fun KK18 hKK18 => ?_
  refine rl_begin fun hgK hgo => ?_
  refine rl_take (some 69) (.bool true) rfl (by kernel_rfl) (by kernel_rfl) ?_
  try simp only [pa, pn, pb, pc, pd]
  refine rl_take (some 70) (.bool true) rfl (by kernel_rfl) (by kernel_rfl) ?_
  try simp only [pa, pn, pb, pc, pd]
  refine rl_take (some 71) (.bool false) rfl (by kernel_rfl) (by kernel_rfl) ?_
  try simp only [pa, pn, pb, pc, pd]
  refine rl_take (some 72) (.bool false) rfl (by kernel_rfl) (by kernel_rfl) ?_
  try simp only [pa, pn, pb, pc, pd]
  refine rl_take (some 73) (.bool false) rfl (by kernel_rfl) (by kernel_rfl) ?_
  try simp only [pa, pn, pb, pc, pd]
  refine rl_pass (some 74) rfl (by kernel_rfl) ?_
  try simp only [pa, pn, pb, pc, pd]
  refine rl_pass (some 75) rfl (by kernel_rfl) ?_
  try simp only [pa, pn, pb, pc, pd]
  refine rl_pass (some 76) rfl (by kernel_rfl) ?_
  try simp only [pa, pn, pb, pc, pd]
  refine rl_pass (some 77) rfl (by kernel_rfl) ?_
  try simp only [pa, pn, pb, pc, pd]
  refine rl_pass (some 78) rfl (by kernel_rfl) ?_
  try simp only [pa, pn, pb, pc, pd]
  refine rl_pass (some 79) rfl (by kernel_rfl) ?_
  try simp only [pa, pn, pb, pc, pd]
  refine rl_take (some 80) (.bool false) rfl (by kernel_rfl) (by kernel_rfl) ?_
  try simp only [pa, pn, pb, pc, pd]
  refine rl_nil ?_
  refine hgo.out _ _ ?_
  clear hgo hgK
  refine hKK18 _ _ ?_
  refine wp_cond_false (by kernel_rfl) ?_
  refine wp_skip ?_
  refine hKK17 _ _ ?_
  refine wp_seq_k fun KK19 hKK19 => ?_
  refine rl_begin fun hgK hgo => ?_
  refine rl_take (some 94) (.iface 118 (.agg #[.pointer (some ⟨a, 0, none⟩)])) rfl (by kernel_rfl) (by kernel_rfl) ?_
  try simp only [pa, pn, pb, pc, pd]
  refine rl_take (some 95) (.iface 111 (.pointer (some ⟨b, 0, none⟩))) rfl (by kernel_rfl) (by kernel_rfl) ?_
  try simp only [pa, pn, pb, pc, pd]
  refine rl_call (some 96) 107 #[.iface 118 (.agg #[.pointer (some ⟨a, 0, none⟩)]), .iface 111 (.pointer (some ⟨b, 0, none⟩))] rfl (by kernel_rfl) (by kernel_rfl) (pair_any (Tr.tip l) (Tr.fork r s) _ _ _ hT nx.tree ny.tree (by omega) (by omega) (by omega)) ?_
  rintro e w20 ⟨v, rfl, hL20, hv⟩
  refine ⟨_, rfl, ?_⟩
  replace hT := hT.later hL20
  replace hB := hB.later hL20
  replace nx := nx.later hL20
  replace ny := ny.later hL20
  replace hb12 := hb12.later hL20
  replace hb15 := hb15.later hL20
  have hz20 := hL20.size
  try simp only [pa, pn, pb, pc, pd]
  refine rl_take (some 4) (v) rfl (by kernel_rfl) (by kernel_rfl) ?_
  try simp only [pa, pn, pb, pc, pd]
  refine rl_nil ?_
  refine hgo.out _ _ ?_
  clear hgo hgK
  refine hKK19 _ _ ?_
  refine wp_ret ?_
  try simp only [Exit.then, Exit.inBlock]
  refine bp_ret (v := v) (res1 rfl (res_tmp (by kernel_rfl))) ?_
  exact ⟨_, rfl, hB, .fork (Tr.tip l) (Tr.fork r s), hv, ⟨ox, oy, d1, d2⟩, rfl, (by show _ ≤ 1 + max _ _; omega), (by show 1 + max _ _ ≤ _; omega)⟩

theorem join_tt (n : Nat) : ∀ (x y : Tr) (vx vy : Value) (w : World), x.h + y.h ≤ n → Tabs w → Tree w x vx → Tree w y vy → x.ok → y.ok → x.bytes.length + y.bytes.length ≤ 200000000 →
    Calls Tryd.prog 83 #[vx, vy] w (JoinP x y vx vy w) := by
  induction n with
  | zero => intro x y vx vy w h; have := Tr.h_pos x; omega
  | succ n ih =>
    intro x y vx vy w h hT hx hy ox oy hm
    by_cases c1 : y.h + 2 ≤ x.h
    · cases x with
      | tip l => simp only [Tr.h] at c1; omega
      | fork p q =>
        rw [Tr.len_fork] at hm
        exact join_1 p q y vx vy w hT hx hy ox oy hm c1 fun vq w' hT' hq hy' => ih q y vq vy w' (by simp only [Tr.h] at h; omega) hT' hq hy' ox.2.1 oy (by omega)
    by_cases c2 : x.h + 2 ≤ y.h
    · cases y with
      | tip l => simp only [Tr.h] at c2; omega
      | fork p q =>
        rw [Tr.len_fork] at hm
        exact join_2 x p q vx vy w hT hx hy ox oy (by omega) c2 fun vp w' hT' hx' hp => ih x p vx vp w' (by simp only [Tr.h] at h; omega) hT' hx' hp ox oy.1 (by omega)
    cases x with
    | tip l =>
      cases y with
      | tip m => exact join_tips l m vx vy w hT hx hy ox oy hm
      | fork r s => exact join_tf l r s vx vy w hT hx hy ox oy hm (by omega) (by omega)
    | fork p q =>
      cases y with
      | tip m => exact join_ft p q m vx vy w hT hx hy ox oy hm (by omega) (by omega)
      | fork r s => exact join_ff p q r s vx vy w hT hx hy ox oy hm (by omega) (by omega)
def NodeP (l : List UInt8) (w : World) (e : Ending) (w' : World) : Prop := ∃ v, e = .returned v ∧ Ltr w w' ∧ Node w' l v
set_option maxRecDepth 100000 in
set_option maxHeartbeats 8000000 in
theorem join_any (l m : List UInt8) (vx vy : Value) (w : World) (hT : Tabs w) (hx : Node w l vx) (hy : Node w m vy) (hm : l.length + m.length ≤ 200000000) :
    Calls Tryd.prog 83 #[vx, vy] w (NodeP (l ++ m) w) := by
  have hB := Ltr.refl w
  rcases hx with ⟨rfl, rfl⟩ | ⟨x, ox, rfl, tx⟩
  · have hv := hy
    clear hy
    go_enter Tryd.func83, Tryd.ntmps83
    refine wp_seq_k fun KK1 hKK1 => ?_
    refine rl_begin fun hgK hgo => ?_
    refine rl_take (some 4) (.nilIface) rfl (by kernel_rfl) (by kernel_rfl) ?_
    try simp only [pa, pn, pb, pc, pd]
    refine rl_nil ?_
    refine hgo.out _ _ ?_
    clear hgo hgK
    refine hKK1 _ _ ?_
    refine wp_seq_k fun KK2 hKK2 => ?_
    refine wp_block ?_
    refine wp_seq_k fun KK3 hKK3 => ?_
    refine rl_begin fun hgK hgo => ?_
    refine rl_take (some 15) (.nilIface) rfl (by kernel_rfl) (by kernel_rfl) ?_
    try simp only [pa, pn, pb, pc, pd]
    refine rl_take (some 16) (.bool true) rfl (by kernel_rfl) (by kernel_rfl) ?_
    try simp only [pa, pn, pb, pc, pd]
    refine rl_take (some 14) (.bool true) rfl (by kernel_rfl) (by kernel_rfl) ?_
    try simp only [pa, pn, pb, pc, pd]
    refine rl_nil ?_
    refine hgo.out _ _ ?_
    clear hgo hgK
    refine hKK3 _ _ ?_
    refine wp_cond_true (by kernel_rfl) ?_
    refine wp_seq_k fun KK4 hKK4 => ?_
    refine rl_begin fun hgK hgo => ?_
    refine rl_take (some 17) (vy) rfl (by kernel_rfl) (by kernel_rfl) ?_
    try simp only [pa, pn, pb, pc, pd]
    refine rl_take (some 4) (vy) rfl (by kernel_rfl) (by kernel_rfl) ?_
    try simp only [pa, pn, pb, pc, pd]
    refine rl_nil ?_
    refine hgo.out _ _ ?_
    clear hgo hgK
    refine hKK4 _ _ ?_
    refine wp_ret ?_
    try simp only [Exit.then, Exit.inBlock]
    refine bp_ret (v := vy) (res1 rfl (res_tmp (by kernel_rfl))) ?_
    exact ⟨_, rfl, hB, by simpa using hv⟩
  · rcases hy with ⟨rfl, rfl⟩ | ⟨y, oy, rfl, ty⟩
    · obtain ⟨t1, z1, rfl⟩ := tx.iface
      go_enter Tryd.func83, Tryd.ntmps83
      refine wp_seq_k fun KK1 hKK1 => ?_
      refine rl_begin fun hgK hgo => ?_
      refine rl_take (some 4) (.nilIface) rfl (by kernel_rfl) (by kernel_rfl) ?_
      try simp only [pa, pn, pb, pc, pd]
      refine rl_nil ?_
      refine hgo.out _ _ ?_
      clear hgo hgK
      refine hKK1 _ _ ?_
      refine wp_seq_k fun KK2 hKK2 => ?_
      refine wp_block ?_
      refine wp_seq_k fun KK3 hKK3 => ?_
      refine rl_begin fun hgK hgo => ?_
      refine rl_take (some 15) (.iface t1 z1) rfl (by kernel_rfl) (by kernel_rfl) ?_
      try simp only [pa, pn, pb, pc, pd]
      refine rl_take (some 16) (.bool false) rfl (by kernel_rfl) (by kernel_rfl) ?_
      try simp only [pa, pn, pb, pc, pd]
      refine rl_take (some 14) (.bool false) rfl (by kernel_rfl) (by kernel_rfl) ?_
      try simp only [pa, pn, pb, pc, pd]
      refine rl_nil ?_
      refine hgo.out _ _ ?_
      clear hgo hgK
      refine hKK3 _ _ ?_
      refine wp_cond_false (by kernel_rfl) ?_
      refine wp_seq_k fun KK4 hKK4 => ?_
      refine rl_begin fun hgK hgo => ?_
      refine rl_take (some 19) (.nilIface) rfl (by kernel_rfl) (by kernel_rfl) ?_
      try simp only [pa, pn, pb, pc, pd]
      refine rl_take (some 20) (.bool true) rfl (by kernel_rfl) (by kernel_rfl) ?_
      try simp only [pa, pn, pb, pc, pd]
      refine rl_take (some 18) (.bool true) rfl (by kernel_rfl) (by kernel_rfl) ?_
      try simp only [pa, pn, pb, pc, pd]
      refine rl_nil ?_
      refine hgo.out _ _ ?_
      clear hgo hgK
      refine hKK4 _ _ ?_
      refine wp_cond_true (by kernel_rfl) ?_
      refine wp_seq_k fun KK5 hKK5 => ?_
      refine rl_begin fun hgK hgo => ?_
      refine rl_take (some 21) (.iface t1 z1) rfl (by kernel_rfl) (by kernel_rfl) ?_
      try simp only [pa, pn, pb, pc, pd]
      refine rl_take (some 4) (.iface t1 z1) rfl (by kernel_rfl) (by kernel_rfl) ?_
      try simp only [pa, pn, pb, pc, pd]
      refine rl_nil ?_
      refine hgo.out _ _ ?_
      clear hgo hgK
      refine hKK5 _ _ ?_
      refine wp_ret ?_
      try simp only [Exit.then, Exit.inBlock]
      refine bp_ret (v := .iface t1 z1) (res1 rfl (res_tmp (by kernel_rfl))) ?_
      exact ⟨_, rfl, hB, .inr ⟨x, ox, by simp, tx⟩⟩
    · refine (join_tt _ x y vx vy w (Nat.le_refl _) hT tx ty ox oy hm).mono ?_
      rintro e w' ⟨v, rfl, hL, t, h1, h2, h3, _⟩
      exact ⟨v, rfl, hL, .inr ⟨t, h2, h3, h1⟩⟩
end Go.Proofs.YtliphfgiaioebaaDoor
