/-
  Package rope: join of any two nodes.
  Slices of one-cell elements: cuts, indices, appends to a slice of the call's own.
  Package leaf: Cut.
  Package rope: grown, New.
-/
import Derived.Test.YtliphfgiaioebaaDoorB07
import Derived.Maps.AppendAt
import Derived.Laws.AppendOwnNone
namespace Go.Proofs.YtliphfgiaioebaaDoor
set_option linter.unusedVariables false
set_option linter.unusedSimpArgs false
open Go.RowKit

set_option maxRecDepth 100000 in
set_option maxHeartbeats 8000000 in
theorem join_ff (p q r s : Tr) (vx vy : Value) (w : World) (hT : Tabs w) (hx : Tree w (Tr.fork p q) vx) (hy : Tree w (Tr.fork r s) vy) (ox : ((Tr.fork p q)).ok) (oy : ((Tr.fork r s)).ok) (hm : ((Tr.fork p q)).bytes.length + ((Tr.fork r s)).bytes.length ≤ 200000000)
    (d1 : ((Tr.fork p q)).h ≤ ((Tr.fork r s)).h + 1) (d2 : ((Tr.fork r s)).h ≤ ((Tr.fork p q)).h + 1) :
    Calls Tryd.prog 83 #[vx, vy] w (JoinP (Tr.fork p q) (Tr.fork r s) vx vy w) := by
  have hB := Ltr.refl w
  obtain ⟨f1, x1, e1, c1⟩ := inv_height hx
  obtain ⟨f2, x2, e2, c2⟩ := inv_height hy
  have bx := Tr.h_le _ ox
  have by' := Tr.h_le _ oy
  have nx := hx.n
  have ny := hy.n
  obtain ⟨a, vp, vq, rfl, -, -, -⟩ := hx.fork_open
  obtain ⟨b, vr, vs, rfl, -, -, -⟩ := hy.fork_open
  clear hx hy
  go_enter Tryd.func83, Tryd.ntmps83
  have h4 := hT.four
  refine wp_seq_k fun KK1 hKK1 => rl_begin fun hgK hgo => tk 4 .nilIface ?_
  simp only [pp]
  refine rl_end hgo <| hKK1 _ _ <| wp_seq_k fun KK2 hKK2 => wp_block <| wp_seq_k fun KK3 hKK3 => rl_begin fun hgK hgo => tk 15 (.iface 111 (.pointer (some ⟨a, 0, none⟩))) <| tk 16 (.bool false) <| tk 14 (.bool false) ?_
  simp only [pp]
  refine rl_end hgo <| hKK3 _ _ <| wp_cond_false (by kernel_rfl) <| wp_seq_k fun KK4 hKK4 => rl_begin fun hgK hgo => tk 19 (.iface 111 (.pointer (some ⟨b, 0, none⟩))) <| tk 20 (.bool false) <| tk 18 (.bool false) ?_
  simp only [pp]
  refine rl_end hgo <| hKK4 _ _ <| wp_cond_false (by kernel_rfl) <| wp_skip <| hKK2 _ _ <| wp_seq_k fun KK5 hKK5 => wp_seq_k fun KK6 hKK6 => rl_begin fun hgK hgo => tk 22 (.iface 111 (.pointer (some ⟨a, 0, none⟩))) ?_
  simp only [pp]
  refine rl_call (some 23) f1 #[x1] rfl (by kernel_rfl) (by exact e1 _ _ _ _ rfl rfl) (c1 _ hB) ?_
  rintro e w7 ⟨rfl, hL7⟩
  refine ⟨_, rfl, ?_⟩
  have hz7 := hL7.size
  try simp only [pp]
  refine tk 24 (.iface 111 (.pointer (some ⟨b, 0, none⟩))) ?_
  simp only [pp]
  replace hB := hB.later hL7
  refine rl_call (some 25) f2 #[x2] rfl (by kernel_rfl) (by exact e2 _ _ _ _ rfl rfl) (c2 _ hB) ?_
  rintro e w8 ⟨rfl, hL8⟩
  refine ⟨_, rfl, ?_⟩
  have hz8 := hL8.size
  try simp only [pp]
  refine tx 26 (.int .i64 (((((Tr.fork p q)).h : Int) : Int) - (((Tr.fork r s)).h : Int))) (by exact ex_arith (e := ((((Tr.fork p q)).h : Int) : Int) - (((Tr.fork r s)).h : Int)) (r := ((((Tr.fork p q)).h : Int) : Int) - (((Tr.fork r s)).h : Int)) (by kernel_rfl) (by omega) (by omega)) <| tk 5 (.int .i64 (((((Tr.fork p q)).h : Int) : Int) - (((Tr.fork r s)).h : Int))) ?_
  simp only [pp]
  refine rl_end hgo <| hKK6 _ _ <| wp_block <| wp_seq_k fun KK9 hKK9 => rl_begin fun hgK hgo => tk 28 (.int .i64 (((((Tr.fork p q)).h : Int) : Int) - (((Tr.fork r s)).h : Int))) ?_
  simp only [pp]
  refine tx 29 (.bool false) (by exact ex_bool (c := ((((((Tr.fork p q)).h : Int) : Int) - (((Tr.fork r s)).h : Int)) : Int) > 1) (by kernel_rfl) ⟨fun q => (by cases q), fun q => absurd q (by omega)⟩) <| tk 27 (.bool false) ?_
  simp only [pp]
  refine rl_end hgo <| hKK9 _ _ <| wp_cond_false (by kernel_rfl) <| wp_seq_k fun KK10 hKK10 => rl_begin fun hgK hgo => tk 44 (.int .i64 (((((Tr.fork p q)).h : Int) : Int) - (((Tr.fork r s)).h : Int))) ?_
  simp only [pp]
  refine tx 45 (.bool false) (by exact ex_bool (c := ((((((Tr.fork p q)).h : Int) : Int) - (((Tr.fork r s)).h : Int)) : Int) < (-1)) (by kernel_rfl) ⟨fun q => (by cases q), fun q => absurd q (by omega)⟩) <| tk 43 (.bool false) ?_
  simp only [pp]
  refine rl_end hgo <| hKK10 _ _ <| wp_cond_false (by kernel_rfl) <| wp_skip <| hKK5 _ _ <| wp_seq_k fun KK11 hKK11 => rl_begin fun hgK hgo => tk 60 (.iface 111 (.pointer (some ⟨a, 0, none⟩))) <| tk 61 (.tuple #[.agg #[.pointer none], .bool false]) <| tk 59 (.tuple #[.agg #[.pointer none], .bool false]) <| tk 62 (.agg #[.pointer none]) <| tk 63 (.bool false) ?_
  simp only [pp]
  refine rl_alloc (some 8) 118 #[.pointer none] rfl (by kernel_rfl) (fun W => by kernel_rfl) fun p12 w12 hL12 hp12 hb12 => ?_
  have hz12 := hL12.size
  have hlt12 := hb12.lt
  try simp only [pp]
  refine rl_store p12 #[.pointer none] rfl rfl (by kernel_rfl) rfl rfl (by kernel_rfl) hb12 rfl (by kernel_rfl) fun w13 hU13 hn13 => ?_
  have hz13 := hU13.size
  replace hT := ((hT.later hL7).later hL8).later hL12
  replace hT := hT.upd hU13 (by omega)
  replace hB := (hB.later hL8).later hL12
  replace hB := hB.upd hU13 (by omega)
  replace nx := ((nx.later hL7).later hL8).later hL12
  replace nx := nx.upd hU13 (by omega)
  replace ny := ((ny.later hL7).later hL8).later hL12
  replace ny := ny.upd hU13 (by omega)
  clear hb12
  have hb12 := hn13
  clear hn13
  try simp only [pp]
  refine tk 9 (.bool false) ?_
  simp only [pp]
  refine rl_end hgo <| hKK11 _ _ <| wp_seq_k fun KK14 hKK14 => rl_begin fun hgK hgo => tk 65 (.iface 111 (.pointer (some ⟨b, 0, none⟩))) <| tk 66 (.tuple #[.agg #[.pointer none], .bool false]) <| tk 64 (.tuple #[.agg #[.pointer none], .bool false]) <| tk 67 (.agg #[.pointer none]) <| tk 68 (.bool false) ?_
  simp only [pp]
  refine rl_alloc (some 10) 118 #[.pointer none] rfl (by kernel_rfl) (fun W => by kernel_rfl) fun p15 w15 hL15 hp15 hb15 => ?_
  have hz15 := hL15.size
  have hlt15 := hb15.lt
  try simp only [pp]
  refine rl_store p15 #[.pointer none] rfl rfl (by kernel_rfl) rfl rfl (by kernel_rfl) hb15 rfl (by kernel_rfl) fun w16 hU16 hn16 => ?_
  have hz16 := hU16.size
  replace hT := hT.later hL15
  replace hT := hT.upd hU16 (by omega)
  replace hB := hB.later hL15
  replace hB := hB.upd hU16 (by omega)
  replace nx := nx.later hL15
  replace nx := nx.upd hU16 (by omega)
  replace ny := ny.later hL15
  replace ny := ny.upd hU16 (by omega)
  replace hb12 := hb12.later hL15
  replace hb12 := hb12.upd hU16 (by omega)
  clear hb15
  have hb15 := hn16
  clear hn16
  try simp only [pp]
  refine tk 11 (.bool false) ?_
  simp only [pp]
  refine rl_end hgo <| hKK14 _ _ <| wp_seq_k fun KK17 hKK17 => wp_seq_k fun KK18 hKK18 => rl_begin fun hgK hgo => tk 69 (.bool false) <| tk 70 (.bool false) ?_
  simp only [pp]
  refine rl_pass (some 71) rfl (by kernel_rfl) ?_
  try simp only [pp]
  refine tk 72 (.bool false) <| tk 73 (.bool false) ?_
  simp only [pp]
  refine rl_pass (some 74) rfl (by kernel_rfl) ?_
  try simp only [pp]
  refine rl_pass (some 75) rfl (by kernel_rfl) ?_
  try simp only [pp]
  refine rl_pass (some 76) rfl (by kernel_rfl) ?_
  try simp only [pp]
  refine rl_pass (some 77) rfl (by kernel_rfl) ?_
  try simp only [pp]
  refine rl_pass (some 78) rfl (by kernel_rfl) ?_
  try simp only [pp]
  refine rl_pass (some 79) rfl (by kernel_rfl) ?_
  try simp only [pp]
  refine tk 80 (.bool false) ?_
  simp only [pp]
  refine rl_end hgo <| hKK18 _ _ <| wp_cond_false (by kernel_rfl) <| wp_skip <| hKK17 _ _ <| wp_seq_k fun KK19 hKK19 => rl_begin fun hgK hgo => tk 94 (.iface 111 (.pointer (some ⟨a, 0, none⟩))) <| tk 95 (.iface 111 (.pointer (some ⟨b, 0, none⟩))) ?_
  simp only [pp]
  refine rl_call (some 96) 107 #[.iface 111 (.pointer (some ⟨a, 0, none⟩)), .iface 111 (.pointer (some ⟨b, 0, none⟩))] rfl (by kernel_rfl) (by kernel_rfl) (pair_any (Tr.fork p q) (Tr.fork r s) _ _ _ hT nx.tree ny.tree (by omega) (by omega) (by omega)) ?_
  rintro e w20 ⟨v, rfl, hL20, hv⟩
  refine ⟨_, rfl, ?_⟩
  have hz20 := hL20.size
  try simp only [pp]
  refine tk 4 v ?_
  simp only [pp]
  refine rl_end hgo <| hKK19 _ _ ?_
  refine wp_ret ?_
  try simp only [Exit.then, Exit.inBlock]
  refine bp_ret (v := v) (res1 rfl (res_tmp (by kernel_rfl))) ?_
  replace hB := hB.later hL20
  exact ⟨_, rfl, hB, .fork (Tr.fork p q) (Tr.fork r s), hv, ⟨ox, oy, d1, d2⟩, rfl, (by show _ ≤ 1 + max _ _; omega), (by show 1 + max _ _ ≤ _; omega)⟩
set_option maxRecDepth 100000 in
set_option maxHeartbeats 8000000 in
theorem join_ft (p q : Tr) (m : List UInt8) (vx vy : Value) (w : World) (hT : Tabs w) (hx : Tree w (Tr.fork p q) vx) (hy : Tree w (Tr.tip m) vy) (ox : ((Tr.fork p q)).ok) (oy : ((Tr.tip m)).ok) (hm : ((Tr.fork p q)).bytes.length + ((Tr.tip m)).bytes.length ≤ 200000000)
    (d1 : ((Tr.fork p q)).h ≤ ((Tr.tip m)).h + 1) (d2 : ((Tr.tip m)).h ≤ ((Tr.fork p q)).h + 1) :
    Calls Tryd.prog 83 #[vx, vy] w (JoinP (Tr.fork p q) (Tr.tip m) vx vy w) := by
  have hB := Ltr.refl w
  obtain ⟨f1, x1, e1, c1⟩ := inv_height hx
  obtain ⟨f2, x2, e2, c2⟩ := inv_height hy
  have bx := Tr.h_le _ ox
  have by' := Tr.h_le _ oy
  have nx := hx.n
  have ny := hy.n
  obtain ⟨a, vp, vq, rfl, -, -, -⟩ := hx.fork_open
  obtain ⟨b, rfl, -⟩ := hy.tip_open
  clear hx hy
  go_enter Tryd.func83, Tryd.ntmps83
  have h4 := hT.four
  refine wp_seq_k fun KK1 hKK1 => rl_begin fun hgK hgo => tk 4 .nilIface ?_
  simp only [pp]
  refine rl_end hgo <| hKK1 _ _ <| wp_seq_k fun KK2 hKK2 => wp_block <| wp_seq_k fun KK3 hKK3 => rl_begin fun hgK hgo => tk 15 (.iface 111 (.pointer (some ⟨a, 0, none⟩))) <| tk 16 (.bool false) <| tk 14 (.bool false) ?_
  simp only [pp]
  refine rl_end hgo <| hKK3 _ _ <| wp_cond_false (by kernel_rfl) <| wp_seq_k fun KK4 hKK4 => rl_begin fun hgK hgo => tk 19 (.iface 118 (.agg #[.pointer (some ⟨b, 0, none⟩)])) <| tk 20 (.bool false) <| tk 18 (.bool false) ?_
  simp only [pp]
  refine rl_end hgo <| hKK4 _ _ <| wp_cond_false (by kernel_rfl) <| wp_skip <| hKK2 _ _ <| wp_seq_k fun KK5 hKK5 => wp_seq_k fun KK6 hKK6 => rl_begin fun hgK hgo => tk 22 (.iface 111 (.pointer (some ⟨a, 0, none⟩))) ?_
  simp only [pp]
  refine rl_call (some 23) f1 #[x1] rfl (by kernel_rfl) (by exact e1 _ _ _ _ rfl rfl) (c1 _ hB) ?_
  rintro e w7 ⟨rfl, hL7⟩
  refine ⟨_, rfl, ?_⟩
  have hz7 := hL7.size
  try simp only [pp]
  refine tk 24 (.iface 118 (.agg #[.pointer (some ⟨b, 0, none⟩)])) ?_
  simp only [pp]
  replace hB := hB.later hL7
  refine rl_call (some 25) f2 #[x2] rfl (by kernel_rfl) (by exact e2 _ _ _ _ rfl rfl) (c2 _ hB) ?_
  rintro e w8 ⟨rfl, hL8⟩
  refine ⟨_, rfl, ?_⟩
  have hz8 := hL8.size
  try simp only [pp]
  refine tx 26 (.int .i64 (((((Tr.fork p q)).h : Int) : Int) - (((Tr.tip m)).h : Int))) (by exact ex_arith (e := ((((Tr.fork p q)).h : Int) : Int) - (((Tr.tip m)).h : Int)) (r := ((((Tr.fork p q)).h : Int) : Int) - (((Tr.tip m)).h : Int)) (by kernel_rfl) (by omega) (by omega)) <| tk 5 (.int .i64 (((((Tr.fork p q)).h : Int) : Int) - (((Tr.tip m)).h : Int))) ?_
  simp only [pp]
  refine rl_end hgo <| hKK6 _ _ <| wp_block <| wp_seq_k fun KK9 hKK9 => rl_begin fun hgK hgo => tk 28 (.int .i64 (((((Tr.fork p q)).h : Int) : Int) - (((Tr.tip m)).h : Int))) ?_
  simp only [pp]
  refine tx 29 (.bool false) (by exact ex_bool (c := ((((((Tr.fork p q)).h : Int) : Int) - (((Tr.tip m)).h : Int)) : Int) > 1) (by kernel_rfl) ⟨fun q => (by cases q), fun q => absurd q (by omega)⟩) <| tk 27 (.bool false) ?_
  simp only [pp]
  refine rl_end hgo <| hKK9 _ _ <| wp_cond_false (by kernel_rfl) <| wp_seq_k fun KK10 hKK10 => rl_begin fun hgK hgo => tk 44 (.int .i64 (((((Tr.fork p q)).h : Int) : Int) - (((Tr.tip m)).h : Int))) ?_
  simp only [pp]
  refine tx 45 (.bool false) (by exact ex_bool (c := ((((((Tr.fork p q)).h : Int) : Int) - (((Tr.tip m)).h : Int)) : Int) < (-1)) (by kernel_rfl) ⟨fun q => (by cases q), fun q => absurd q (by omega)⟩) <| tk 43 (.bool false) ?_
  simp only [pp]
  refine rl_end hgo <| hKK10 _ _ <| wp_cond_false (by kernel_rfl) <| wp_skip <| hKK5 _ _ <| wp_seq_k fun KK11 hKK11 => rl_begin fun hgK hgo => tk 60 (.iface 111 (.pointer (some ⟨a, 0, none⟩))) <| tk 61 (.tuple #[.agg #[.pointer none], .bool false]) <| tk 59 (.tuple #[.agg #[.pointer none], .bool false]) <| tk 62 (.agg #[.pointer none]) <| tk 63 (.bool false) ?_
  simp only [pp]
  refine rl_alloc (some 8) 118 #[.pointer none] rfl (by kernel_rfl) (fun W => by kernel_rfl) fun p12 w12 hL12 hp12 hb12 => ?_
  have hz12 := hL12.size
  have hlt12 := hb12.lt
  try simp only [pp]
  refine rl_store p12 #[.pointer none] rfl rfl (by kernel_rfl) rfl rfl (by kernel_rfl) hb12 rfl (by kernel_rfl) fun w13 hU13 hn13 => ?_
  have hz13 := hU13.size
  replace hT := ((hT.later hL7).later hL8).later hL12
  replace hT := hT.upd hU13 (by omega)
  replace hB := (hB.later hL8).later hL12
  replace hB := hB.upd hU13 (by omega)
  replace nx := ((nx.later hL7).later hL8).later hL12
  replace nx := nx.upd hU13 (by omega)
  replace ny := ((ny.later hL7).later hL8).later hL12
  replace ny := ny.upd hU13 (by omega)
  clear hb12
  have hb12 := hn13
  clear hn13
  try simp only [pp]
  refine tk 9 (.bool false) ?_
  simp only [pp]
  refine rl_end hgo <| hKK11 _ _ <| wp_seq_k fun KK14 hKK14 => rl_begin fun hgK hgo => tk 65 (.iface 118 (.agg #[.pointer (some ⟨b, 0, none⟩)])) <| tk 66 (.tuple #[.agg #[.pointer (some ⟨b, 0, none⟩)], .bool true]) <| tk 64 (.tuple #[.agg #[.pointer (some ⟨b, 0, none⟩)], .bool true]) <| tk 67 (.agg #[.pointer (some ⟨b, 0, none⟩)]) <| tk 68 (.bool true) ?_
  simp only [pp]
  refine rl_alloc (some 10) 118 #[.pointer none] rfl (by kernel_rfl) (fun W => by kernel_rfl) fun p15 w15 hL15 hp15 hb15 => ?_
  have hz15 := hL15.size
  have hlt15 := hb15.lt
  try simp only [pp]
  refine rl_store p15 #[.pointer (some ⟨b, 0, none⟩)] rfl rfl (by kernel_rfl) rfl rfl (by kernel_rfl) hb15 rfl (by kernel_rfl) fun w16 hU16 hn16 => ?_
  have hz16 := hU16.size
  replace hT := hT.later hL15
  replace hT := hT.upd hU16 (by omega)
  replace hB := hB.later hL15
  replace hB := hB.upd hU16 (by omega)
  replace nx := nx.later hL15
  replace nx := nx.upd hU16 (by omega)
  replace ny := ny.later hL15
  replace ny := ny.upd hU16 (by omega)
  replace hb12 := hb12.later hL15
  replace hb12 := hb12.upd hU16 (by omega)
  clear hb15
  have hb15 := hn16
  clear hn16
  try simp only [pp]
  refine tk 11 (.bool true) ?_
  simp only [pp]
  refine rl_end hgo <| hKK14 _ _ <| wp_seq_k fun KK17 hKK17 => wp_seq_k fun KK18 hKK18 => rl_begin fun hgK hgo => tk 69 (.bool false) <| tk 70 (.bool false) ?_
  simp only [pp]
  refine rl_pass (some 71) rfl (by kernel_rfl) ?_
  try simp only [pp]
  refine tk 72 (.bool false) <| tk 73 (.bool false) ?_
  simp only [pp]
  refine rl_pass (some 74) rfl (by kernel_rfl) ?_
  try simp only [pp]
  refine rl_pass (some 75) rfl (by kernel_rfl) ?_
  try simp only [pp]
  refine rl_pass (some 76) rfl (by kernel_rfl) ?_
  try simp only [pp]
  refine rl_pass (some 77) rfl (by kernel_rfl) ?_
  try simp only [pp]
  refine rl_pass (some 78) rfl (by kernel_rfl) ?_
  try simp only [pp]
  refine rl_pass (some 79) rfl (by kernel_rfl) ?_
  try simp only [pp]
  refine tk 80 (.bool false) ?_
  simp only [pp]
  refine rl_end hgo <| hKK18 _ _ <| wp_cond_false (by kernel_rfl) <| wp_skip <| hKK17 _ _ <| wp_seq_k fun KK19 hKK19 => rl_begin fun hgK hgo => tk 94 (.iface 111 (.pointer (some ⟨a, 0, none⟩))) <| tk 95 (.iface 118 (.agg #[.pointer (some ⟨b, 0, none⟩)])) ?_
  simp only [pp]
  refine rl_call (some 96) 107 #[.iface 111 (.pointer (some ⟨a, 0, none⟩)), .iface 118 (.agg #[.pointer (some ⟨b, 0, none⟩)])] rfl (by kernel_rfl) (by kernel_rfl) (pair_any (Tr.fork p q) (Tr.tip m) _ _ _ hT nx.tree ny.tree (by omega) (by omega) (by omega)) ?_
  rintro e w20 ⟨v, rfl, hL20, hv⟩
  refine ⟨_, rfl, ?_⟩
  have hz20 := hL20.size
  try simp only [pp]
  refine tk 4 v ?_
  simp only [pp]
  refine rl_end hgo <| hKK19 _ _ ?_
  refine wp_ret ?_
  try simp only [Exit.then, Exit.inBlock]
  refine bp_ret (v := v) (res1 rfl (res_tmp (by kernel_rfl))) ?_
  replace hB := hB.later hL20
  exact ⟨_, rfl, hB, .fork (Tr.fork p q) (Tr.tip m), hv, ⟨ox, oy, d1, d2⟩, rfl, (by show _ ≤ 1 + max _ _; omega), (by show 1 + max _ _ ≤ _; omega)⟩
set_option maxRecDepth 100000 in
set_option maxHeartbeats 8000000 in
theorem join_tf (l : List UInt8) (r s : Tr) (vx vy : Value) (w : World) (hT : Tabs w) (hx : Tree w (Tr.tip l) vx) (hy : Tree w (Tr.fork r s) vy) (ox : ((Tr.tip l)).ok) (oy : ((Tr.fork r s)).ok) (hm : ((Tr.tip l)).bytes.length + ((Tr.fork r s)).bytes.length ≤ 200000000)
    (d1 : ((Tr.tip l)).h ≤ ((Tr.fork r s)).h + 1) (d2 : ((Tr.fork r s)).h ≤ ((Tr.tip l)).h + 1) :
    Calls Tryd.prog 83 #[vx, vy] w (JoinP (Tr.tip l) (Tr.fork r s) vx vy w) := by
  have hB := Ltr.refl w
  obtain ⟨f1, x1, e1, c1⟩ := inv_height hx
  obtain ⟨f2, x2, e2, c2⟩ := inv_height hy
  have bx := Tr.h_le _ ox
  have by' := Tr.h_le _ oy
  have nx := hx.n
  have ny := hy.n
  obtain ⟨a, rfl, -⟩ := hx.tip_open
  obtain ⟨b, vr, vs, rfl, -, -, -⟩ := hy.fork_open
  clear hx hy
  go_enter Tryd.func83, Tryd.ntmps83
  have h4 := hT.four
  refine wp_seq_k fun KK1 hKK1 => rl_begin fun hgK hgo => tk 4 .nilIface ?_
  simp only [pp]
  refine rl_end hgo <| hKK1 _ _ <| wp_seq_k fun KK2 hKK2 => wp_block <| wp_seq_k fun KK3 hKK3 => rl_begin fun hgK hgo => tk 15 (.iface 118 (.agg #[.pointer (some ⟨a, 0, none⟩)])) <| tk 16 (.bool false) <| tk 14 (.bool false) ?_
  simp only [pp]
  refine rl_end hgo <| hKK3 _ _ <| wp_cond_false (by kernel_rfl) <| wp_seq_k fun KK4 hKK4 => rl_begin fun hgK hgo => tk 19 (.iface 111 (.pointer (some ⟨b, 0, none⟩))) <| tk 20 (.bool false) <| tk 18 (.bool false) ?_
  simp only [pp]
  refine rl_end hgo <| hKK4 _ _ <| wp_cond_false (by kernel_rfl) <| wp_skip <| hKK2 _ _ <| wp_seq_k fun KK5 hKK5 => wp_seq_k fun KK6 hKK6 => rl_begin fun hgK hgo => tk 22 (.iface 118 (.agg #[.pointer (some ⟨a, 0, none⟩)])) ?_
  simp only [pp]
  refine rl_call (some 23) f1 #[x1] rfl (by kernel_rfl) (by exact e1 _ _ _ _ rfl rfl) (c1 _ hB) ?_
  rintro e w7 ⟨rfl, hL7⟩
  refine ⟨_, rfl, ?_⟩
  have hz7 := hL7.size
  try simp only [pp]
  refine tk 24 (.iface 111 (.pointer (some ⟨b, 0, none⟩))) ?_
  simp only [pp]
  replace hB := hB.later hL7
  refine rl_call (some 25) f2 #[x2] rfl (by kernel_rfl) (by exact e2 _ _ _ _ rfl rfl) (c2 _ hB) ?_
  rintro e w8 ⟨rfl, hL8⟩
  refine ⟨_, rfl, ?_⟩
  have hz8 := hL8.size
  try simp only [pp]
  refine tx 26 (.int .i64 (((((Tr.tip l)).h : Int) : Int) - (((Tr.fork r s)).h : Int))) (by exact ex_arith (e := ((((Tr.tip l)).h : Int) : Int) - (((Tr.fork r s)).h : Int)) (r := ((((Tr.tip l)).h : Int) : Int) - (((Tr.fork r s)).h : Int)) (by kernel_rfl) (by omega) (by omega)) <| tk 5 (.int .i64 (((((Tr.tip l)).h : Int) : Int) - (((Tr.fork r s)).h : Int))) ?_
  simp only [pp]
  refine rl_end hgo <| hKK6 _ _ <| wp_block <| wp_seq_k fun KK9 hKK9 => rl_begin fun hgK hgo => tk 28 (.int .i64 (((((Tr.tip l)).h : Int) : Int) - (((Tr.fork r s)).h : Int))) ?_
  simp only [pp]
  refine tx 29 (.bool false) (by exact ex_bool (c := ((((((Tr.tip l)).h : Int) : Int) - (((Tr.fork r s)).h : Int)) : Int) > 1) (by kernel_rfl) ⟨fun q => (by cases q), fun q => absurd q (by omega)⟩) <| tk 27 (.bool false) ?_
  simp only [pp]
  refine rl_end hgo <| hKK9 _ _ <| wp_cond_false (by kernel_rfl) <| wp_seq_k fun KK10 hKK10 => rl_begin fun hgK hgo => tk 44 (.int .i64 (((((Tr.tip l)).h : Int) : Int) - (((Tr.fork r s)).h : Int))) ?_
  simp only [pp]
  refine tx 45 (.bool false) (by exact ex_bool (c := ((((((Tr.tip l)).h : Int) : Int) - (((Tr.fork r s)).h : Int)) : Int) < (-1)) (by kernel_rfl) ⟨fun q => (by cases q), fun q => absurd q (by omega)⟩) <| tk 43 (.bool false) ?_
  simp only [pp]
  refine rl_end hgo <| hKK10 _ _ <| wp_cond_false (by kernel_rfl) <| wp_skip <| hKK5 _ _ <| wp_seq_k fun KK11 hKK11 => rl_begin fun hgK hgo => tk 60 (.iface 118 (.agg #[.pointer (some ⟨a, 0, none⟩)])) <| tk 61 (.tuple #[.agg #[.pointer (some ⟨a, 0, none⟩)], .bool true]) <| tk 59 (.tuple #[.agg #[.pointer (some ⟨a, 0, none⟩)], .bool true]) <| tk 62 (.agg #[.pointer (some ⟨a, 0, none⟩)]) <| tk 63 (.bool true) ?_
  simp only [pp]
  refine rl_alloc (some 8) 118 #[.pointer none] rfl (by kernel_rfl) (fun W => by kernel_rfl) fun p12 w12 hL12 hp12 hb12 => ?_
  have hz12 := hL12.size
  have hlt12 := hb12.lt
  try simp only [pp]
  refine rl_store p12 #[.pointer (some ⟨a, 0, none⟩)] rfl rfl (by kernel_rfl) rfl rfl (by kernel_rfl) hb12 rfl (by kernel_rfl) fun w13 hU13 hn13 => ?_
  have hz13 := hU13.size
  replace hT := ((hT.later hL7).later hL8).later hL12
  replace hT := hT.upd hU13 (by omega)
  replace hB := (hB.later hL8).later hL12
  replace hB := hB.upd hU13 (by omega)
  replace nx := ((nx.later hL7).later hL8).later hL12
  replace nx := nx.upd hU13 (by omega)
  replace ny := ((ny.later hL7).later hL8).later hL12
  replace ny := ny.upd hU13 (by omega)
  clear hb12
  have hb12 := hn13
  clear hn13
  try simp only [pp]
  refine tk 9 (.bool true) ?_
  simp only [pp]
  refine rl_end hgo <| hKK11 _ _ <| wp_seq_k fun KK14 hKK14 => rl_begin fun hgK hgo => tk 65 (.iface 111 (.pointer (some ⟨b, 0, none⟩))) <| tk 66 (.tuple #[.agg #[.pointer none], .bool false]) <| tk 64 (.tuple #[.agg #[.pointer none], .bool false]) <| tk 67 (.agg #[.pointer none]) <| tk 68 (.bool false) ?_
  simp only [pp]
  refine rl_alloc (some 10) 118 #[.pointer none] rfl (by kernel_rfl) (fun W => by kernel_rfl) fun p15 w15 hL15 hp15 hb15 => ?_
  have hz15 := hL15.size
  have hlt15 := hb15.lt
  try simp only [pp]
  refine rl_store p15 #[.pointer none] rfl rfl (by kernel_rfl) rfl rfl (by kernel_rfl) hb15 rfl (by kernel_rfl) fun w16 hU16 hn16 => ?_
  have hz16 := hU16.size
  replace hT := hT.later hL15
  replace hT := hT.upd hU16 (by omega)
  replace hB := hB.later hL15
  replace hB := hB.upd hU16 (by omega)
  replace nx := nx.later hL15
  replace nx := nx.upd hU16 (by omega)
  replace ny := ny.later hL15
  replace ny := ny.upd hU16 (by omega)
  replace hb12 := hb12.later hL15
  replace hb12 := hb12.upd hU16 (by omega)
  clear hb15
  have hb15 := hn16
  clear hn16
  try simp only [pp]
  refine tk 11 (.bool false) ?_
  simp only [pp]
  refine rl_end hgo <| hKK14 _ _ <| wp_seq_k fun KK17 hKK17 => wp_seq_k fun KK18 hKK18 => rl_begin fun hgK hgo => tk 69 (.bool true) <| tk 70 (.bool true) <| tk 71 (.bool false) <| tk 72 (.bool false) <| tk 73 (.bool false) ?_
  simp only [pp]
  refine rl_pass (some 74) rfl (by kernel_rfl) ?_
  try simp only [pp]
  refine rl_pass (some 75) rfl (by kernel_rfl) ?_
  try simp only [pp]
  refine rl_pass (some 76) rfl (by kernel_rfl) ?_
  try simp only [pp]
  refine rl_pass (some 77) rfl (by kernel_rfl) ?_
  try simp only [pp]
  refine rl_pass (some 78) rfl (by kernel_rfl) ?_
  try simp only [pp]
  refine rl_pass (some 79) rfl (by kernel_rfl) ?_
  try simp only [pp]
  refine tk 80 (.bool false) ?_
  simp only [pp]
  refine rl_end hgo <| hKK18 _ _ <| wp_cond_false (by kernel_rfl) <| wp_skip <| hKK17 _ _ <| wp_seq_k fun KK19 hKK19 => rl_begin fun hgK hgo => tk 94 (.iface 118 (.agg #[.pointer (some ⟨a, 0, none⟩)])) <| tk 95 (.iface 111 (.pointer (some ⟨b, 0, none⟩))) ?_
  simp only [pp]
  refine rl_call (some 96) 107 #[.iface 118 (.agg #[.pointer (some ⟨a, 0, none⟩)]), .iface 111 (.pointer (some ⟨b, 0, none⟩))] rfl (by kernel_rfl) (by kernel_rfl) (pair_any (Tr.tip l) (Tr.fork r s) _ _ _ hT nx.tree ny.tree (by omega) (by omega) (by omega)) ?_
  rintro e w20 ⟨v, rfl, hL20, hv⟩
  refine ⟨_, rfl, ?_⟩
  have hz20 := hL20.size
  try simp only [pp]
  refine tk 4 v ?_
  simp only [pp]
  refine rl_end hgo <| hKK19 _ _ ?_
  refine wp_ret ?_
  try simp only [Exit.then, Exit.inBlock]
  refine bp_ret (v := v) (res1 rfl (res_tmp (by kernel_rfl))) ?_
  replace hB := hB.later hL20
  exact ⟨_, rfl, hB, .fork (Tr.tip l) (Tr.fork r s), hv, ⟨ox, oy, d1, d2⟩, rfl, (by show _ ≤ 1 + max _ _; omega), (by show 1 + max _ _ ≤ _; omega)⟩

theorem join_tt (n : Nat) : ∀ (x y : Tr) (vx vy : Value) (w : World), x.h + y.h ≤ n → Tabs w → Tree w x vx → Tree w y vy → x.ok → y.ok → x.bytes.length + y.bytes.length ≤ 200000000 →
    Calls Tryd.prog 83 #[vx, vy] w (JoinP x y vx vy w) := by
  induction n with
  | zero => intro x y vx vy w h; have := Tr.h_pos x; omega
  | succ n ih =>
    intro x y vx vy w h hT hx hy ox oy hm
    by_cases c1 : y.h + 2 ≤ x.h
    · cases x with
      | tip l => simp only [Tr.h] at c1; omega
      | fork p q =>
        rw [Tr.len_fork] at hm
        exact join_1 p q y vx vy w hT hx hy ox oy hm c1 fun vq w' hT' hq hy' => ih q y vq vy w' (by simp only [Tr.h] at h; omega) hT' hq hy' ox.2.1 oy (by omega)
    by_cases c2 : x.h + 2 ≤ y.h
    · cases y with
      | tip l => simp only [Tr.h] at c2; omega
      | fork p q =>
        rw [Tr.len_fork] at hm
        exact join_2 x p q vx vy w hT hx hy ox oy (by omega) c2 fun vp w' hT' hx' hp => ih x p vx vp w' (by simp only [Tr.h] at h; omega) hT' hx' hp ox oy.1 (by omega)
    cases x with
    | tip l =>
      cases y with
      | tip m => exact join_tips l m vx vy w hT hx hy ox oy hm
      | fork r s => exact join_tf l r s vx vy w hT hx hy ox oy hm (by omega) (by omega)
    | fork p q =>
      cases y with
      | tip m => exact join_ft p q m vx vy w hT hx hy ox oy hm (by omega) (by omega)
      | fork r s => exact join_ff p q r s vx vy w hT hx hy ox oy hm (by omega) (by omega)
def NodeP (l : List UInt8) (w : World) (e : Ending) (w' : World) : Prop := ∃ v, e = .returned v ∧ Ltr w w' ∧ Node w' l v
set_option maxRecDepth 100000 in
set_option maxHeartbeats 8000000 in
theorem join_any (l m : List UInt8) (vx vy : Value) (w : World) (hT : Tabs w) (hx : Node w l vx) (hy : Node w m vy) (hm : l.length + m.length ≤ 200000000) :
    Calls Tryd.prog 83 #[vx, vy] w (NodeP (l ++ m) w) := by
  have hB := Ltr.refl w
  rcases hx with ⟨rfl, rfl⟩ | ⟨x, ox, rfl, tx⟩
  · have hv := hy
    clear hy
    go_enter Tryd.func83, Tryd.ntmps83
    refine wp_seq_k fun KK1 hKK1 => rl_begin fun hgK hgo => tk 4 .nilIface ?_
    simp only [pp]
    refine rl_end hgo <| hKK1 _ _ <| wp_seq_k fun KK2 hKK2 => wp_block <| wp_seq_k fun KK3 hKK3 => rl_begin fun hgK hgo => tk 15 .nilIface <| tk 16 (.bool true) <| tk 14 (.bool true) ?_
    simp only [pp]
    refine rl_end hgo <| hKK3 _ _ <| wp_cond_true (by kernel_rfl) <| wp_seq_k fun KK4 hKK4 => rl_begin fun hgK hgo => tk 17 vy <| tk 4 vy ?_
    simp only [pp]
    refine rl_end hgo <| hKK4 _ _ ?_
    refine wp_ret ?_
    try simp only [Exit.then, Exit.inBlock]
    refine bp_ret (v := vy) (res1 rfl (res_tmp (by kernel_rfl))) ?_
    exact ⟨_, rfl, hB, by simpa using hv⟩
  · rcases hy with ⟨rfl, rfl⟩ | ⟨y, oy, rfl, ty⟩
    · obtain ⟨t1, z1, rfl⟩ := tx.iface
      go_enter Tryd.func83, Tryd.ntmps83
      refine wp_seq_k fun KK1 hKK1 => rl_begin fun hgK hgo => tk 4 .nilIface ?_
      simp only [pp]
      refine rl_end hgo <| hKK1 _ _ <| wp_seq_k fun KK2 hKK2 => wp_block <| wp_seq_k fun KK3 hKK3 => rl_begin fun hgK hgo => tk 15 (.iface t1 z1) <| tk 16 (.bool false) <| tk 14 (.bool false) ?_
      simp only [pp]
      refine rl_end hgo <| hKK3 _ _ <| wp_cond_false (by kernel_rfl) <| wp_seq_k fun KK4 hKK4 => rl_begin fun hgK hgo => tk 19 .nilIface <| tk 20 (.bool true) <| tk 18 (.bool true) ?_
      simp only [pp]
      refine rl_end hgo <| hKK4 _ _ <| wp_cond_true (by kernel_rfl) <| wp_seq_k fun KK5 hKK5 => rl_begin fun hgK hgo => tk 21 (.iface t1 z1) <| tk 4 (.iface t1 z1) ?_
      simp only [pp]
      refine rl_end hgo <| hKK5 _ _ ?_
      refine wp_ret ?_
      try simp only [Exit.then, Exit.inBlock]
      refine bp_ret (v := .iface t1 z1) (res1 rfl (res_tmp (by kernel_rfl))) ?_
      exact ⟨_, rfl, hB, .inr ⟨x, ox, by simp, tx⟩⟩
    · refine (join_tt _ x y vx vy w (Nat.le_refl _) hT tx ty ox oy hm).mono ?_
      rintro e w' ⟨v, rfl, hL, t, h1, h2, h3, _⟩
      exact ⟨v, rfl, hL, .inr ⟨t, h2, h3, h1⟩⟩
theorem add_none (b o i : Nat) : (⟨b, o, none⟩ : Addr).add i = ⟨b, o + i, none⟩ := by unfold Addr.add; split <;> simp_all
/-- cells from an address on -/
def CellsAt (w : World) (A : Option Addr) (xs : List Value) : Prop := 0 < xs.length → ∃ b off, A = some ⟨b, off, none⟩ ∧ ∀ i v, xs[i]? = some v → w.cell? ⟨b, off + i, none⟩ = some v
theorem CellsAt.later {w w' : World} {A : Option Addr} {xs : List Value} (h : CellsAt w A xs) (hl : Ltr w w') : CellsAt w' A xs := fun h0 => by
  obtain ⟨b, off, e, hc⟩ := h h0
  exact ⟨b, off, e, fun i v hi => bl_cell hl (hc i v hi)⟩
def cutA (A : Option Addr) (c lo : Nat) : Option Addr := if c = lo then A else A.map (·.add lo)
theorem CellsAt.cut {w : World} {A : Option Addr} {xs : List Value} (h : CellsAt w A xs) (c lo hi : Nat) (h1 : lo ≤ hi) (h2 : hi ≤ xs.length) (h3 : xs.length ≤ c) : CellsAt w (cutA A c lo) ((xs.take hi).drop lo) := fun h0 => by
  rw [List.length_drop, List.length_take] at h0
  obtain ⟨b, off, rfl, hc⟩ := h (by omega)
  refine ⟨b, off + lo, ?_, fun i v hi' => ?_⟩
  · unfold cutA; rw [if_neg (by omega)]; simp [add_none]
  · rw [List.getElem?_drop, List.getElem?_take] at hi'
    split at hi'
    · rw [Nat.add_assoc]; exact hc _ _ hi'
    · cases hi'
def bvals (l : List UInt8) : List Value := l.map fun x => .int .u8 (x.toNat : Int)
theorem bvals_len (l : List UInt8) : (bvals l).length = l.length := by simp [bvals]
theorem bvals_get (l : List UInt8) (i : Nat) (h : i < l.length) : (bvals l)[i]? = some (.int .u8 (gb l i)) := by
  unfold bvals gb; rw [List.getElem?_map, List.getElem?_eq_getElem h, List.getD_eq_getElem?_getD, List.getElem?_eq_getElem h]; rfl
theorem bvals_append (a b : List UInt8) : bvals (a ++ b) = bvals a ++ bvals b := by simp [bvals]
theorem bytesAt_iff {w : World} {A : Option Addr} {l : List UInt8} : BytesAt w A l ↔ CellsAt w A (bvals l) := by
  unfold BytesAt CellsAt
  rw [bvals_len]
  constructor
  · intro h h0
    obtain ⟨b, off, e, hc⟩ := h h0
    refine ⟨b, off, e, fun i v hi => ?_⟩
    have hlt : i < l.length := by have := (List.getElem?_eq_some_iff.1 hi).1; rwa [bvals_len] at this
    rw [bvals_get l i hlt] at hi; cases hi; exact hc i hlt
  · intro h h0
    obtain ⟨b, off, e, hc⟩ := h h0
    exact ⟨b, off, e, fun i hi => hc i _ (bvals_get l i hi)⟩
theorem BytesAt.cut {w : World} {A : Option Addr} {l : List UInt8} (h : BytesAt w A l) (c lo hi : Nat) (h1 : lo ≤ hi) (h2 : hi ≤ l.length) (h3 : l.length ≤ c) : BytesAt w (cutA A c lo) ((l.take hi).drop lo) := by
  rw [bytesAt_iff] at *
  have := h.cut c lo hi h1 (by rw [bvals_len]; exact h2) (by rw [bvals_len]; exact h3)
  unfold bvals at *
  rwa [← List.map_take, ← List.map_drop] at this

/-! ### cuts -/
theorem ex_cut {o : Oper} {ρ : Operand → Value} {ty : TypeId} {x : Operand} {y z : Option Operand} {A : Option Addr} {c n : Nat} (lo hi : Nat) (ho : o.op = .slice ty x y z none) (hx : ρ x = .slice A n c)
    (hy : y.map ρ = some (.int .i64 (lo : Int)) ∨ (y = none ∧ lo = 0)) (hz : z.map ρ = some (.int .i64 (hi : Int)) ∨ (z = none ∧ hi = n)) (hu : Tryd.prog.underlying ty = some (.slice (Tryd.prog.elem ty))) (hs : ∀ w, (sizeOf (Tryd.prog.elem ty)).run Tryd.prog w = .ok 1 w)
    (h1 : lo ≤ hi) (h2 : hi ≤ n) (hc : n ≤ c) (w : World) :
    (execOp ρ o).run Tryd.prog w = .ok (.value (.slice (cutA A c lo) (hi - lo) (c - lo))) w := by
  have key : (Instr.slice ty (.slice A n c) (y.map ρ) (z.map ρ) none).run Tryd.prog w = .ok (.slice (cutA A c lo) (hi - lo) (c - lo)) w := by
    have hsl : ∀ l h : Nat, sliced A l h c 1 = .slice (cutA A c l) (h - l) (c - l) := fun l h => by simp only [sliced, cutA, Nat.mul_one]
    rcases hy with hy | ⟨rfl, rfl⟩ <;> rcases hz with hz | ⟨rfl, rfl⟩
    · rw [hy, hz, run_slice_lh w ty A _ c hu .i64 .i64 lo hi (by omega) (by omega) (by omega)]
      simp only [hs, Result.andThen_ok, Int.toNat_natCast, hsl]
    · rw [hy]; simp only [Option.map_none]
      rw [run_slice_l w ty A _ c hu .i64 lo (by omega) (by omega)]
      simp only [hs, Result.andThen_ok, Int.toNat_natCast, hsl]
    · rw [hz]; simp only [Option.map_none]
      rw [run_slice_h w ty A _ c hu .i64 hi (by omega) (by omega)]
      simp only [hs, Result.andThen_ok, Int.toNat_natCast, hsl]
    · simp only [Option.map_none]
      rw [run_slice_all w ty A _ c hu]
      simp only [hs, Result.andThen_ok, hsl]
  unfold execOp
  simp only [ho, hx, Sem.run_bind, run_sliceAt_slice w ty _ _ _ _ hu, Option.map_none, key, Result.andThen_ok, Sem.run_pure]
theorem ex_cutN {o : Oper} {ρ : Operand → Value} {ty : TypeId} {x : Operand} {y z : Option Operand} {A : Option Addr} {c n : Nat} (lo hi m : Nat) (hm : hi - lo = m) (ho : o.op = .slice ty x y z none) (hx : ρ x = .slice A n c)
    (hy : y.map ρ = some (.int .i64 (lo : Int)) ∨ (y = none ∧ lo = 0)) (hz : z.map ρ = some (.int .i64 (hi : Int)) ∨ (z = none ∧ hi = n)) (hu : Tryd.prog.underlying ty = some (.slice (Tryd.prog.elem ty))) (hs : ∀ w, (sizeOf (Tryd.prog.elem ty)).run Tryd.prog w = .ok 1 w)
    (h1 : lo ≤ hi) (h2 : hi ≤ n) (hc : n ≤ c) (w : World) :
    (execOp ρ o).run Tryd.prog w = .ok (.value (.slice (cutA A c lo) m (c - lo))) w := hm ▸ ex_cut lo hi ho hx hy hz hu hs h1 h2 hc w
/-- an element's address -/
theorem ex_index {o : Oper} {ρ : Operand → Value} {ty : TypeId} {x y : Operand} {b off n c : Nat} (i : Nat) (ho : o.op = .indexAddr ty x y) (hx : ρ x = .slice (some ⟨b, off, none⟩) n c) (hy : ρ y = .int .i64 (i : Int))
    (hu : Tryd.prog.underlying ty = some (.slice (Tryd.prog.elem ty))) (hs : ∀ w, (sizeOf (Tryd.prog.elem ty)).run Tryd.prog w = .ok 1 w) (hi : i < n) (w : World) :
    (execOp ρ o).run Tryd.prog w = .ok (.value (.pointer (some ⟨b, off + i, none⟩))) w := by
  have h1 : (0 : Int) ≤ (i : Int) ∧ (i : Int) < (n : Int) := by omega
  unfold execOp
  simp [ho, hx, hy, Instr.indexAt, asIntOf, Sem.run_bind, run_underlying hu, hs, hi, add_none]

/-! ### a slice of the call's own -/
def Own (n : Nat) (E : TypeId) (w : World) (v : Value) (xs : List Value) : Prop := n ≤ w.heap.size ∧ w.ownsRow n E 1 v xs.length xs
theorem Ltr.grown {w w' : World} (h : Ltr w w') : w.grownBy w' none := ⟨h.os, h.tape, h.output, h.size, fun k hk _ => h.block k hk⟩
theorem Upd.grown {g : Nat} {w w' : World} (h : Upd g w w') : w.grownBy w' (some g) := ⟨h.os, h.tape, h.output, Nat.le_of_eq h.size.symm, fun k _ hk => h.block k (fun e => hk (by rw [e]))⟩
theorem Own.later {n : Nat} {E : TypeId} {w w' : World} {v : Value} {xs : List Value} (h : Own n E w v xs) (hl : Ltr w w') : Own n E w' v xs :=
  ⟨Nat.le_trans h.1 hl.size, h.2.kept hl.grown (by cases hv : v.ownBlock <;> simp)⟩
theorem Own.upd {n g : Nat} {E : TypeId} {w w' : World} {v : Value} {xs : List Value} (h : Own n E w v xs) (hu : Upd g w w') (hg : v.ownBlock ≠ some g) : Own n E w' v xs :=
  ⟨by rw [hu.size]; exact h.1, h.2.kept hu.grown (.inr hg)⟩
theorem Own.nil (n : Nat) (E : TypeId) (w : World) (h : n ≤ w.heap.size) : Own n E w (.slice none 0 0) [] := ⟨h, World.ownsRow_nil w n E 1⟩
theorem Own.row {n : Nat} {E : TypeId} {w : World} {v : Value} {xs : List Value} (h : Own n E w v xs) : ∀ k, v.ownBlock = some k → n ≤ k ∧ k < w.heap.size := h.2.lt
theorem Own.form {n : Nat} {E : TypeId} {w : World} {v : Value} {xs : List Value} (h : Own n E w v xs) : ∃ A c, v = .slice A xs.length c ∧ CellsAt w A xs ∧ xs.length ≤ c := by
  rcases h.2.2 with ⟨rfl, h0⟩ | ⟨g, cap, cur, rfl, hb, hg, hc, hm, hs, ht⟩
  · exact ⟨none, 0, by rw [h0], fun h => absurd h (by omega), by omega⟩
  · refine ⟨_, cap, rfl, fun _ => ⟨g, 0, rfl, fun i v hi => ?_⟩, hc⟩
    rw [Nat.zero_add, cell_of_row w g i cur E (0, 0) hg]
    rw [Nat.mul_one] at ht
    rw [← ht, List.getElem?_take] at hi
    split at hi
    · simpa using hi
    · cases hi
theorem ap_own {n : Nat} {E t ty : TypeId} {bytes : Nat} {z : Value} (ht : Tryd.prog.underlying t = some (.slice E)) (hi : (Tryd.prog.info? E).map (fun i => (i.zero, i.size, i.bytes)) = some (some z, 1, bytes)) (hz : z.cells.size = 1)
    {w : World} {v : Value} {xs : List Value} (hown : Own n E w v xs) {A : Option Addr} {ys : List Value} {c : Nat} (hA : CellsAt w A ys) (hc0 : A = none → c = 0) (h1 : ∀ u ∈ ys, u.oneCell' = true) (hb : (xs.length + ys.length) * bytes ≤ 140737488355328) (hm : xs.length + ys.length ≤ 140737488355328) :
    ∃ v' w', (Builtin.append_ #[t, t] ty #[v, .slice A ys.length c]).run Tryd.prog w = .ok v' w' ∧ Own n E w' v' (xs ++ ys) ∧ w.grownBy w' v.ownBlock ∧ (v'.ownBlock = v.ownBlock ∨ v'.ownBlock = some w.heap.size) := by
  obtain ⟨i, hi', hz0, hs, hby⟩ := info_parts hi
  cases A with
  | none =>
    have h0 : ys = [] := by
      apply Classical.byContradiction; intro hn
      obtain ⟨b, off, e, _⟩ := hA (List.length_pos_iff.2 hn); cases e
    subst h0
    rw [hc0 rfl]
    refine ⟨v, w, run_append_owned_none (P := Tryd.prog) (w := w) n t ty E i 1 ht hi' v xs.length xs hown.2, by rw [List.append_nil]; exact hown, ⟨rfl, rfl, rfl, Nat.le_refl _, fun _ _ _ => rfl⟩, .inl rfl⟩
  | some ad =>
    have hcell : ∀ j u, ys[j]? = some u → w.cell? (ad.add j) = some u := fun j u hu => by
      obtain ⟨b, off, e, hc⟩ := hA (by have := (List.getElem?_eq_some_iff.1 hu).1; omega)
      cases e; rw [add_none]; exact hc j u hu
    obtain ⟨v', w', hr, h2, h3, _, h5⟩ := run_append_own_at (P := Tryd.prog) w n t ty E i z 1 bytes ht hi' hz0 hs hby hz (by decide) v xs.length xs hown.2 ad ys.length c ys (by omega) hcell h1 (by unfold maxLen; omega) hb hown.1
    exact ⟨v', w', hr, ⟨Nat.le_trans hown.1 h3.size, by rw [List.length_append]; exact h2⟩, h3, h5⟩
theorem rl_append {ops : Array Oper} {K : Act → World → Prop} {o : Oper} {rest : List Oper} {a : Act} {w : World} (d : Option Tmp) {n : Nat} {E t : TypeId} {bytes : Nat} {z : Value} {s x : Operand} {v : Value} {xs ys : List Value} {A : Option Addr} {c : Nat}
    (hd : o.dst = d) (hw : Region.wanted o (yielded ops a.tmps) = true) (ho : o.op = .call { callee := .builtin .append, args := #[s, x], argTypes := #[t, t] }) (hs : a.eval s = v) (hx : a.eval x = .slice A ys.length c)
    (ht : Tryd.prog.underlying t = some (.slice E)) (hi : (Tryd.prog.info? E).map (fun i => (i.zero, i.size, i.bytes)) = some (some z, 1, bytes)) (hz : z.cells.size = 1)
    (hown : Own n E w v xs) (hA : CellsAt w A ys) (hc0 : A = none → c = 0) (h1 : ∀ u ∈ ys, u.oneCell' = true) (hb : (xs.length + ys.length) * bytes ≤ 140737488355328) (hm : xs.length + ys.length ≤ 140737488355328)
    (h : ∀ v' w', Own n E w' v' (xs ++ ys) → w.grownBy w' v.ownBlock → (v'.ownBlock = v.ownBlock ∨ v'.ownBlock = some w.heap.size) → wpL Tryd.prog ops K rest (a.put d v') w') : wpL Tryd.prog ops K (o :: rest) a w := by
  obtain ⟨v', w', hr, h2, h3, h4⟩ := ap_own (ty := o.type) ht hi hz hown hA hc0 h1 hb hm
  have he : (execOp a.eval o).run Tryd.prog w = .ok (.value v') w' := by
    unfold execOp
    simp only [ho, resolve, invoke, builtin, Sem.run_bind, Sem.run_pure, Result.andThen_ok, List.map_toArray, List.map_cons, List.map_nil, hs, hx, hr]
  unfold wpL; rw [if_pos hw]
  exact upon_step he (.inl rfl) (hd ▸ h v' w' h2 h3 h4)

/-! ### facts behind an append -/
theorem Tabs.gr {w w' : World} {r : Option Nat} (h : Tabs w) (hg : w.grownBy w' r) (hr : ∀ k, r = some k → 4 ≤ k) : Tabs w' := by
  have key : ∀ b i v, b < 4 → w.cell? ⟨b, i, none⟩ = some v → w'.cell? ⟨b, i, none⟩ = some v := fun b i v hb h => by
    have hlt := World.block_lt_of_cell? w _ h
    rw [← h]; exact World.cell?_of_block (w := w) (a := ⟨b, i, none⟩) (hg.block b hlt (fun e => by have := hr b e.symm; omega))
  exact ⟨fun i v hi => key _ _ _ (by decide) (h.spans i v hi), fun i v hi => key _ _ _ (by decide) (h.needs i v hi), fun i v hi => key _ _ _ (by decide) (h.masks i v hi), fun i v hi => key _ _ _ (by decide) (h.bad i v hi)⟩
theorem Ltr.gr {a w w' : World} {r : Option Nat} (h : Ltr a w) (hg : w.grownBy w' r) (hr : ∀ k, r = some k → a.heap.size ≤ k) : Ltr a w' := Below.grown h hg h.size hr
theorem Blk.gr {w w' : World} {r : Option Nat} {B : Nat} {t : TypeId} {cs : Array Value} (h : Blk w B t cs) (hg : w.grownBy w' r) (hr : r ≠ some B) : Blk w' B t cs := (hg.block B h.lt (fun e => hr e.symm)).trans h
theorem LeafAt.gr {w w' : World} {r : Option Nat} {b : Nat} {l : List UInt8} (h : LeafAt w b l) (hg : w.grownBy w' r) (hr : r ≠ some b) : LeafAt w' b l := Blk.gr h hg hr
theorem BytesAt.gr {w w' : World} {r : Option Nat} {n : Nat} {A : Option Addr} {l : List UInt8} (h : BytesAt w A l) (hg : w.grownBy w' r) (hA : ∀ a, A = some a → a.block < n) (hn : n ≤ w.heap.size) (hr : ∀ k, r = some k → n ≤ k) : BytesAt w' A l := fun h0 => by
  obtain ⟨b, off, e, hc⟩ := h h0
  have hb := hA _ e
  simp only at hb
  refine ⟨b, off, e, fun i hi => ?_⟩
  rw [← hc i hi]; exact World.cell?_of_block (w := w) (a := ⟨b, off + i, none⟩) (hg.block b (by omega) (fun e => by have := hr b e.symm; omega))

/-- bytes in blocks below n -/
def BytesN (n : Nat) (w : World) (A : Option Addr) (l : List UInt8) : Prop := n ≤ w.heap.size ∧ BytesAt w A l ∧ (0 < l.length → ∀ a, A = some a → a.block < n)
theorem BytesAt.n {w : World} {A : Option Addr} {l : List UInt8} (h : BytesAt w A l) : BytesN w.heap.size w A l := ⟨Nat.le_refl _, h, fun h0 a e => by
  obtain ⟨b, off, e', hc⟩ := h h0
  rw [e] at e'; cases e'
  exact World.block_lt_of_cell? w ⟨b, off, none⟩ (hc 0 h0)⟩
theorem BytesN.at {n : Nat} {w : World} {A : Option Addr} {l : List UInt8} (h : BytesN n w A l) : BytesAt w A l := h.2.1
theorem BytesN.later {n : Nat} {w w' : World} {A : Option Addr} {l : List UInt8} (h : BytesN n w A l) (hl : Ltr w w') : BytesN n w' A l := ⟨Nat.le_trans h.1 hl.size, h.2.1.later hl, h.2.2⟩
theorem BytesN.gr {n : Nat} {w w' : World} {r : Option Nat} {A : Option Addr} {l : List UInt8} (h : BytesN n w A l) (hg : w.grownBy w' r) (hr : ∀ k, r = some k → n ≤ k) : BytesN n w' A l := ⟨Nat.le_trans h.1 hg.size, by
  by_cases h0 : 0 < l.length
  · exact h.2.1.gr hg (h.2.2 h0) h.1 hr
  · exact fun h1 => absurd h1 h0, h.2.2⟩
theorem BytesN.upd {n g : Nat} {w w' : World} {A : Option Addr} {l : List UInt8} (h : BytesN n w A l) (hu : Upd g w w') (hg : n ≤ g) : BytesN n w' A l := h.gr hu.grown (fun k hk => by cases hk; exact hg)
theorem BytesAt.tail {w : World} {A : Option Addr} {l : List UInt8} (h : BytesAt w A l) (c lo : Nat) (h1 : lo ≤ l.length) (h3 : l.length ≤ c) : BytesAt w (cutA A c lo) (l.drop lo) := by
  have := h.cut c lo l.length h1 (Nat.le_refl _) h3
  rwa [List.take_of_length_le (Nat.le_refl _)] at this
theorem cells_one {w : World} {b : Nat} {t : TypeId} {x : Value} (h : Blk w b t #[x]) : CellsAt w (some ⟨b, 0, none⟩) [x] := fun _ => ⟨b, 0, rfl, fun i v hi => by
  cases i with
  | zero => simp at hi; subst hi; exact h.cell 0
  | succ i => simp at hi⟩
/-- leaves of which a slice tells, apart from its row -/
def Leaves (w : World) (v : Value) (xs : List Value) (ls : List (List UInt8)) : Prop :=
  xs.length = ls.length ∧ ∀ i, i < ls.length → ∃ b, xs[i]? = some (.pointer (some ⟨b, 0, none⟩)) ∧ v.ownBlock ≠ some b ∧ LeafAt w b (ls.getD i [])
theorem Leaves.nil (w : World) (v : Value) : Leaves w v [] [] := ⟨rfl, fun i hi => absurd hi (by simp)⟩
theorem Leaves.later {w w' : World} {v : Value} {xs : List Value} {ls : List (List UInt8)} (h : Leaves w v xs ls) (hl : Ltr w w') : Leaves w' v xs ls := ⟨h.1, fun i hi => by
  obtain ⟨b, h1, h2, h3⟩ := h.2 i hi; exact ⟨b, h1, h2, h3.later hl⟩⟩
theorem Leaves.snoc {w w' : World} {v v' : Value} {xs : List Value} {ls : List (List UInt8)} {p : Nat} {l : List UInt8} (h : Leaves w v xs ls) (hp : LeafAt w p l) (hne : v.ownBlock ≠ some p) (hg : w.grownBy w' v.ownBlock)
    (hv : v'.ownBlock = v.ownBlock ∨ v'.ownBlock = some w.heap.size) : Leaves w' v' (xs ++ [.pointer (some ⟨p, 0, none⟩)]) (ls ++ [l]) := by
  have key : ∀ b l, LeafAt w b l → v.ownBlock ≠ some b → v'.ownBlock ≠ some b ∧ LeafAt w' b l := fun b l hb hn => by
    refine ⟨?_, hb.gr hg hn⟩
    rcases hv with e | e
    · rw [e]; exact hn
    · rw [e]; have := Blk.lt hb; intro e'; cases e'; omega
  refine ⟨by simp [h.1], fun i hi => ?_⟩
  rw [List.length_append, List.length_singleton] at hi
  by_cases hlt : i < ls.length
  · obtain ⟨b, h1, h2, h3⟩ := h.2 i hlt
    obtain ⟨k1, k2⟩ := key b _ h3 h2
    refine ⟨b, by rw [List.getElem?_append_left (by rw [h.1]; exact hlt)]; exact h1, k1, ?_⟩
    rw [List.getD_eq_getElem?_getD, List.getElem?_append_left hlt, ← List.getD_eq_getElem?_getD]; exact k2
  · obtain rfl : i = ls.length := by omega
    obtain ⟨k1, k2⟩ := key p l hp hne
    refine ⟨p, by rw [← h.1]; simp, k1, ?_⟩
    rw [List.getD_eq_getElem?_getD]; simpa using k2
theorem floor_facts (l : List UInt8) (p : Nat) : floorOf l p ≤ p ∧ p ≤ floorOf l p + 3 := by
  have := insideOf_le l p
  unfold floorOf; omega
def CutP (l : List UInt8) (w : World) (e : Ending) (w' : World) : Prop := ∃ (A : Option Addr) (c : Nat) (xs : List Value) (ls : List (List UInt8)), e = .returned (.tuple #[.slice A xs.length c, .int .i64 0]) ∧ Ltr w w' ∧ xs.length ≤ c ∧ CellsAt w' A xs ∧
  xs.length = ls.length ∧ (∀ i, i < ls.length → ∃ b, xs[i]? = some (.pointer (some ⟨b, 0, none⟩)) ∧ LeafAt w' b (ls.getD i [])) ∧ ls.flatten = l ∧ ∀ p ∈ ls, 0 < p.length ∧ p.length ≤ 4096
theorem CutP.mk {w w' : World} {v : Value} {xs : List Value} {ls : List (List UInt8)} {l : List UInt8} (hB : Ltr w w') (hO : Own w.heap.size 116 w' v xs) (hV : Leaves w' v xs ls) (hf : ls.flatten = l) (hk : ∀ p ∈ ls, 0 < p.length ∧ p.length ≤ 4096) :
    CutP l w (.returned (.tuple #[v, .int .i64 0])) w' := by
  obtain ⟨A, c, rfl, hA, hc⟩ := hO.form
  exact ⟨A, c, xs, ls, rfl, hB, hc, hA, hV.1, fun i hi => by obtain ⟨b, h1, _, h3⟩ := hV.2 i hi; exact ⟨b, h1, h3⟩, hf, hk⟩

set_option maxRecDepth 100000 in
set_option maxHeartbeats 8000000 in
theorem Cut_any (A : Option Addr) (c : Nat) (l : List UInt8) (w : World) (hT : Tabs w) (hA' : BytesAt w A l) (hc : l.length ≤ c) (hm : l.length ≤ 200000000) :
    Calls Tryd.prog 80 #[.slice A l.length c, .int .i64 4096] w (CutP l w) := by
  have hB := Ltr.refl w
  have hA := hA'.n
  clear hA'
  go_enter Tryd.func80, Tryd.ntmps80
  have h4 := hT.four
  refine wp_seq_k fun KK1 hKK1 => rl_begin fun hgK hgo => tk 4 (.slice none 0 0) <| tk 5 (.int .i64 0) ?_
  simp only [pp]
  refine rl_end hgo <| hKK1 _ _ <| wp_seq_k fun KK2 hKK2 => wp_seq_k fun KK3 hKK3 => rl_begin fun hgK hgo => tk 9 (.int .i64 4096) ?_
  simp only [pp]
  refine tx 10 (.bool false) (by exact ebf (c := (4096 : Int) < 1) (by omega)) <| tk 11 (.bool false) <| tk 12 (.int .i64 4096) ?_
  simp only [pp]
  refine tx 13 (.bool false) (by exact ebf (c := (4096 : Int) > 4096) (by omega)) <| tk 14 (.bool false) ?_
  simp only [pp]
  refine rl_end hgo <| hKK3 _ _ <| wp_cond_false (by kernel_rfl) <| wp_skip <| hKK2 _ _ <| wp_seq_k fun KK4 hKK4 => wp_seq_k fun KK5 hKK5 => rl_begin fun hgK hgo => tk 15 (.slice A l.length c) <| tk 16 (.int .i64 l.length) ?_
  simp only [pp]
  refine tx 17 (.bool false) (by exact ebf (c := (l.length : Int) > 268435456) (by omega)) ?_
  simp only [pp]
  refine rl_end hgo <| hKK5 _ _ <| wp_cond_false (by kernel_rfl) <| wp_skip <| hKK4 _ _ <| wp_seq_k fun KK6 hKK6 => rl_begin fun hgK hgo => tk 6 (.slice none 0 0) ?_
  simp only [pp]
  refine rl_end hgo <| hKK6 _ _ <| wp_seq_k fun KK7 hKK7 => rl_begin fun hgK hgo => tk 7 (.int .i64 0) ?_
  simp only [pp]
  refine rl_end hgo <| hKK7 _ _ <| wp_seq_k fun KK8 hKK8 => wp_block ?_
  refine wp_loop_ghost (fun gn ga wl => ∃ (u : Nat → Value) (at' : Nat) (v : Value) (xs : List Value) (ls : List (List UInt8)), gn = l.length - at' ∧ ga = ⟨#[.slice A l.length c, .int .i64 4096, undef, undef, .slice none 0 0, .int .i64 0, v, .int .i64 at', u 8, .int .i64 4096, .bool false, .bool false, .int .i64 4096, .bool false, .bool false, .slice A l.length c, .int .i64 l.length, .bool false, u 18, u 19, u 20, u 21, u 22, u 23, u 24, u 25, u 26, u 27, u 28, u 29, u 30, u 31, u 32, u 33, u 34, u 35, u 36, u 37, u 38, u 39, u 40, u 41, u 42, u 43, u 44, undef, undef, undef, undef, undef, undef, undef, undef, undef, undef, undef, undef, undef], []⟩ ∧ (Tabs wl) ∧ (Ltr w wl) ∧ (BytesN w.heap.size wl A l) ∧ (Own w.heap.size 116 wl v xs) ∧ (Leaves wl v xs ls) ∧ (at' ≤ l.length) ∧ (ls.flatten = l.take at') ∧ (∀ p ∈ ls, 0 < p.length ∧ p.length ≤ 4096) ∧ (xs.length ≤ at')) ((fun (at' : Nat) (v : Value) (xs : List Value) (ls : List (List UInt8)) => (l.length - at' : Nat)) 0 (.slice none 0 0) [] []) ?_ ?_
  ·exact ⟨fun gj => (#[.slice A l.length c, .int .i64 4096, undef, undef, .slice none 0 0, .int .i64 0, .slice none 0 0, .int .i64 0, undef, .int .i64 4096, .bool false, .bool false, .int .i64 4096, .bool false, .bool false, .slice A l.length c, .int .i64 l.length, .bool false, undef, undef, undef, undef, undef, undef, undef, undef, undef, undef, undef, undef, undef, undef, undef, undef, undef, undef, undef, undef, undef, undef, undef, undef, undef, undef, undef, undef, undef, undef, undef, undef, undef, undef, undef, undef, undef, undef, undef, undef]).getD gj undef, 0, .slice none 0 0, [], [], rfl, rfl, by assumption, by assumption, by assumption, Own.nil _ _ _ hB.size, Leaves.nil _ _, Nat.zero_le _, rfl, (fun p hp => by cases hp), Nat.le_refl _⟩
  rintro n9 a9 w9 ⟨u, at', v, xs, ls, rfl, rfl, hT', hB', hA', hO', hV', hat', hfl', hok', hxn'⟩
  clear hA hB hT
  have hT := hT'
  clear hT'
  have hB := hB'
  clear hB'
  have hA := hA'
  clear hA'
  have hO := hO'
  clear hO'
  have hV := hV'
  clear hV'
  have hat := hat'
  clear hat'
  have hfl := hfl'
  clear hfl'
  have hok := hok'
  clear hok'
  have hxn := hxn'
  clear hxn'
  refine wp_seq_k fun KK10 hKK10 => wp_seq_k fun KK11 hKK11 => rl_begin fun hgK hgo => tk 18 (.slice A l.length c) <| tk 19 (.int .i64 l.length) <| tk 20 (.int .i64 at') ?_
  simp only [pp]
  refine tx 21 (.int .i64 ((l.length : Int) - (at'))) (by exact ex_arith (e := (l.length : Int) - (at')) (r := (l.length : Int) - (at')) (by kernel_rfl) (by omega) (by omega)) <| tk 22 (.int .i64 4096) ?_
  simp only [pp]
  by_cases hgt : (l.length : Int) - at' > 4096
  ·refine tx 23 (.bool true) (by exact ex_bool (c := (((l.length : Int) - (at')) : Int) > 4096) (by kernel_rfl) ⟨fun _ => by omega, fun _ => rfl⟩) ?_
   simp only [pp]
   refine rl_end hgo <| hKK11 _ _ <| wp_cond_true (by kernel_rfl) <| wp_skip <| hKK10 _ _ <| wp_block <| wp_seq_k fun KK12 hKK12 => rl_begin fun hgK hgo => tk 24 (.int .i64 at') <| tk 25 (.int .i64 4096) ?_
   simp only [pp]
   refine tx 26 (.int .i64 (((at' + 4096 : Nat) : Int))) (by exact ex_arith (e := (at' : Int) + 4096) (r := ((at' + 4096 : Nat) : Int)) (by kernel_rfl) (by omega) (by omega)) <| tk 8 (.int .i64 (((at' + 4096 : Nat) : Int))) ?_
   simp only [pp]
   refine rl_end hgo <| hKK12 _ _ <| wp_seq_k fun KK13 hKK13 => wp_seq_k fun KK14 hKK14 => rl_begin fun hgK hgo => tk 27 (.int .i64 4096) ?_
   simp only [pp]
   refine tx 28 (.bool true) (by exact ebt (c := (4096 : Int) ≥ 4) (by omega)) ?_
   simp only [pp]
   refine rl_end hgo <| hKK14 _ _ <| wp_cond_true (by kernel_rfl) <| rl_begin fun hgK hgo => tk 30 (.slice A l.length c) <| tk 31 (.int .i64 (((at' + 4096 : Nat) : Int))) ?_
   simp only [pp]
   refine rl_call (some 32) 101 #[.slice A l.length c, .int .i64 (((at' + 4096 : Nat) : Int))] rfl (by kernel_rfl) (by kernel_rfl) (Floor_any A c l (at' + 4096) _ hT hA.at hc (by omega) (by omega)) ?_
   rintro e w15 ⟨rfl, hL15⟩
   refine ⟨_, rfl, ?_⟩
   have hz15 := hL15.size
   try simp only [pp]
   refine tk 29 (.tuple #[.int .i64 (floorOf l (at' + 4096)), .int .i64 0]) <| tk 33 (.int .i64 (floorOf l (at' + 4096))) <| tk 34 (.int .i64 0) <| tk 8 (.int .i64 (floorOf l (at' + 4096))) ?_
   simp only [pp]
   refine rl_end hgo <| hKK13 _ _ <| wp_seq_k fun KK16 hKK16 => ?_
   (have hff := floor_facts l (at' + 4096)); (have hpl : ((l.take (floorOf l (at' + 4096))).drop at').length = floorOf l (at' + 4096) - at' := (by rw [List.length_drop, List.length_take]; omega))
   refine rl_begin fun hgK hgo => tk 35 v <| tk 36 (.slice A l.length c) <| tk 37 (.int .i64 at') <| tk 38 (.int .i64 (floorOf l (at' + 4096))) ?_
   simp only [pp]
   refine tx 39 (.slice (cutA A c (at')) (((l.take (floorOf l (at' + 4096))).drop at').length) (c - (at'))) (by exact ex_cutN (at') (floorOf l (at' + 4096)) (((l.take (floorOf l (at' + 4096))).drop at').length) (by omega) rfl rfl (.inl rfl) (.inl rfl) (by kernel_rfl) (fun _ => by kernel_rfl) (by omega) (by omega) (by omega) _) ?_
   simp only [pp]
   replace hA := hA.later hL15
   refine tx 40 (.string (bs ((l.take (floorOf l (at' + 4096))).drop at'))) (by exact ex_conv_str _ rfl (cutA A c at') (c - at') ((l.take (floorOf l (at' + 4096))).drop at') rfl (hA.at.cut c at' _ (by omega) (by omega) hc)) ?_
   simp only [pp]
   replace hO := hO.later hL15
   have hrw := hO.row
   replace hT := hT.later hL15
   refine rl_call (some 41) 102 #[.string (bs ((l.take (floorOf l (at' + 4096))).drop at'))] rfl (by kernel_rfl) (by kernel_rfl) (made_any ((l.take (floorOf l (at' + 4096))).drop at') (by omega) _ hT) ?_
   rintro e w17 ⟨p, rfl, hL17, hp, hpn⟩
   refine ⟨_, rfl, ?_⟩
   have hz17 := hL17.size
   replace hO := hO.later hL17
   (have hpr : v.ownBlock ≠ some p := (fun e => by have := hO.row p e; have := hrw p e; omega))
   try simp only [pp]
   refine rl_bslice (some 42) 116 #[.pointer (some ⟨p, 0, none⟩)] 1 rfl (by kernel_rfl) (fun W => by kernel_rfl) fun q w18 hL18 hp18 hq => ?_
   have hz18 := hL18.size
   have hlt18 := hq.lt
   try simp only [pp]
   replace hO := hO.later hL18
   have hrow19 := hO.row
   refine rl_append (z := .pointer none) (bytes := 8) (ys := [.pointer (some ⟨p, 0, none⟩)]) (some 43) rfl (by kernel_rfl) rfl rfl rfl (by kernel_rfl) (by kernel_rfl) (by kernel_rfl) hO (cells_one hq) (fun h => by cases h) (by simp [Value.oneCell']) (by simp only [List.length_singleton]; omega) (by simp only [List.length_singleton]; omega) fun v2 w19 ho19 hG19 hV19 => ?_
   replace hV := ((hV.later hL15).later hL17).later hL18
   replace hp := hp.later hL18
   have hV2 := Leaves.snoc hV hp hpr hG19 hV19
   replace hT := (hT.later hL17).later hL18
   replace hT := hT.gr hG19 (fun k hk => by have := hrow19 k hk; omega)
   replace hB := ((hB.later hL15).later hL17).later hL18
   replace hB := hB.gr hG19 (fun k hk => by have := hrow19 k hk; omega)
   replace hA := (hA.later hL17).later hL18
   replace hA := hA.gr hG19 (fun k hk => by have := hrow19 k hk; omega)
   clear hV
   clear hp
   clear hq
   clear hO
   have hO := ho19
   clear ho19
   have hz19 := hG19.size
   try simp only [pp]
   refine tk 6 v2 ?_
   simp only [pp]
   refine rl_end hgo <| hKK16 _ _ <| rl_begin fun hgK hgo => tk 44 (.int .i64 (floorOf l (at' + 4096))) <| tk 7 (.int .i64 (floorOf l (at' + 4096))) ?_
   simp only [pp]
   refine rl_end hgo ?_
   exact ⟨_, (by omega), fun gj => (#[.slice A l.length c, .int .i64 4096, undef, undef, .slice none 0 0, .int .i64 0, v2, .int .i64 (floorOf l (at' + 4096)), .int .i64 (floorOf l (at' + 4096)), .int .i64 4096, .bool false, .bool false, .int .i64 4096, .bool false, .bool false, .slice A l.length c, .int .i64 l.length, .bool false, .slice A l.length c, .int .i64 l.length, .int .i64 at', .int .i64 ((l.length : Int) - (at')), .int .i64 4096, .bool true, .int .i64 at', .int .i64 4096, .int .i64 (((at' + 4096 : Nat) : Int)), .int .i64 4096, .bool true, .tuple #[.int .i64 (floorOf l (at' + 4096)), .int .i64 0], .slice A l.length c, .int .i64 (((at' + 4096 : Nat) : Int)), .tuple #[.int .i64 (floorOf l (at' + 4096)), .int .i64 0], .int .i64 (floorOf l (at' + 4096)), .int .i64 0, v, .slice A l.length c, .int .i64 at', .int .i64 (floorOf l (at' + 4096)), .slice (cutA A c (at')) (((l.take (floorOf l (at' + 4096))).drop at').length) (c - (at')), .string (bs ((l.take (floorOf l (at' + 4096))).drop at')), .pointer (some ⟨p, 0, none⟩), .slice (some ⟨q, 0, none⟩) 1 1, v2, .int .i64 (floorOf l (at' + 4096)), undef, undef, undef, undef, undef, undef, undef, undef, undef, undef, undef, undef, undef]).getD gj undef, floorOf l (at' + 4096), v2, xs ++ [.pointer (some ⟨p, 0, none⟩)], ls ++ [((l.take (floorOf l (at' + 4096))).drop at')], rfl, rfl, by assumption, by assumption, by assumption, by assumption, by assumption, (by omega), (by rw [List.flatten_append, hfl]; simp only [List.flatten_cons, List.flatten_nil, List.append_nil]; rw [show l.take at' = (l.take (floorOf l (at' + 4096))).take at' from by rw [List.take_take]; congr 1; omega, List.take_append_drop]), (by intro z hz; rcases List.mem_append.1 hz with h|h; (exact hok z h); rw [List.mem_singleton.1 h, hpl]; omega), (by simp only [List.length_append, List.length_singleton]; omega)⟩
  ·refine tx 23 (.bool false) (by exact ex_bool (c := (((l.length : Int) - (at')) : Int) > 4096) (by kernel_rfl) ⟨fun q => (by cases q), fun q => absurd q (by omega)⟩) ?_
   simp only [pp]
   refine rl_end hgo <| hKK11 _ _ <| wp_cond_false (by kernel_rfl) <| wp_exit <| hKK8 _ _ <| wp_seq_k fun KK20 hKK20 => wp_seq_k fun KK21 hKK21 => rl_begin fun hgK hgo => tk 45 (.int .i64 at') <| tk 46 (.slice A l.length c) <| tk 47 (.int .i64 l.length) ?_
   simp only [pp]
   by_cases hlt : (at' : Int) < l.length
   ·refine tx 48 (.bool true) (by exact ebt (c := (at' : Int) < l.length) (by omega)) ?_
    simp only [pp]
    refine rl_end hgo <| hKK21 _ _ <| wp_cond_true (by kernel_rfl) ?_
    have hpl : (l.drop at').length = l.length - at' := List.length_drop
    refine rl_begin fun hgK hgo => tk 49 v <| tk 50 (.slice A l.length c) <| tk 51 (.int .i64 at') ?_
    simp only [pp]
    refine tx 52 (.slice (cutA A c (at')) ((l.drop at').length) (c - (at'))) (by exact ex_cutN (at') l.length ((l.drop at').length) (by omega) rfl rfl (.inl rfl) (.inr ⟨rfl, rfl⟩) (by kernel_rfl) (fun _ => by kernel_rfl) (by omega) (by omega) (by omega) _) ?_
    simp only [pp]
    refine tx 53 (.string (bs (l.drop at'))) (by exact ex_conv_str _ rfl (cutA A c at') (c - at') (l.drop at') rfl (hA.at.tail c at' (by omega) hc)) ?_
    simp only [pp]
    have hrw := hO.row
    refine rl_call (some 54) 102 #[.string (bs (l.drop at'))] rfl (by kernel_rfl) (by kernel_rfl) (made_any (l.drop at') (by omega) _ hT) ?_
    rintro e w22 ⟨p, rfl, hL22, hp, hpn⟩
    refine ⟨_, rfl, ?_⟩
    have hz22 := hL22.size
    replace hO := hO.later hL22
    (have hpr : v.ownBlock ≠ some p := (fun e => by have := hO.row p e; have := hrw p e; omega))
    try simp only [pp]
    refine rl_bslice (some 55) 116 #[.pointer (some ⟨p, 0, none⟩)] 1 rfl (by kernel_rfl) (fun W => by kernel_rfl) fun q w23 hL23 hp23 hq => ?_
    have hz23 := hL23.size
    have hlt23 := hq.lt
    try simp only [pp]
    replace hO := hO.later hL23
    have hrow24 := hO.row
    refine rl_append (z := .pointer none) (bytes := 8) (ys := [.pointer (some ⟨p, 0, none⟩)]) (some 56) rfl (by kernel_rfl) rfl rfl rfl (by kernel_rfl) (by kernel_rfl) (by kernel_rfl) hO (cells_one hq) (fun h => by cases h) (by simp [Value.oneCell']) (by simp only [List.length_singleton]; omega) (by simp only [List.length_singleton]; omega) fun v2 w24 ho24 hG24 hV24 => ?_
    replace hV := (hV.later hL22).later hL23
    replace hp := hp.later hL23
    have hV2 := Leaves.snoc hV hp hpr hG24 hV24
    replace hT := (hT.later hL22).later hL23
    replace hT := hT.gr hG24 (fun k hk => by have := hrow24 k hk; omega)
    replace hB := (hB.later hL22).later hL23
    replace hB := hB.gr hG24 (fun k hk => by have := hrow24 k hk; omega)
    replace hA := (hA.later hL22).later hL23
    replace hA := hA.gr hG24 (fun k hk => by have := hrow24 k hk; omega)
    clear hV
    clear hp
    clear hq
    clear hO
    have hO := ho24
    clear ho24
    have hz24 := hG24.size
    try simp only [pp]
    refine tk 6 v2 ?_
    simp only [pp]
    refine rl_end hgo <| hKK20 _ _ <| wp_seq_k fun KK25 hKK25 => rl_begin fun hgK hgo => tk 57 v2 <| tk 4 v2 <| tk 5 (.int .i64 0) ?_
    simp only [pp]
    refine rl_end hgo <| hKK25 _ _ ?_
    refine wp_ret ?_
    try simp only [Exit.then, Exit.inBlock]
    refine bp_ret (v := .tuple #[v2, .int .i64 0]) (res2 rfl (res_tmp (by kernel_rfl)) (res_tmp (by kernel_rfl))) ?_
    exact CutP.mk hB hO hV2 (by rw [List.flatten_append, hfl]; simp) (by intro z hz; rcases List.mem_append.1 hz with h|h; (exact hok z h); rw [List.mem_singleton.1 h, hpl]; omega)
   ·refine tx 48 (.bool false) (by exact ebf (c := (at' : Int) < l.length) (by omega)) ?_
    simp only [pp]
    refine rl_end hgo <| hKK21 _ _ <| wp_cond_false (by kernel_rfl) <| wp_skip <| hKK20 _ _ <| wp_seq_k fun KK26 hKK26 => rl_begin fun hgK hgo => tk 57 v <| tk 4 v <| tk 5 (.int .i64 0) ?_
    simp only [pp]
    refine rl_end hgo <| hKK26 _ _ ?_
    refine wp_ret ?_
    try simp only [Exit.then, Exit.inBlock]
    refine bp_ret (v := .tuple #[v, .int .i64 0]) (res2 rfl (res_tmp (by kernel_rfl)) (res_tmp (by kernel_rfl))) ?_
    exact CutP.mk hB hO hV (by rw [hfl, List.take_of_length_le (by omega)]) hok

theorem ex_half {o : Oper} {ρ : Operand → Value} {ty ty2 : TypeId} {x y : Operand} (n : Nat) (ho : o.op = .binOp .quo ty x y ty2) (hx : ρ x = .int .i64 (n : Int)) (hy : ρ y = .int .i64 2) (hu : Tryd.prog.underlying ty = some (.int .i64)) (hn : n ≤ 9223372036854775807) (w : World) :
    (execOp ρ o).run Tryd.prog w = .ok (.value (.int .i64 ((n / 2 : Nat) : Int))) w := by
  have h1 : (0 : Int) ≤ (n : Int) := by omega
  have h2 : ((n / 2 : Nat) : Int) = (n : Int) / 2 := by omega
  have h3 : (n : Int) / 2 ≤ 9223372036854775807 := by omega
  rw [h2]
  clear h2 hn
  generalize (n : Int) = m at *
  have h4 : (0 : Int) ≤ m / 2 := by omega
  have h5 : IntKind.i64.wrap (m.tdiv 2) = m / 2 := by
    rw [Int.tdiv_eq_ediv_of_nonneg h1]; exact IntWalk.i64_in _ (by omega)
  unfold execOp
  simp only [ho, hx, hy]
  go_simp
/-- the leaves of which a list of pointers tells -/
def LeavesC (w : World) (xs : List Value) (ls : List (List UInt8)) : Prop := xs.length = ls.length ∧ ∀ i, i < ls.length → ∃ b, xs[i]? = some (.pointer (some ⟨b, 0, none⟩)) ∧ LeafAt w b (ls.getD i [])
theorem LeavesC.later {w w' : World} {xs : List Value} {ls : List (List UInt8)} (h : LeavesC w xs ls) (hl : Ltr w w') : LeavesC w' xs ls := ⟨h.1, fun i hi => by obtain ⟨b, h1, h3⟩ := h.2 i hi; exact ⟨b, h1, h3.later hl⟩⟩
theorem LeavesC.cut {w : World} {xs : List Value} {ls : List (List UInt8)} (h : LeavesC w xs ls) (lo hi : Nat) : LeavesC w ((xs.take hi).drop lo) ((ls.take hi).drop lo) := by
  refine ⟨by simp [h.1], fun i hi' => ?_⟩
  rw [List.length_drop, List.length_take] at hi'
  obtain ⟨b, h1, h3⟩ := h.2 (lo + i) (by omega)
  refine ⟨b, by rw [List.getElem?_drop, List.getElem?_take, if_pos (by omega)]; exact h1, ?_⟩
  rw [List.getD_eq_getElem?_getD, List.getElem?_drop, List.getElem?_take, if_pos (by omega), ← List.getD_eq_getElem?_getD]; exact h3
def okL (ls : List (List UInt8)) : Prop := ∀ p ∈ ls, 0 < p.length ∧ p.length ≤ 4096
theorem okL.cut {ls : List (List UInt8)} (h : okL ls) (lo hi : Nat) : okL ((ls.take hi).drop lo) := fun p hp => h p (List.mem_of_mem_take (List.mem_of_mem_drop hp))
set_option maxRecDepth 100000 in
set_option maxHeartbeats 8000000 in
theorem grown_0 (A : Option Addr) (c : Nat) (w : World) : Calls Tryd.prog 81 #[.slice A 0 c] w (NodeP [] w) := by
  have hB := Ltr.refl w
  go_enter Tryd.func81, Tryd.ntmps81
  refine wp_seq_k fun KK1 hKK1 => rl_begin fun hgK hgo => tk 2 .nilIface ?_
  simp only [pp]
  refine rl_end hgo <| hKK1 _ _ <| wp_seq_k fun KK2 hKK2 => wp_seq_k fun KK3 hKK3 => rl_begin fun hgK hgo => tk 3 (.slice A 0 c) <| tk 4 (.int .i64 0) ?_
  simp only [pp]
  refine rl_end hgo <| hKK3 _ _ <| wp_block <| wp_seq_k fun KK4 hKK4 => rl_begin fun hgK hgo => ?_
  refine tx 6 (.bool true) (by exact eqt (x := 0) (y := 0) (by omega)) <| tk 5 (.bool true) ?_
  simp only [pp]
  refine rl_end hgo <| hKK4 _ _ <| wp_cond_true (by kernel_rfl) <| wp_seq_k fun KK5 hKK5 => rl_begin fun hgK hgo => tk 2 .nilIface ?_
  simp only [pp]
  refine rl_end hgo <| hKK5 _ _ ?_
  refine wp_ret ?_
  try simp only [Exit.then, Exit.inBlock]
  refine bp_ret (v := .nilIface) (res1 rfl (res_tmp (by kernel_rfl))) ?_
  exact ⟨_, rfl, hB, .inl ⟨rfl, rfl⟩⟩
set_option maxRecDepth 100000 in
set_option maxHeartbeats 8000000 in
theorem grown_1 (g off c b : Nat) (l : List UInt8) (w : World) (hc : w.cell? ⟨g, off + 0, none⟩ = some (.pointer (some ⟨b, 0, none⟩))) (hb : LeafAt w b l) (h0 : 0 < l.length) (h1 : l.length ≤ 4096) :
    Calls Tryd.prog 81 #[.slice (some ⟨g, off, none⟩) 1 c] w (NodeP l w) := by
  have hB := Ltr.refl w
  go_enter Tryd.func81, Tryd.ntmps81
  refine wp_seq_k fun KK1 hKK1 => rl_begin fun hgK hgo => tk 2 .nilIface ?_
  simp only [pp]
  refine rl_end hgo <| hKK1 _ _ <| wp_seq_k fun KK2 hKK2 => wp_seq_k fun KK3 hKK3 => rl_begin fun hgK hgo => tk 3 (.slice (some ⟨g, off, none⟩) 1 c) <| tk 4 (.int .i64 1) ?_
  simp only [pp]
  refine rl_end hgo <| hKK3 _ _ <| wp_block <| wp_seq_k fun KK4 hKK4 => rl_begin fun hgK hgo => ?_
  refine tx 6 (.bool false) (by exact eqf (x := 1) (y := 0) (by omega)) <| tk 5 (.bool false) ?_
  simp only [pp]
  refine rl_end hgo <| hKK4 _ _ <| wp_cond_false (by kernel_rfl) <| wp_seq_k fun KK5 hKK5 => rl_begin fun hgK hgo => ?_
  refine tx 8 (.bool true) (by exact eqt (x := 1) (y := 1) (by omega)) <| tk 7 (.bool true) ?_
  simp only [pp]
  refine rl_end hgo <| hKK5 _ _ <| wp_cond_true (by kernel_rfl) <| wp_seq_k fun KK6 hKK6 => wp_seq_k fun KK7 hKK7 => rl_begin fun hgK hgo => tk 9 (.slice (some ⟨g, off, none⟩) 1 c) ?_
  simp only [pp]
  refine tx 10 (.pointer (some ⟨g, off + 0, none⟩)) (by exact ex_index 0 rfl rfl rfl (by kernel_rfl) (fun _ => by kernel_rfl) (by omega) _) ?_
  simp only [pp]
  refine tx 11 (.pointer (some ⟨b, 0, none⟩)) (by exact ld1 116 _ rfl g (off + 0) rfl (fun _ => by kernel_rfl) _ (bl_cell hB hc)) ?_
  simp only [pp]
  refine rl_call (some 12) 103 #[.pointer (some ⟨b, 0, none⟩)] rfl (by kernel_rfl) (by kernel_rfl) (LLen_any b l _ hb) ?_
  rintro e w8 ⟨rfl, hL8⟩
  refine ⟨_, rfl, ?_⟩
  have hz8 := hL8.size
  try simp only [pp]
  refine tx 13 (.bool false) (by exact eqf (x := l.length) (y := 0) (by omega)) ?_
  simp only [pp]
  refine rl_end hgo <| hKK7 _ _ <| wp_cond_false (by kernel_rfl) <| wp_skip <| hKK6 _ _ <| wp_seq_k fun KK9 hKK9 => rl_begin fun hgK hgo => tk 14 (.slice (some ⟨g, off, none⟩) 1 c) ?_
  simp only [pp]
  refine tx 15 (.pointer (some ⟨g, off + 0, none⟩)) (by exact ex_index 0 rfl rfl rfl (by kernel_rfl) (fun _ => by kernel_rfl) (by omega) _) ?_
  simp only [pp]
  replace hB := hB.later hL8
  refine tx 16 (.pointer (some ⟨b, 0, none⟩)) (by exact ld1 116 _ rfl g (off + 0) rfl (fun _ => by kernel_rfl) _ (bl_cell hB hc)) <| tk 17 (.agg #[.pointer (some ⟨b, 0, none⟩)]) <| tk 18 (.iface 118 (.agg #[.pointer (some ⟨b, 0, none⟩)])) <| tk 2 (.iface 118 (.agg #[.pointer (some ⟨b, 0, none⟩)])) ?_
  simp only [pp]
  refine rl_end hgo <| hKK9 _ _ ?_
  refine wp_ret ?_
  try simp only [Exit.then, Exit.inBlock]
  refine bp_ret (v := .iface 118 (.agg #[.pointer (some ⟨b, 0, none⟩)])) (res1 rfl (res_tmp (by kernel_rfl))) ?_
  replace hb := hb.later hL8
  exact ⟨_, rfl, hB, .inr ⟨.tip l, ⟨h0, h1⟩, rfl, Tree.tip_mk hb⟩⟩
theorem sum_take_drop (ls : List (List UInt8)) (k : Nat) : ((ls.take k).drop 0).flatten ++ ((ls.take ls.length).drop k).flatten = ls.flatten := by
  rw [List.drop_zero, List.take_of_length_le (Nat.le_refl _), ← List.flatten_append, List.take_append_drop]
set_option maxRecDepth 100000 in
set_option maxHeartbeats 8000000 in
theorem grown_2 (A : Option Addr) (c : Nat) (xs : List Value) (ls : List (List UInt8)) (w : World) (hT : Tabs w) (hn : 2 ≤ xs.length) (hm : xs.length ≤ 200000000) (hX1 : CellsAt w (cutA A c 0) ((xs.take (xs.length / 2)).drop 0)) (hX2 : CellsAt w (cutA A c (xs.length / 2)) ((xs.take xs.length).drop (xs.length / 2)))
    (hV : LeavesC w xs ls) (hc : xs.length ≤ c) (hlen : ls.flatten.length ≤ 200000000)
    (ih : ∀ A c xs ls' w, ls'.length < ls.length → Tabs w → CellsAt w A xs → LeavesC w xs ls' → xs.length ≤ c → okL ls' → ls'.flatten.length ≤ 200000000 → Calls Tryd.prog 81 #[.slice A xs.length c] w (NodeP ls'.flatten w)) (ho : okL ls) :
    Calls Tryd.prog 81 #[.slice A xs.length c] w (NodeP ls.flatten w) := by
  have hB := Ltr.refl w
  have hVl := hV.1
  have IH := Lib.hid ih
  clear ih
  have hs := congrArg List.length (sum_take_drop ls (xs.length / 2))
  rw [List.length_append] at hs
  have hj := sum_take_drop ls (xs.length / 2)
  rw [← hVl] at hj hs
  have k1 : ((xs.take (xs.length / 2)).drop 0).length = xs.length / 2 := by simp; omega
  have k2 : ((xs.take xs.length).drop (xs.length / 2)).length = xs.length - xs.length / 2 := by simp
  have k3 : ((ls.take (xs.length / 2)).drop 0).length = xs.length / 2 := by simp; omega
  have k4 : ((ls.take xs.length).drop (xs.length / 2)).length = xs.length - xs.length / 2 := by simp; omega
  have HJ := Lib.hid hj
  clear hj
  go_enter Tryd.func81, Tryd.ntmps81
  have h4 := hT.four
  refine wp_seq_k fun KK1 hKK1 => rl_begin fun hgK hgo => tk 2 .nilIface ?_
  simp only [pp]
  refine rl_end hgo <| hKK1 _ _ <| wp_seq_k fun KK2 hKK2 => wp_seq_k fun KK3 hKK3 => rl_begin fun hgK hgo => tk 3 (.slice A xs.length c) <| tk 4 (.int .i64 xs.length) ?_
  simp only [pp]
  refine rl_end hgo <| hKK3 _ _ <| wp_block <| wp_seq_k fun KK4 hKK4 => rl_begin fun hgK hgo => ?_
  refine tx 6 (.bool false) (by exact eqf (x := xs.length) (y := 0) (by omega)) <| tk 5 (.bool false) ?_
  simp only [pp]
  refine rl_end hgo <| hKK4 _ _ <| wp_cond_false (by kernel_rfl) <| wp_seq_k fun KK5 hKK5 => rl_begin fun hgK hgo => ?_
  refine tx 8 (.bool false) (by exact eqf (x := xs.length) (y := 1) (by omega)) <| tk 7 (.bool false) ?_
  simp only [pp]
  refine rl_end hgo <| hKK5 _ _ <| wp_cond_false (by kernel_rfl) <| wp_skip <| hKK2 _ _ <| wp_seq_k fun KK6 hKK6 => ?_
  refine rm_begin (fun W => Ltr w W) (by kernel_rfl) (by exact bl_drew (bl_refl _)) fun K7 hgo w7 hE hS7 => ?_
  have hv7 : Ltr w w7 := by rw [hE]; exact bl_drew (bl_refl _)
  have hz7 := hv7.size
  clear hE hS7
  refine mk 0 19 (.slice A xs.length c) <| mk 1 20 (.slice A xs.length c) <| mk 2 21 (.int .i64 xs.length) ?_
  try simp only [pp]
  refine mx 3 22 (.int .i64 ((xs.length / 2 : Nat) : Int)) rfl (fun W hW => by (exact ex_half xs.length rfl rfl rfl (by kernel_rfl) (by omega) _)) ?_
  try simp only [pp]
  refine mx 4 23 (.slice (cutA A c 0) (((xs.take (xs.length / 2)).drop 0).length) (c - 0)) rfl (fun W hW => by (exact ex_cutN 0 (xs.length / 2) (((xs.take (xs.length / 2)).drop 0).length) (by omega) rfl rfl (.inr ⟨rfl, rfl⟩) (.inl rfl) (by kernel_rfl) (fun _ => by kernel_rfl) (by omega) (by omega) (by omega) _)) <| mk 6 25 (.slice A xs.length c) <| mk 7 26 (.slice A xs.length c) <| mk 8 27 (.int .i64 xs.length) ?_
  try simp only [pp]
  refine mx 9 28 (.int .i64 ((xs.length / 2 : Nat) : Int)) rfl (fun W hW => by (exact ex_half xs.length rfl rfl rfl (by kernel_rfl) (by omega) _)) ?_
  try simp only [pp]
  refine mx 10 29 (.slice (cutA A c (xs.length / 2)) (((xs.take xs.length).drop (xs.length / 2)).length) (c - (xs.length / 2))) rfl (fun W hW => by (exact ex_cutN (xs.length / 2) xs.length (((xs.take xs.length).drop (xs.length / 2)).length) (by omega) rfl rfl (.inl rfl) (.inr ⟨rfl, rfl⟩) (by kernel_rfl) (fun _ => by kernel_rfl) (by omega) (by omega) (by omega) _)) ?_
  try simp only [pp]
  refine rm_pick1 (i := 5) (by kernel_rfl) ?_
  refine rm_callx (some 24) 81 #[.slice (cutA A c 0) (((xs.take (xs.length / 2)).drop 0).length) (c - 0)] rfl rfl (by kernel_rfl) (fun W hW => by kernel_rfl) (fun W hlz hW => IH.out _ (c - 0) _ ((ls.take (xs.length / 2)).drop 0) _ (by omega) (hT.later (show Ltr w W from hW)) (hX1.later (show Ltr w W from hW)) ((hV.later (show Ltr w W from hW)).cut 0 (xs.length / 2)) (by omega) (ho.cut 0 (xs.length / 2)) (by omega)) (by rintro W e w' ⟨v1, rfl, hL8, hv1⟩; exact hL8) (fun _ _ h k => Ltr.trans h k) ?_
  rintro q8 e w8 hq8 hQ8 ⟨v1, rfl, hL8, hv1⟩ hS8
  refine ⟨_, rfl, ?_⟩
  have hz8 := hL8.size
  have hy8 := hq8.size
  try simp only [pp]
  refine rm_pick1 (i := 11) (by kernel_rfl) ?_
  refine rm_callx (some 30) 81 #[.slice (cutA A c (xs.length / 2)) (((xs.take xs.length).drop (xs.length / 2)).length) (c - (xs.length / 2))] rfl rfl (by kernel_rfl) (fun W hW => by kernel_rfl) (fun W hlz hW => IH.out _ (c - xs.length / 2) _ ((ls.take xs.length).drop (xs.length / 2)) _ (by omega) (hT.later (show Ltr w W from hW)) (hX2.later (show Ltr w W from hW)) ((hV.later (show Ltr w W from hW)).cut (xs.length / 2) xs.length) (by omega) (ho.cut (xs.length / 2) xs.length) (by omega)) (by rintro W e w' ⟨v2, rfl, hL9, hv2⟩; exact hL9) (fun _ _ h k => Ltr.trans h k) ?_
  rintro q9 e w9 hq9 hQ9 ⟨v2, rfl, hL9, hv2⟩ hS9
  refine ⟨_, rfl, ?_⟩
  replace hv1 := (hv1.later hq9).later hL9
  have hz9 := hL9.size
  have hy9 := hq9.size
  try simp only [pp]
  refine rm_pick1 (i := 12) (by kernel_rfl) ?_
  refine rm_callx (some 31) 83 #[v1, v2] rfl rfl (by kernel_rfl) (fun W hW => by kernel_rfl) (fun W hlz hW => join_any _ _ v1 v2 _ (hT.later (show Ltr w W from hW)) (hv1.later hlz) (hv2.later hlz) (by omega)) (by rintro W e w' ⟨v, rfl, hL10, hv⟩; exact hL10) (fun _ _ h k => Ltr.trans h k) ?_
  rintro q10 e w10 hq10 hQ10 ⟨v, rfl, hL10, hv⟩ hS10
  refine ⟨_, rfl, ?_⟩
  replace hv1 := (hv1.later hq10).later hL10
  replace hv2 := (hv2.later hq10).later hL10
  have hz10 := hL10.size
  have hy10 := hq10.size
  try simp only [pp]
  refine mk 13 2 v ?_
  try simp only [pp]
  refine rm_done (by kernel_rfl) (fun w11 hL11 hS11 => hgo.out _ _ ?_) _
  clear hgo K7
  have hz11 := (show Ltr w _ from hS11).size
  have hy11 := hL11.size
  refine hKK6 _ _ ?_
  refine wp_ret ?_
  try simp only [Exit.then, Exit.inBlock]
  refine bp_ret (v := v) (res1 rfl (res_tmp (by kernel_rfl))) ?_
  replace hv := hv.later hL11
  replace hB := hB.later (show Ltr w _ from hS11)
  exact ⟨_, rfl, hB, by rw [← HJ.out]; exact hv⟩
theorem grown_any (k : Nat) : ∀ (A : Option Addr) (c : Nat) (xs : List Value) (ls : List (List UInt8)) (w : World), ls.length ≤ k → Tabs w → CellsAt w A xs → LeavesC w xs ls → xs.length ≤ c → okL ls → ls.flatten.length ≤ 200000000 →
    Calls Tryd.prog 81 #[.slice A xs.length c] w (NodeP ls.flatten w) := by
  induction k with
  | zero =>
    intro A c xs ls w hk hT hX hV hc ho hm
    have h0 : xs.length = 0 := by have := hV.1; omega
    rw [h0]
    obtain rfl : ls = [] := List.eq_nil_of_length_eq_zero (by omega)
    exact grown_0 A c w
  | succ k ih =>
    intro A c xs ls w hk hT hX hV hc ho hm
    have hl := hV.1
    by_cases h0 : ls.length = 0
    · rw [show xs.length = 0 by omega]
      obtain rfl : ls = [] := List.eq_nil_of_length_eq_zero h0
      exact grown_0 A c w
    by_cases h1 : ls.length = 1
    · obtain ⟨l, rfl⟩ : ∃ l, ls = [l] := List.length_eq_one_iff.1 h1
      rw [show xs.length = 1 by omega]
      obtain ⟨g, off, rfl, hcell⟩ := hX (by omega)
      obtain ⟨b, e1, e2⟩ := hV.2 0 (by simp)
      have := grown_1 g off c b l w (hcell 0 _ e1) (by simpa using e2) (ho l (by simp)).1 (ho l (by simp)).2
      simpa using this
    · have hbig : xs.length ≤ 200000000 := by
        have : ∀ ls : List (List UInt8), okL ls → ls.length ≤ ls.flatten.length := by
          intro ls
          induction ls with
          | nil => intro _; simp
          | cons a r ih2 => intro h; have h1 := ih2 (fun p hp => h p (by simp [hp])); have h2 := h a (by simp); rw [List.flatten_cons, List.length_append, List.length_cons]; omega
        have := this ls ho; omega
      refine grown_2 A c xs ls w hT (by omega) hbig ?_ ?_ hV hc hm (fun A c xs ls' w hlt => ih A c xs ls' w (by omega)) ho
      · exact hX.cut c 0 (xs.length / 2) (by omega) (by omega) hc
      · exact hX.cut c (xs.length / 2) xs.length (by omega) (by omega) hc
theorem Node.form {w : World} {l : List UInt8} {v : Value} (h : Node w l v) : v = .nilIface ∨ ∃ ty x, v = .iface ty x := h.elim (fun h => .inl h.2) (fun ⟨t, _, _, ht⟩ => .inr ht.iface)
theorem ex_build_node {o : Oper} {ρ : Operand → Value} {x : Operand} {v : Value} (ho : o.op = .build 110 #[(0, x)]) (hx : ρ x = v) (hv : v = .nilIface ∨ ∃ ty x, v = .iface ty x) (w : World) :
    (execOp ρ o).run Tryd.prog w = .ok (.value (.agg #[v])) w := by
  have h : (execOp ρ o) = (do pure (Next.value (← Instr.build 110 #[(0, v)]))) := by
    unfold execOp; simp only [ho]; simp [hx]
  rw [h]
  clear h hx
  rcases hv with rfl | ⟨ty, z, rfl⟩
  · show Sem.run _ _ _ = _
    kernel_rfl
  · show Sem.run _ _ _ = _
    kernel_rfl
/-- a rope in memory -/
def RopeAt (w : World) (b : Nat) (l : List UInt8) : Prop := ∃ v, Blk w b 110 #[v] ∧ Node w l v
theorem RopeAt.later {w w' : World} {b : Nat} {l : List UInt8} (h : RopeAt w b l) (hl : Ltr w w') : RopeAt w' b l := let ⟨v, h1, h2⟩ := h; ⟨v, h1.later hl, h2.later hl⟩
def NewP (l : List UInt8) (w : World) (e : Ending) (w' : World) : Prop := ∃ b, e = .returned (.tuple #[.pointer (some ⟨b, 0, none⟩), .int .i64 0]) ∧ Ltr w w' ∧ RopeAt w' b l ∧ w.heap.size ≤ b
set_option maxRecDepth 100000 in
set_option maxHeartbeats 8000000 in
theorem New_any (A : Option Addr) (c : Nat) (l : List UInt8) (w : World) (hT : Tabs w) (hA : BytesAt w A l) (hc : l.length ≤ c) (hm : l.length ≤ 200000000) :
    Calls Tryd.prog 36 #[.slice A l.length c] w (NewP l w) := by
  have hB := Ltr.refl w
  go_enter Tryd.func36, Tryd.ntmps36
  have h4 := hT.four
  refine wp_seq_k fun KK1 hKK1 => rl_begin fun hgK hgo => tk 2 (.pointer none) <| tk 3 (.int .i64 0) ?_
  simp only [pp]
  refine rl_end hgo <| hKK1 _ _ <| wp_seq_k fun KK2 hKK2 => wp_seq_k fun KK3 hKK3 => rl_begin fun hgK hgo => tk 6 (.slice A l.length c) <| tk 7 (.int .i64 l.length) ?_
  simp only [pp]
  refine tx 8 (.bool false) (by exact ebf (c := (l.length : Int) > 268435456) (by omega)) ?_
  simp only [pp]
  refine rl_end hgo <| hKK3 _ _ <| wp_cond_false (by kernel_rfl) <| wp_skip <| hKK2 _ _ <| wp_seq_k fun KK4 hKK4 => rl_begin fun hgK hgo => tk 10 (.slice A l.length c) ?_
  simp only [pp]
  refine rl_call (some 11) 80 #[.slice A l.length c, .int .i64 4096] rfl (by kernel_rfl) (by kernel_rfl) (Cut_any A c l _ hT hA hc hm) ?_
  rintro e w5 ⟨A1, c1, xs, ls, rfl, hL5, hc1, hX, hx1, hx2, hx3, hx4⟩
  refine ⟨_, rfl, ?_⟩
  have hz5 := hL5.size
  (have hV : LeavesC _ xs ls := ⟨hx1, hx2⟩); clear hx2
  try simp only [pp]
  refine tk 9 (.tuple #[.slice A1 xs.length c1, .int .i64 0]) <| tk 12 (.slice A1 xs.length c1) <| tk 13 (.int .i64 0) <| tk 4 (.slice A1 xs.length c1) <| tk 5 (.int .i64 0) ?_
  simp only [pp]
  refine rl_end hgo <| hKK4 _ _ <| wp_seq_k fun KK6 hKK6 => wp_seq_k fun KK7 hKK7 => rl_begin fun hgK hgo => tk 14 (.int .i64 0) ?_
  simp only [pp]
  refine tx 15 (.bool false) (by exact nef (x := 0) (y := 0) (by omega)) ?_
  simp only [pp]
  refine rl_end hgo <| hKK7 _ _ <| wp_cond_false (by kernel_rfl) <| wp_skip <| hKK6 _ _ <| wp_seq_k fun KK8 hKK8 => rl_begin fun hgK hgo => tk 17 (.slice A1 xs.length c1) ?_
  simp only [pp]
  replace hT := hT.later hL5
  refine rl_call (some 18) 81 #[.slice A1 xs.length c1] rfl (by kernel_rfl) (by kernel_rfl) (grown_any ls.length A1 c1 xs ls _ (Nat.le_refl _) hT hX hV hc1 hx4 (by rw [hx3]; exact hm)) ?_
  rintro e w9 ⟨v, rfl, hL9, hv⟩
  refine ⟨_, rfl, ?_⟩
  have hz9 := hL9.size
  rw [hx3] at hv
  try simp only [pp]
  refine tx 19 (.agg #[v]) (by exact ex_build_node (x := Go.Operand.tmp 18) (v := v) rfl rfl hv.form _) ?_
  simp only [pp]
  refine rl_alloc (some 20) 110 #[v] rfl (by kernel_rfl) (fun W => by kernel_rfl) fun q w10 hL10 hp10 hq => ?_
  have hz10 := hL10.size
  have hlt10 := hq.lt
  try simp only [pp]
  refine tk 2 (.pointer (some ⟨q, 0, none⟩)) <| tk 3 (.int .i64 0) ?_
  simp only [pp]
  refine rl_end hgo <| hKK8 _ _ ?_
  refine wp_ret ?_
  try simp only [Exit.then, Exit.inBlock]
  refine bp_ret (v := .tuple #[.pointer (some ⟨q, 0, none⟩), .int .i64 0]) (res2 rfl (res_tmp (by kernel_rfl)) (res_tmp (by kernel_rfl))) ?_
  replace hB := ((hB.later hL5).later hL9).later hL10
  replace hv := hv.later hL10
  exact ⟨_, rfl, hB, ⟨v, hq, hv⟩, by omega⟩
end Go.Proofs.YtliphfgiaioebaaDoor
