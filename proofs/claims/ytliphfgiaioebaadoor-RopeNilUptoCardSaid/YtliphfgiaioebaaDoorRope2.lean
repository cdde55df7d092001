/-
  Package rope: pair, level.
-/
import Derived.Test.YtliphfgiaioebaaDoorRope
namespace Go.Proofs.YtliphfgiaioebaaDoor
set_option linter.unusedVariables false
set_option linter.unusedSimpArgs false
open Go.RowKit

theorem Tr.len_fork (x y : Tr) : (Tr.fork x y).bytes.length = x.bytes.length + y.bytes.length := by simp [Tr.bytes]
theorem Tr.h_fork (x y : Tr) : (Tr.fork x y).h = 1 + max x.h y.h := rfl
theorem Tr.b_fork (x y : Tr) : (Tr.fork x y).bytes = x.bytes ++ y.bytes := rfl
set_option maxRecDepth 100000 in
set_option maxHeartbeats 4000000 in
theorem pair_any (x y : Tr) (vx vy : Value) (w : World) (hT : Tabs w) (hx : Tree w x vx) (hy : Tree w y vy) (hm : x.bytes.length + y.bytes.length ≤ 268435456) (h1 : x.h ≤ 268435456) (h2 : y.h ≤ 268435456) :
    Calls Tryd.prog 107 #[vx, vy] w fun e w' => ∃ v, e = .returned v ∧ Ltr w w' ∧ Tree w' (.fork x y) v := by
  have hB := Ltr.refl w
  obtain ⟨f1, x1, e1, c1⟩ := inv_size hx
  obtain ⟨f2, x2, e2, c2⟩ := inv_size hy
  obtain ⟨f3, x3, e3, c3⟩ := inv_height hx
  obtain ⟨f4, x4, e4, c4⟩ := inv_height hy
  obtain ⟨f5, x5, e5, c5⟩ := inv_weld hx
  obtain ⟨f6, x6, e6, c6⟩ := inv_weld hy
  have hl : (x.bytes ++ y.bytes).length = x.bytes.length + y.bytes.length := List.length_append
  obtain ⟨t1, z1, rfl⟩ := hx.iface
  obtain ⟨t2, z2, rfl⟩ := hy.iface
  go_enter Tryd.func107, Tryd.ntmps107
  have h4 := hT.four
  refine wp_seq_k fun KK1 hKK1 => ?_
  refine rl_begin fun hgK hgo => ?_
  refine rl_take (some 4) (.nilIface) rfl (by kernel_rfl) (by kernel_rfl) ?_
  try simp only [pa, pn, pb, pc, pd]
  refine rl_nil ?_
  refine hgo.out _ _ ?_
  clear hgo hgK
  refine hKK1 _ _ ?_
  refine wp_seq_k fun KK2 hKK2 => ?_
  refine rl_begin fun hgK hgo => ?_
  refine rl_take (some 5) (.iface t1 z1) rfl (by kernel_rfl) (by kernel_rfl) ?_
  try simp only [pa, pn, pb, pc, pd]
  refine rl_take (some 6) (.iface t2 z2) rfl (by kernel_rfl) (by kernel_rfl) ?_
  try simp only [pa, pn, pb, pc, pd]
  refine rl_take (some 7) (.iface t1 z1) rfl (by kernel_rfl) (by kernel_rfl) ?_
  try simp only [pa, pn, pb, pc, pd]
  refine rl_call (some 8) f1 #[x1] rfl (by kernel_rfl) (by exact e1 _ _ _ _ rfl rfl) (c1 _ hB) ?_
  rintro e w3 ⟨rfl, hL3⟩
  refine ⟨_, rfl, ?_⟩
  replace hT := hT.later hL3
  replace hB := hB.later hL3
  replace hx := hx.later hL3
  replace hy := hy.later hL3
  have hz3 := hL3.size
  try simp only [pa, pn, pb, pc, pd]
  refine rl_take (some 9) (.iface t2 z2) rfl (by kernel_rfl) (by kernel_rfl) ?_
  try simp only [pa, pn, pb, pc, pd]
  refine rl_call (some 10) f2 #[x2] rfl (by kernel_rfl) (by exact e2 _ _ _ _ rfl rfl) (c2 _ hB) ?_
  rintro e w4 ⟨rfl, hL4⟩
  refine ⟨_, rfl, ?_⟩
  replace hT := hT.later hL4
  replace hB := hB.later hL4
  replace hx := hx.later hL4
  replace hy := hy.later hL4
  have hz4 := hL4.size
  try simp only [pa, pn, pb, pc, pd]
  refine rl_take (some 11) (.int .i64 ((x.bytes ++ y.bytes).length)) rfl (by kernel_rfl) (by exact ex_arith (e := (x.bytes.length : Int) + y.bytes.length) (r := (x.bytes ++ y.bytes).length) (by kernel_rfl) (by omega) (by omega)) ?_
  try simp only [pa, pn, pb, pc, pd]
  refine rl_take (some 12) (.iface t1 z1) rfl (by kernel_rfl) (by kernel_rfl) ?_
  try simp only [pa, pn, pb, pc, pd]
  refine rl_call (some 13) f3 #[x3] rfl (by kernel_rfl) (by exact e3 _ _ _ _ rfl rfl) (c3 _ hB) ?_
  rintro e w5 ⟨rfl, hL5⟩
  refine ⟨_, rfl, ?_⟩
  replace hT := hT.later hL5
  replace hB := hB.later hL5
  replace hx := hx.later hL5
  replace hy := hy.later hL5
  have hz5 := hL5.size
  try simp only [pa, pn, pb, pc, pd]
  refine rl_take (some 14) (.iface t2 z2) rfl (by kernel_rfl) (by kernel_rfl) ?_
  try simp only [pa, pn, pb, pc, pd]
  refine rl_call (some 15) f4 #[x4] rfl (by kernel_rfl) (by exact e4 _ _ _ _ rfl rfl) (c4 _ hB) ?_
  rintro e w6 ⟨rfl, hL6⟩
  refine ⟨_, rfl, ?_⟩
  replace hT := hT.later hL6
  replace hB := hB.later hL6
  replace hx := hx.later hL6
  replace hy := hy.later hL6
  have hz6 := hL6.size
  try simp only [pa, pn, pb, pc, pd]
  refine rl_take (some 16) (.int .i64 (max ((x.h : Int) : Int) (y.h : Int))) rfl (by kernel_rfl) (by exact ex_max2 (a := (x.h : Int)) (b := (y.h : Int)) rfl rfl rfl (r := max ((x.h : Int) : Int) (y.h : Int)) (by omega)) ?_
  try simp only [pa, pn, pb, pc, pd]
  refine rl_take (some 17) (.int .i64 (((1 + max x.h y.h : Nat) : Int))) rfl (by kernel_rfl) (by exact ex_arith (e := (1 : Int) + (max ((x.h : Int) : Int) (y.h : Int))) (r := ((1 + max x.h y.h : Nat) : Int)) (by kernel_rfl) (by omega) (by omega)) ?_
  try simp only [pa, pn, pb, pc, pd]
  refine rl_take (some 18) (.iface t1 z1) rfl (by kernel_rfl) (by kernel_rfl) ?_
  try simp only [pa, pn, pb, pc, pd]
  refine rl_call (some 19) f5 #[x5] rfl (by kernel_rfl) (by exact e5 _ _ _ _ rfl rfl) (c5 _ hB) ?_
  rintro e w7 ⟨rfl, hL7⟩
  refine ⟨_, rfl, ?_⟩
  replace hT := hT.later hL7
  replace hB := hB.later hL7
  replace hx := hx.later hL7
  replace hy := hy.later hL7
  have hz7 := hL7.size
  try simp only [pa, pn, pb, pc, pd]
  refine rl_take (some 20) (.iface t2 z2) rfl (by kernel_rfl) (by kernel_rfl) ?_
  try simp only [pa, pn, pb, pc, pd]
  refine rl_call (some 21) f6 #[x6] rfl (by kernel_rfl) (by exact e6 _ _ _ _ rfl rfl) (c6 _ hB) ?_
  rintro e w8 ⟨rfl, hL8⟩
  refine ⟨_, rfl, ?_⟩
  replace hT := hT.later hL8
  replace hB := hB.later hL8
  replace hx := hx.later hL8
  replace hy := hy.later hL8
  have hz8 := hL8.size
  try simp only [pa, pn, pb, pc, pd]
  refine rl_call (some 22) 61 #[.agg #[.int .i64 (x.bytes).length, .int .i64 (runesN (x.bytes)), .int .i64 (unitsN (x.bytes)), .int .i64 (endsN (x.bytes)), .string (bs (headOf (x.bytes))), .string (bs (tailOf (x.bytes)))], .agg #[.int .i64 (y.bytes).length, .int .i64 (runesN (y.bytes)), .int .i64 (unitsN (y.bytes)), .int .i64 (endsN (y.bytes)), .string (bs (headOf (y.bytes))), .string (bs (tailOf (y.bytes)))]] rfl (by kernel_rfl) (by kernel_rfl) (rboth_any x.bytes y.bytes hm _ hT) ?_
  rintro e w9 ⟨rfl, hL9⟩
  refine ⟨_, rfl, ?_⟩
  replace hT := hT.later hL9
  replace hB := hB.later hL9
  replace hx := hx.later hL9
  replace hy := hy.later hL9
  have hz9 := hL9.size
  try simp only [pa, pn, pb, pc, pd]
  refine rl_take (some 23) (.agg #[.iface t1 z1, .iface t2 z2, .int .i64 ((x.bytes ++ y.bytes).length), .int .i64 (((1 + max x.h y.h : Nat) : Int)), .int .i64 (x.bytes ++ y.bytes).length, .int .i64 (runesN (x.bytes ++ y.bytes)), .int .i64 (unitsN (x.bytes ++ y.bytes)), .int .i64 (endsN (x.bytes ++ y.bytes)), .string (bs (headOf (x.bytes ++ y.bytes))), .string (bs (tailOf (x.bytes ++ y.bytes)))]) rfl (by kernel_rfl) (by kernel_rfl) ?_
  try simp only [pa, pn, pb, pc, pd]
  refine rl_alloc (some 24) 115 #[.iface t1 z1, .iface t2 z2, .int .i64 ((x.bytes ++ y.bytes).length), .int .i64 (((1 + max x.h y.h : Nat) : Int)), .int .i64 (x.bytes ++ y.bytes).length, .int .i64 (runesN (x.bytes ++ y.bytes)), .int .i64 (unitsN (x.bytes ++ y.bytes)), .int .i64 (endsN (x.bytes ++ y.bytes)), .string (bs (headOf (x.bytes ++ y.bytes))), .string (bs (tailOf (x.bytes ++ y.bytes)))] rfl (by kernel_rfl) (fun W => by kernel_rfl) fun q w10 hL10 hp10 hq => ?_
  replace hT := hT.later hL10
  replace hB := hB.later hL10
  replace hx := hx.later hL10
  replace hy := hy.later hL10
  have hz10 := hL10.size
  have hlt10 := hq.lt
  try simp only [pa, pn, pb, pc, pd]
  refine rl_take (some 25) (.iface 111 (.pointer (some ⟨q, 0, none⟩))) rfl (by kernel_rfl) (by kernel_rfl) ?_
  try simp only [pa, pn, pb, pc, pd]
  refine rl_take (some 4) (.iface 111 (.pointer (some ⟨q, 0, none⟩))) rfl (by kernel_rfl) (by kernel_rfl) ?_
  try simp only [pa, pn, pb, pc, pd]
  refine rl_nil ?_
  refine hgo.out _ _ ?_
  clear hgo hgK
  refine hKK2 _ _ ?_
  refine wp_ret ?_
  try simp only [Exit.then, Exit.inBlock]
  refine bp_ret (v := .iface 111 (.pointer (some ⟨q, 0, none⟩))) (res1 rfl (res_tmp (by kernel_rfl))) ?_
  exact ⟨_, rfl, hB, Tree.fork_mk hq hx hy⟩
set_option maxRecDepth 100000 in
set_option maxHeartbeats 4000000 in
theorem level_c (x y : Tr) (vx vy : Value) (w : World) (hT : Tabs w) (hx : Tree w x vx) (hy : Tree w y vy) (hm : x.bytes.length + y.bytes.length ≤ 268435456) (h1 : x.h ≤ 268435456) (h2 : y.h ≤ 268435456)
    (d1 : x.h ≤ y.h + 1) (d2 : y.h ≤ x.h + 1) :
    Calls Tryd.prog 105 #[vx, vy] w fun e w' => ∃ v, e = .returned v ∧ Ltr w w' ∧ Tree w' (.fork x y) v := by
  have hB := Ltr.refl w
  obtain ⟨f1, x1, e1, c1⟩ := inv_height hx
  obtain ⟨f2, x2, e2, c2⟩ := inv_height hy
  go_enter Tryd.func105, Tryd.ntmps105
  have h4 := hT.four
  refine wp_seq_k fun KK1 hKK1 => ?_
  refine rl_begin fun hgK hgo => ?_
  refine rl_take (some 4) (.nilIface) rfl (by kernel_rfl) (by kernel_rfl) ?_
  try simp only [pa, pn, pb, pc, pd]
  refine rl_nil ?_
  refine hgo.out _ _ ?_
  clear hgo hgK
  refine hKK1 _ _ ?_
  refine wp_seq_k fun KK2 hKK2 => ?_
  refine wp_seq_k fun KK3 hKK3 => ?_
  refine rl_begin fun hgK hgo => ?_
  refine rl_take (some 10) (vx) rfl (by kernel_rfl) (by kernel_rfl) ?_
  try simp only [pa, pn, pb, pc, pd]
  refine rl_call (some 11) f1 #[x1] rfl (by kernel_rfl) (by exact e1 _ _ _ _ rfl rfl) (c1 _ hB) ?_
  rintro e w4 ⟨rfl, hL4⟩
  refine ⟨_, rfl, ?_⟩
  replace hT := hT.later hL4
  replace hB := hB.later hL4
  replace hx := hx.later hL4
  replace hy := hy.later hL4
  have hz4 := hL4.size
  try simp only [pa, pn, pb, pc, pd]
  refine rl_take (some 12) (vy) rfl (by kernel_rfl) (by kernel_rfl) ?_
  try simp only [pa, pn, pb, pc, pd]
  refine rl_call (some 13) f2 #[x2] rfl (by kernel_rfl) (by exact e2 _ _ _ _ rfl rfl) (c2 _ hB) ?_
  rintro e w5 ⟨rfl, hL5⟩
  refine ⟨_, rfl, ?_⟩
  replace hT := hT.later hL5
  replace hB := hB.later hL5
  replace hx := hx.later hL5
  replace hy := hy.later hL5
  have hz5 := hL5.size
  try simp only [pa, pn, pb, pc, pd]
  refine rl_take (some 14) (.int .i64 (((x.h : Int) : Int) - (y.h : Int))) rfl (by kernel_rfl) (by exact ex_arith (e := ((x.h : Int) : Int) - (y.h : Int)) (r := ((x.h : Int) : Int) - (y.h : Int)) (by kernel_rfl) (by omega) (by omega)) ?_
  try simp only [pa, pn, pb, pc, pd]
  refine rl_take (some 5) (.int .i64 (((x.h : Int) : Int) - (y.h : Int))) rfl (by kernel_rfl) (by kernel_rfl) ?_
  try simp only [pa, pn, pb, pc, pd]
  refine rl_nil ?_
  refine hgo.out _ _ ?_
  clear hgo hgK
  refine hKK3 _ _ ?_
  refine wp_block ?_
  refine wp_seq_k fun KK6 hKK6 => ?_
  refine rl_begin fun hgK hgo => ?_
  refine rl_take (some 16) (.int .i64 (((x.h : Int) : Int) - (y.h : Int))) rfl (by kernel_rfl) (by kernel_rfl) ?_
  try simp only [pa, pn, pb, pc, pd]
  refine rl_take (some 17) (.bool false) rfl (by kernel_rfl) (by exact ex_bool (c := ((((x.h : Int) : Int) - (y.h : Int)) : Int) > 1) (by kernel_rfl) ⟨fun q => (by cases q), fun q => absurd q (by omega)⟩) ?_
  try simp only [pa, pn, pb, pc, pd]
  refine rl_take (some 15) (.bool false) rfl (by kernel_rfl) (by kernel_rfl) ?_
  try simp only [pa, pn, pb, pc, pd]
  refine rl_nil ?_
  refine hgo.out _ _ ?_
  clear hgo hgK
  refine hKK6 _ _ ?_
  refine wp_cond_false (by kernel_rfl) ?_
  refine wp_seq_k fun KK7 hKK7 => ?_
  refine rl_begin fun hgK hgo => ?_
  refine rl_take (some 64) (.int .i64 (((x.h : Int) : Int) - (y.h : Int))) rfl (by kernel_rfl) (by kernel_rfl) ?_
  try simp only [pa, pn, pb, pc, pd]
  refine rl_take (some 65) (.bool false) rfl (by kernel_rfl) (by exact ex_bool (c := ((((x.h : Int) : Int) - (y.h : Int)) : Int) < (-1)) (by kernel_rfl) ⟨fun q => (by cases q), fun q => absurd q (by omega)⟩) ?_
  try simp only [pa, pn, pb, pc, pd]
  refine rl_take (some 63) (.bool false) rfl (by kernel_rfl) (by kernel_rfl) ?_
  try simp only [pa, pn, pb, pc, pd]
  refine rl_nil ?_
  refine hgo.out _ _ ?_
  clear hgo hgK
  refine hKK7 _ _ ?_
  refine wp_cond_false (by kernel_rfl) ?_
  refine wp_skip ?_
  refine hKK2 _ _ ?_
  refine wp_seq_k fun KK8 hKK8 => ?_
  refine rl_begin fun hgK hgo => ?_
  refine rl_take (some 111) (vx) rfl (by kernel_rfl) (by kernel_rfl) ?_
  try simp only [pa, pn, pb, pc, pd]
  refine rl_take (some 112) (vy) rfl (by kernel_rfl) (by kernel_rfl) ?_
  try simp only [pa, pn, pb, pc, pd]
  refine rl_call (some 113) 107 #[vx, vy] rfl (by kernel_rfl) (by kernel_rfl) (pair_any x y vx vy _ hT hx hy hm h1 h2) ?_
  rintro e w9 ⟨v, rfl, hL9, hv⟩
  refine ⟨_, rfl, ?_⟩
  replace hT := hT.later hL9
  replace hB := hB.later hL9
  replace hx := hx.later hL9
  replace hy := hy.later hL9
  have hz9 := hL9.size
  try simp only [pa, pn, pb, pc, pd]
  refine rl_take (some 4) (v) rfl (by kernel_rfl) (by kernel_rfl) ?_
  try simp only [pa, pn, pb, pc, pd]
  refine rl_nil ?_
  refine hgo.out _ _ ?_
  clear hgo hgK
  refine hKK8 _ _ ?_
  refine wp_ret ?_
  try simp only [Exit.then, Exit.inBlock]
  refine bp_ret (v := v) (res1 rfl (res_tmp (by kernel_rfl))) ?_
  exact ⟨_, rfl, hB, hv⟩
set_option maxRecDepth 100000 in
set_option maxHeartbeats 8000000 in
theorem level_a1 (p q y : Tr) (vx vy : Value) (w : World) (hT : Tabs w) (hx : Tree w (.fork p q) vx) (hy : Tree w y vy) (hm : p.bytes.length + q.bytes.length + y.bytes.length ≤ 268435456) (h1 : (Tr.fork p q).h ≤ 268435456) (h2 : y.h < 268435456)
    (d1 : y.h + 2 ≤ (Tr.fork p q).h) (d2 : q.h ≤ p.h) :
    Calls Tryd.prog 105 #[vx, vy] w fun e w' => ∃ v, e = .returned v ∧ Ltr w w' ∧ Tree w' (.fork p (.fork q y)) v := by
  have hB := Ltr.refl w
  obtain ⟨f1, x1, e1, c1⟩ := inv_height hx
  obtain ⟨f2, x2, e2, c2⟩ := inv_height hy
  obtain ⟨a, vp, vq, rfl, hb, hp, hq⟩ := hx.fork_open
  obtain ⟨f3, x3, e3, c3⟩ := inv_height hp
  obtain ⟨f4, x4, e4, c4⟩ := inv_height hq
  have hl := Tr.len_fork q y
  have hh := Tr.h_fork q y
  have hh' := Tr.h_fork p q
  go_enter Tryd.func105, Tryd.ntmps105
  have h4 := hT.four
  have hlt_hb := hb.lt
  refine wp_seq_k fun KK1 hKK1 => ?_
  refine rl_begin fun hgK hgo => ?_
  refine rl_take (some 4) (.nilIface) rfl (by kernel_rfl) (by kernel_rfl) ?_
  try simp only [pa, pn, pb, pc, pd]
  refine rl_nil ?_
  refine hgo.out _ _ ?_
  clear hgo hgK
  refine hKK1 _ _ ?_
  refine wp_seq_k fun KK2 hKK2 => ?_
  refine wp_seq_k fun KK3 hKK3 => ?_
  refine rl_begin fun hgK hgo => ?_
  refine rl_take (some 10) (.iface 111 (.pointer (some ⟨a, 0, none⟩))) rfl (by kernel_rfl) (by kernel_rfl) ?_
  try simp only [pa, pn, pb, pc, pd]
  refine rl_call (some 11) f1 #[x1] rfl (by kernel_rfl) (by exact e1 _ _ _ _ rfl rfl) (c1 _ hB) ?_
  rintro e w4 ⟨rfl, hL4⟩
  refine ⟨_, rfl, ?_⟩
  replace hT := hT.later hL4
  replace hB := hB.later hL4
  replace hp := hp.later hL4
  replace hq := hq.later hL4
  replace hy := hy.later hL4
  replace hb := hb.later hL4
  have hz4 := hL4.size
  try simp only [pa, pn, pb, pc, pd]
  refine rl_take (some 12) (vy) rfl (by kernel_rfl) (by kernel_rfl) ?_
  try simp only [pa, pn, pb, pc, pd]
  refine rl_call (some 13) f2 #[x2] rfl (by kernel_rfl) (by exact e2 _ _ _ _ rfl rfl) (c2 _ hB) ?_
  rintro e w5 ⟨rfl, hL5⟩
  refine ⟨_, rfl, ?_⟩
  replace hT := hT.later hL5
  replace hB := hB.later hL5
  replace hp := hp.later hL5
  replace hq := hq.later hL5
  replace hy := hy.later hL5
  replace hb := hb.later hL5
  have hz5 := hL5.size
  try simp only [pa, pn, pb, pc, pd]
  refine rl_take (some 14) (.int .i64 ((((Tr.fork p q).h : Int) : Int) - (y.h : Int))) rfl (by kernel_rfl) (by exact ex_arith (e := (((Tr.fork p q).h : Int) : Int) - (y.h : Int)) (r := (((Tr.fork p q).h : Int) : Int) - (y.h : Int)) (by kernel_rfl) (by omega) (by omega)) ?_
  try simp only [pa, pn, pb, pc, pd]
  refine rl_take (some 5) (.int .i64 ((((Tr.fork p q).h : Int) : Int) - (y.h : Int))) rfl (by kernel_rfl) (by kernel_rfl) ?_
  try simp only [pa, pn, pb, pc, pd]
  refine rl_nil ?_
  refine hgo.out _ _ ?_
  clear hgo hgK
  refine hKK3 _ _ ?_
  refine wp_block ?_
  refine wp_seq_k fun KK6 hKK6 => ?_
  refine rl_begin fun hgK hgo => ?_
  refine rl_take (some 16) (.int .i64 ((((Tr.fork p q).h : Int) : Int) - (y.h : Int))) rfl (by kernel_rfl) (by kernel_rfl) ?_
  try simp only [pa, pn, pb, pc, pd]
  refine rl_take (some 17) (.bool true) rfl (by kernel_rfl) (by exact ex_bool (c := (((((Tr.fork p q).h : Int) : Int) - (y.h : Int)) : Int) > 1) (by kernel_rfl) ⟨fun _ => by omega, fun _ => rfl⟩) ?_
  try simp only [pa, pn, pb, pc, pd]
  refine rl_take (some 15) (.bool true) rfl (by kernel_rfl) (by kernel_rfl) ?_
  try simp only [pa, pn, pb, pc, pd]
  refine rl_nil ?_
  refine hgo.out _ _ ?_
  clear hgo hgK
  refine hKK6 _ _ ?_
  refine wp_cond_true (by kernel_rfl) ?_
  refine wp_seq_k fun KK7 hKK7 => ?_
  refine rl_begin fun hgK hgo => ?_
  refine rl_take (some 18) (.iface 111 (.pointer (some ⟨a, 0, none⟩))) rfl (by kernel_rfl) (by kernel_rfl) ?_
  try simp only [pa, pn, pb, pc, pd]
  refine rl_take (some 19) (.pointer (some ⟨a, 0, none⟩)) rfl (by kernel_rfl) (by kernel_rfl) ?_
  try simp only [pa, pn, pb, pc, pd]
  refine rl_take (some 6) (.pointer (some ⟨a, 0, none⟩)) rfl (by kernel_rfl) (by kernel_rfl) ?_
  try simp only [pa, pn, pb, pc, pd]
  refine rl_nil ?_
  refine hgo.out _ _ ?_
  clear hgo hgK
  refine hKK7 _ _ ?_
  refine wp_seq_k fun KK8 hKK8 => ?_
  refine wp_seq_k fun KK9 hKK9 => ?_
  refine rm_begin (fun W => Ltr w5 W) (by kernel_rfl) (by exact bl_drew (bl_refl _)) fun K10 hgo w10 hE hS10 => ?_
  have hv10 : Ltr w5 w10 := by rw [hE]; exact bl_drew (bl_refl _)
  have hz10 := hv10.size
  clear hE hS10
  refine rm_take 0 (some 20) (.pointer (some ⟨a, 0, none⟩)) (oi := { dst := some 20, op := Go.Op.move (Go.Operand.tmp 6), type := 111, pos := "rope.go:56", after := #[], guard := none }) rfl rfl (by kernel_rfl) (by kernel_rfl) (by kernel_rfl) (by kernel_rfl) (fun W hW => by (kernel_rfl)) ?_
  try simp only [pa, pn, pb, pc, pd]
  refine rm_take 1 (some 21) (.pointer (some ⟨a, 0, none⟩)) (oi := { dst := some 21, op := Go.Op.nilCheck (Go.Operand.tmp 20), type := 0, pos := "rope.go:56", after := #[{ on := 0, ground := Go.Ground.data }], guard := none }) rfl rfl (by kernel_rfl) (by kernel_rfl) (by kernel_rfl) (by kernel_rfl) (fun W hW => by (kernel_rfl)) ?_
  try simp only [pa, pn, pb, pc, pd]
  refine rm_take 2 (some 22) (.pointer (some ⟨a, 0, none⟩)) (oi := { dst := some 22, op := Go.Op.fieldAddr 115 (Go.Operand.tmp 21) 0, type := 0, pos := "rope.go:56", after := #[{ on := 1, ground := Go.Ground.data }], guard := none }) rfl rfl (by kernel_rfl) (by kernel_rfl) (by kernel_rfl) (by kernel_rfl) (fun W hW => by (kernel_rfl)) ?_
  try simp only [pa, pn, pb, pc, pd]
  refine rm_take 3 (some 23) (vp) (oi := { dst := some 23, op := Go.Op.load 108 (Go.Operand.tmp 22), type := 108, pos := "rope.go:56", after := #[{ on := 2, ground := Go.Ground.data }], guard := none }) rfl rfl (by kernel_rfl) (by kernel_rfl) (by kernel_rfl) (by kernel_rfl) (fun W hW => by (exact ld1 108 _ rfl a 0 rfl (fun _ => by kernel_rfl) _ ((hb.later hW).cell 0))) ?_
  try simp only [pa, pn, pb, pc, pd]
  refine rm_call 4 (some 24) (.int .i64 (p.h : Int)) f3 #[x3] (oi := { dst := some 24, op := Go.Op.call { callee := Go.Callee.invoke (Go.Operand.tmp 23) "galley/rope.height", args := #[], argTypes := #[] }, type := 3, pos := "rope.go:56", after := #[{ on := 3, ground := Go.Ground.data }], guard := none }) rfl rfl (by kernel_rfl) (by kernel_rfl) (by kernel_rfl) (by kernel_rfl) (fun W hW => by exact e3 _ _ _ _ rfl rfl) (fun W hW => c3 _ (hB.later hW)) (fun _ _ h k => Ltr.trans h k) ?_
  try simp only [pa, pn, pb, pc, pd]
  refine rm_take 5 (some 25) (.pointer (some ⟨a, 0, none⟩)) (oi := { dst := some 25, op := Go.Op.move (Go.Operand.tmp 6), type := 111, pos := "rope.go:56", after := #[], guard := none }) rfl rfl (by kernel_rfl) (by kernel_rfl) (by kernel_rfl) (by kernel_rfl) (fun W hW => by (kernel_rfl)) ?_
  try simp only [pa, pn, pb, pc, pd]
  refine rm_take 6 (some 26) (.pointer (some ⟨a, 0, none⟩)) (oi := { dst := some 26, op := Go.Op.nilCheck (Go.Operand.tmp 25), type := 0, pos := "rope.go:56", after := #[{ on := 5, ground := Go.Ground.data }], guard := none }) rfl rfl (by kernel_rfl) (by kernel_rfl) (by kernel_rfl) (by kernel_rfl) (fun W hW => by (kernel_rfl)) ?_
  try simp only [pa, pn, pb, pc, pd]
  refine rm_take 7 (some 27) (.pointer (some ⟨a, 1, none⟩)) (oi := { dst := some 27, op := Go.Op.fieldAddr 115 (Go.Operand.tmp 26) 1, type := 0, pos := "rope.go:56", after := #[{ on := 6, ground := Go.Ground.data }], guard := none }) rfl rfl (by kernel_rfl) (by kernel_rfl) (by kernel_rfl) (by kernel_rfl) (fun W hW => by (kernel_rfl)) ?_
  try simp only [pa, pn, pb, pc, pd]
  refine rm_take 8 (some 28) (vq) (oi := { dst := some 28, op := Go.Op.load 108 (Go.Operand.tmp 27), type := 108, pos := "rope.go:56", after := #[{ on := 7, ground := Go.Ground.data }], guard := none }) rfl rfl (by kernel_rfl) (by kernel_rfl) (by kernel_rfl) (by kernel_rfl) (fun W hW => by (exact ld1 108 _ rfl a 1 rfl (fun _ => by kernel_rfl) _ ((hb.later hW).cell 1))) ?_
  try simp only [pa, pn, pb, pc, pd]
  refine rm_call 9 (some 29) (.int .i64 (q.h : Int)) f4 #[x4] (oi := { dst := some 29, op := Go.Op.call { callee := Go.Callee.invoke (Go.Operand.tmp 28) "galley/rope.height", args := #[], argTypes := #[] }, type := 3, pos := "rope.go:56", after := #[{ on := 8, ground := Go.Ground.data }, { on := 4, ground := Go.Ground.chain }], guard := none }) rfl rfl (by kernel_rfl) (by kernel_rfl) (by kernel_rfl) (by kernel_rfl) (fun W hW => by exact e4 _ _ _ _ rfl rfl) (fun W hW => c4 _ (hB.later hW)) (fun _ _ h k => Ltr.trans h k) ?_
  try simp only [pa, pn, pb, pc, pd]
  refine rm_take 10 (some 30) (.bool true) (oi := { dst := some 30, op := Go.Op.binOp Go.BinOp.geq 3 (Go.Operand.tmp 24) (Go.Operand.tmp 29) 3, type := 4, pos := "rope.go:56", after := #[{ on := 4, ground := Go.Ground.data }, { on := 9, ground := Go.Ground.data }], guard := none }) rfl rfl (by kernel_rfl) (by kernel_rfl) (by kernel_rfl) (by kernel_rfl) (fun W hW => by (exact ex_bool (c := ((p.h : Int) : Int) ≥ (q.h : Int)) (by kernel_rfl) ⟨fun _ => by omega, fun _ => rfl⟩)) ?_
  try simp only [pa, pn, pb, pc, pd]
  refine rm_done (by kernel_rfl) (fun w11 hL11 hS11 => hgo.out _ _ ?_) _
  clear hgo K10
  replace hT := hT.later (show Ltr w5 _ from hS11)
  replace hB := hB.later (show Ltr w5 _ from hS11)
  replace hp := hp.later (show Ltr w5 _ from hS11)
  replace hq := hq.later (show Ltr w5 _ from hS11)
  replace hy := hy.later (show Ltr w5 _ from hS11)
  replace hb := hb.later (show Ltr w5 _ from hS11)
  have hz11 := (show Ltr w5 _ from hS11).size
  have hy11 := hL11.size
  refine hKK9 _ _ ?_
  refine wp_cond_true (by kernel_rfl) ?_
  refine wp_seq_k fun KK12 hKK12 => ?_
  refine rm_begin (fun W => Ltr w11 W) (by kernel_rfl) (by exact bl_drew (bl_refl _)) fun K13 hgo w13 hE hS13 => ?_
  have hv13 : Ltr w11 w13 := by rw [hE]; exact bl_drew (bl_refl _)
  have hz13 := hv13.size
  clear hE hS13
  refine rm_take 0 (some 31) (.pointer (some ⟨a, 0, none⟩)) (oi := { dst := some 31, op := Go.Op.move (Go.Operand.tmp 6), type := 111, pos := "rope.go:57", after := #[], guard := none }) rfl rfl (by kernel_rfl) (by kernel_rfl) (by kernel_rfl) (by kernel_rfl) (fun W hW => by (kernel_rfl)) ?_
  try simp only [pa, pn, pb, pc, pd]
  refine rm_take 1 (some 32) (.pointer (some ⟨a, 0, none⟩)) (oi := { dst := some 32, op := Go.Op.nilCheck (Go.Operand.tmp 31), type := 0, pos := "rope.go:57", after := #[{ on := 0, ground := Go.Ground.data }], guard := none }) rfl rfl (by kernel_rfl) (by kernel_rfl) (by kernel_rfl) (by kernel_rfl) (fun W hW => by (kernel_rfl)) ?_
  try simp only [pa, pn, pb, pc, pd]
  refine rm_take 2 (some 33) (.pointer (some ⟨a, 0, none⟩)) (oi := { dst := some 33, op := Go.Op.fieldAddr 115 (Go.Operand.tmp 32) 0, type := 0, pos := "rope.go:57", after := #[{ on := 1, ground := Go.Ground.data }], guard := none }) rfl rfl (by kernel_rfl) (by kernel_rfl) (by kernel_rfl) (by kernel_rfl) (fun W hW => by (kernel_rfl)) ?_
  try simp only [pa, pn, pb, pc, pd]
  refine rm_take 3 (some 34) (vp) (oi := { dst := some 34, op := Go.Op.load 108 (Go.Operand.tmp 33), type := 108, pos := "rope.go:57", after := #[{ on := 2, ground := Go.Ground.data }], guard := none }) rfl rfl (by kernel_rfl) (by kernel_rfl) (by kernel_rfl) (by kernel_rfl) (fun W hW => by (exact ld1 108 _ rfl a 0 rfl (fun _ => by kernel_rfl) _ ((hb.later hW).cell 0))) ?_
  try simp only [pa, pn, pb, pc, pd]
  refine rm_take 4 (some 35) (.pointer (some ⟨a, 0, none⟩)) (oi := { dst := some 35, op := Go.Op.move (Go.Operand.tmp 6), type := 111, pos := "rope.go:57", after := #[], guard := none }) rfl rfl (by kernel_rfl) (by kernel_rfl) (by kernel_rfl) (by kernel_rfl) (fun W hW => by (kernel_rfl)) ?_
  try simp only [pa, pn, pb, pc, pd]
  refine rm_take 5 (some 36) (.pointer (some ⟨a, 0, none⟩)) (oi := { dst := some 36, op := Go.Op.nilCheck (Go.Operand.tmp 35), type := 0, pos := "rope.go:57", after := #[{ on := 4, ground := Go.Ground.data }], guard := none }) rfl rfl (by kernel_rfl) (by kernel_rfl) (by kernel_rfl) (by kernel_rfl) (fun W hW => by (kernel_rfl)) ?_
  try simp only [pa, pn, pb, pc, pd]
  refine rm_take 6 (some 37) (.pointer (some ⟨a, 1, none⟩)) (oi := { dst := some 37, op := Go.Op.fieldAddr 115 (Go.Operand.tmp 36) 1, type := 0, pos := "rope.go:57", after := #[{ on := 5, ground := Go.Ground.data }], guard := none }) rfl rfl (by kernel_rfl) (by kernel_rfl) (by kernel_rfl) (by kernel_rfl) (fun W hW => by (kernel_rfl)) ?_
  try simp only [pa, pn, pb, pc, pd]
  refine rm_take 7 (some 38) (vq) (oi := { dst := some 38, op := Go.Op.load 108 (Go.Operand.tmp 37), type := 108, pos := "rope.go:57", after := #[{ on := 6, ground := Go.Ground.data }], guard := none }) rfl rfl (by kernel_rfl) (by kernel_rfl) (by kernel_rfl) (by kernel_rfl) (fun W hW => by (exact ld1 108 _ rfl a 1 rfl (fun _ => by kernel_rfl) _ ((hb.later hW).cell 1))) ?_
  try simp only [pa, pn, pb, pc, pd]
  refine rm_take 8 (some 39) (vy) (oi := { dst := some 39, op := Go.Op.move (Go.Operand.tmp 1), type := 108, pos := "rope.go:57", after := #[], guard := none }) rfl rfl (by kernel_rfl) (by kernel_rfl) (by kernel_rfl) (by kernel_rfl) (fun W hW => by (kernel_rfl)) ?_
  try simp only [pa, pn, pb, pc, pd]
  refine rm_pick1 (i := 9) (by kernel_rfl) ?_
  refine rm_callx (some 40) 107 #[vq, vy] (oi := { dst := some 40, op := Go.Op.call { callee := Go.Callee.value (Go.Operand.func 107), args := #[Go.Operand.tmp 38, Go.Operand.tmp 39], argTypes := #[108, 108] }, type := 108, pos := "rope.go:57", after := #[{ on := 7, ground := Go.Ground.data }, { on := 8, ground := Go.Ground.data }], guard := none }) rfl rfl (by kernel_rfl) (fun W hW => by kernel_rfl) (fun W hlz hW => pair_any q y vq vy _ (hT.later (show Ltr w11 W from hW)) (hq.later (show Ltr w11 W from hW)) (hy.later (show Ltr w11 W from hW)) (by omega) (by omega) (by omega)) (by rintro W e w' ⟨v1, rfl, hL14, hv1⟩; exact hL14) (fun _ _ h k => Ltr.trans h k) ?_
  rintro q14 e w14 hq14 hQ14 ⟨v1, rfl, hL14, hv1⟩ hS14
  refine ⟨_, rfl, ?_⟩
  have hz14 := hL14.size
  have hy14 := hq14.size
  try simp only [pa, pn, pb, pc, pd]
  refine rm_pick1 (i := 10) (by kernel_rfl) ?_
  refine rm_callx (some 41) 107 #[vp, v1] (oi := { dst := some 41, op := Go.Op.call { callee := Go.Callee.value (Go.Operand.func 107), args := #[Go.Operand.tmp 34, Go.Operand.tmp 40], argTypes := #[108, 108] }, type := 108, pos := "rope.go:57", after := #[{ on := 3, ground := Go.Ground.data }, { on := 9, ground := Go.Ground.data }, { on := 9, ground := Go.Ground.chain }], guard := none }) rfl rfl (by kernel_rfl) (fun W hW => by kernel_rfl) (fun W hlz hW => pair_any p (.fork q y) vp v1 _ (hT.later (show Ltr w11 W from hW)) (hp.later (show Ltr w11 W from hW)) (hv1.later hlz) (by omega) (by omega) (by omega)) (by rintro W e w' ⟨v, rfl, hL15, hv⟩; exact hL15) (fun _ _ h k => Ltr.trans h k) ?_
  rintro q15 e w15 hq15 hQ15 ⟨v, rfl, hL15, hv⟩ hS15
  refine ⟨_, rfl, ?_⟩
  replace hv1 := (hv1.later hq15).later hL15
  have hz15 := hL15.size
  have hy15 := hq15.size
  try simp only [pa, pn, pb, pc, pd]
  refine rm_take 11 (some 4) (v) (oi := { dst := some 4, op := Go.Op.assign (Go.Operand.tmp 41), type := 108, pos := "rope.go:57", after := #[{ on := 10, ground := Go.Ground.data }, { on := 10, ground := Go.Ground.chain }, { on := 0, ground := Go.Ground.phase }, { on := 1, ground := Go.Ground.phase }, { on := 2, ground := Go.Ground.phase }, { on := 3, ground := Go.Ground.phase }, { on := 4, ground := Go.Ground.phase }, { on := 5, ground := Go.Ground.phase }, { on := 6, ground := Go.Ground.phase }, { on := 7, ground := Go.Ground.phase }, { on := 8, ground := Go.Ground.phase }, { on := 9, ground := Go.Ground.phase }, { on := 10, ground := Go.Ground.phase }], guard := none }) rfl rfl (by kernel_rfl) (by kernel_rfl) (by kernel_rfl) (by kernel_rfl) (fun W hW => by (kernel_rfl)) ?_
  try simp only [pa, pn, pb, pc, pd]
  refine rm_done (by kernel_rfl) (fun w16 hL16 hS16 => hgo.out _ _ ?_) _
  clear hgo K13
  replace hv1 := hv1.later hL16
  replace hv := hv.later hL16
  replace hT := hT.later (show Ltr w11 _ from hS16)
  replace hB := hB.later (show Ltr w11 _ from hS16)
  replace hp := hp.later (show Ltr w11 _ from hS16)
  replace hq := hq.later (show Ltr w11 _ from hS16)
  replace hy := hy.later (show Ltr w11 _ from hS16)
  replace hb := hb.later (show Ltr w11 _ from hS16)
  have hz16 := (show Ltr w11 _ from hS16).size
  have hy16 := hL16.size
  refine hKK12 _ _ ?_
  refine wp_ret ?_
  try simp only [Exit.then, Exit.inBlock]
  refine bp_ret (v := v) (res1 rfl (res_tmp (by kernel_rfl))) ?_
  exact ⟨_, rfl, hB, hv⟩
set_option maxRecDepth 100000 in
set_option maxHeartbeats 8000000 in
theorem level_a2 (p q r y : Tr) (vx vy : Value) (w : World) (hT : Tabs w) (hx : Tree w (.fork p (.fork q r)) vx) (hy : Tree w y vy) (hm : p.bytes.length + q.bytes.length + r.bytes.length + y.bytes.length ≤ 268435456)
    (h1 : (Tr.fork p (.fork q r)).h ≤ 200000000) (h2 : y.h < 200000000) (d1 : y.h + 2 ≤ (Tr.fork p (.fork q r)).h) (d2 : p.h < (Tr.fork q r).h) :
    Calls Tryd.prog 105 #[vx, vy] w fun e w' => ∃ v, e = .returned v ∧ Ltr w w' ∧ Tree w' (.fork (.fork p q) (.fork r y)) v := by
  have hB := Ltr.refl w
  obtain ⟨f1, x1, e1, c1⟩ := inv_height hx
  obtain ⟨f2, x2, e2, c2⟩ := inv_height hy
  obtain ⟨a, vp, vg, rfl, hb, hp, hg⟩ := hx.fork_open
  obtain ⟨f3, x3, e3, c3⟩ := inv_height hp
  obtain ⟨f4, x4, e4, c4⟩ := inv_height hg
  obtain ⟨b, vq, vr, rfl, hc, hq, hr⟩ := hg.fork_open
  have hl := Tr.len_fork p q
  have hh := Tr.h_fork p q
  have hl2 := Tr.len_fork r y
  have hh2 := Tr.h_fork r y
  have hh3 := Tr.h_fork q r
  have hh4 := Tr.h_fork p (.fork q r)
  go_enter Tryd.func105, Tryd.ntmps105
  have h4 := hT.four
  have hlt_hb := hb.lt
  have hlt_hc := hc.lt
  refine wp_seq_k fun KK1 hKK1 => ?_
  refine rl_begin fun hgK hgo => ?_
  refine rl_take (some 4) (.nilIface) rfl (by kernel_rfl) (by kernel_rfl) ?_
  try simp only [pa, pn, pb, pc, pd]
  refine rl_nil ?_
  refine hgo.out _ _ ?_
  clear hgo hgK
  refine hKK1 _ _ ?_
  refine wp_seq_k fun KK2 hKK2 => ?_
  refine wp_seq_k fun KK3 hKK3 => ?_
  refine rl_begin fun hgK hgo => ?_
  refine rl_take (some 10) (.iface 111 (.pointer (some ⟨a, 0, none⟩))) rfl (by kernel_rfl) (by kernel_rfl) ?_
  try simp only [pa, pn, pb, pc, pd]
  refine rl_call (some 11) f1 #[x1] rfl (by kernel_rfl) (by exact e1 _ _ _ _ rfl rfl) (c1 _ hB) ?_
  rintro e w4 ⟨rfl, hL4⟩
  refine ⟨_, rfl, ?_⟩
  replace hT := hT.later hL4
  replace hB := hB.later hL4
  replace hp := hp.later hL4
  replace hq := hq.later hL4
  replace hr := hr.later hL4
  replace hy := hy.later hL4
  replace hb := hb.later hL4
  replace hc := hc.later hL4
  have hz4 := hL4.size
  try simp only [pa, pn, pb, pc, pd]
  refine rl_take (some 12) (vy) rfl (by kernel_rfl) (by kernel_rfl) ?_
  try simp only [pa, pn, pb, pc, pd]
  refine rl_call (some 13) f2 #[x2] rfl (by kernel_rfl) (by exact e2 _ _ _ _ rfl rfl) (c2 _ hB) ?_
  rintro e w5 ⟨rfl, hL5⟩
  refine ⟨_, rfl, ?_⟩
  replace hT := hT.later hL5
  replace hB := hB.later hL5
  replace hp := hp.later hL5
  replace hq := hq.later hL5
  replace hr := hr.later hL5
  replace hy := hy.later hL5
  replace hb := hb.later hL5
  replace hc := hc.later hL5
  have hz5 := hL5.size
  try simp only [pa, pn, pb, pc, pd]
  refine rl_take (some 14) (.int .i64 ((((Tr.fork p (.fork q r)).h : Int) : Int) - (y.h : Int))) rfl (by kernel_rfl) (by exact ex_arith (e := (((Tr.fork p (.fork q r)).h : Int) : Int) - (y.h : Int)) (r := (((Tr.fork p (.fork q r)).h : Int) : Int) - (y.h : Int)) (by kernel_rfl) (by omega) (by omega)) ?_
  try simp only [pa, pn, pb, pc, pd]
  refine rl_take (some 5) (.int .i64 ((((Tr.fork p (.fork q r)).h : Int) : Int) - (y.h : Int))) rfl (by kernel_rfl) (by kernel_rfl) ?_
  try simp only [pa, pn, pb, pc, pd]
  refine rl_nil ?_
  refine hgo.out _ _ ?_
  clear hgo hgK
  refine hKK3 _ _ ?_
  refine wp_block ?_
  refine wp_seq_k fun KK6 hKK6 => ?_
  refine rl_begin fun hgK hgo => ?_
  refine rl_take (some 16) (.int .i64 ((((Tr.fork p (.fork q r)).h : Int) : Int) - (y.h : Int))) rfl (by kernel_rfl) (by kernel_rfl) ?_
  try simp only [pa, pn, pb, pc, pd]
  refine rl_take (some 17) (.bool true) rfl (by kernel_rfl) (by exact ex_bool (c := (((((Tr.fork p (.fork q r)).h : Int) : Int) - (y.h : Int)) : Int) > 1) (by kernel_rfl) ⟨fun _ => by omega, fun _ => rfl⟩) ?_
  try simp only [pa, pn, pb, pc, pd]
  refine rl_take (some 15) (.bool true) rfl (by kernel_rfl) (by kernel_rfl) ?_
  try simp only [pa, pn, pb, pc, pd]
  refine rl_nil ?_
  refine hgo.out _ _ ?_
  clear hgo hgK
  refine hKK6 _ _ ?_
  refine wp_cond_true (by kernel_rfl) ?_
  refine wp_seq_k fun KK7 hKK7 => ?_
  refine rl_begin fun hgK hgo => ?_
  refine rl_take (some 18) (.iface 111 (.pointer (some ⟨a, 0, none⟩))) rfl (by kernel_rfl) (by kernel_rfl) ?_
  try simp only [pa, pn, pb, pc, pd]
  refine rl_take (some 19) (.pointer (some ⟨a, 0, none⟩)) rfl (by kernel_rfl) (by kernel_rfl) ?_
  try simp only [pa, pn, pb, pc, pd]
  refine rl_take (some 6) (.pointer (some ⟨a, 0, none⟩)) rfl (by kernel_rfl) (by kernel_rfl) ?_
  try simp only [pa, pn, pb, pc, pd]
  refine rl_nil ?_
  refine hgo.out _ _ ?_
  clear hgo hgK
  refine hKK7 _ _ ?_
  refine wp_seq_k fun KK8 hKK8 => ?_
  refine wp_seq_k fun KK9 hKK9 => ?_
  refine rm_begin (fun W => Ltr w5 W) (by kernel_rfl) (by exact bl_drew (bl_refl _)) fun K10 hgo w10 hE hS10 => ?_
  have hv10 : Ltr w5 w10 := by rw [hE]; exact bl_drew (bl_refl _)
  have hz10 := hv10.size
  clear hE hS10
  refine rm_take 0 (some 20) (.pointer (some ⟨a, 0, none⟩)) (oi := { dst := some 20, op := Go.Op.move (Go.Operand.tmp 6), type := 111, pos := "rope.go:56", after := #[], guard := none }) rfl rfl (by kernel_rfl) (by kernel_rfl) (by kernel_rfl) (by kernel_rfl) (fun W hW => by (kernel_rfl)) ?_
  try simp only [pa, pn, pb, pc, pd]
  refine rm_take 1 (some 21) (.pointer (some ⟨a, 0, none⟩)) (oi := { dst := some 21, op := Go.Op.nilCheck (Go.Operand.tmp 20), type := 0, pos := "rope.go:56", after := #[{ on := 0, ground := Go.Ground.data }], guard := none }) rfl rfl (by kernel_rfl) (by kernel_rfl) (by kernel_rfl) (by kernel_rfl) (fun W hW => by (kernel_rfl)) ?_
  try simp only [pa, pn, pb, pc, pd]
  refine rm_take 2 (some 22) (.pointer (some ⟨a, 0, none⟩)) (oi := { dst := some 22, op := Go.Op.fieldAddr 115 (Go.Operand.tmp 21) 0, type := 0, pos := "rope.go:56", after := #[{ on := 1, ground := Go.Ground.data }], guard := none }) rfl rfl (by kernel_rfl) (by kernel_rfl) (by kernel_rfl) (by kernel_rfl) (fun W hW => by (kernel_rfl)) ?_
  try simp only [pa, pn, pb, pc, pd]
  refine rm_take 3 (some 23) (vp) (oi := { dst := some 23, op := Go.Op.load 108 (Go.Operand.tmp 22), type := 108, pos := "rope.go:56", after := #[{ on := 2, ground := Go.Ground.data }], guard := none }) rfl rfl (by kernel_rfl) (by kernel_rfl) (by kernel_rfl) (by kernel_rfl) (fun W hW => by (exact ld1 108 _ rfl a 0 rfl (fun _ => by kernel_rfl) _ ((hb.later hW).cell 0))) ?_
  try simp only [pa, pn, pb, pc, pd]
  refine rm_call 4 (some 24) (.int .i64 (p.h : Int)) f3 #[x3] (oi := { dst := some 24, op := Go.Op.call { callee := Go.Callee.invoke (Go.Operand.tmp 23) "galley/rope.height", args := #[], argTypes := #[] }, type := 3, pos := "rope.go:56", after := #[{ on := 3, ground := Go.Ground.data }], guard := none }) rfl rfl (by kernel_rfl) (by kernel_rfl) (by kernel_rfl) (by kernel_rfl) (fun W hW => by exact e3 _ _ _ _ rfl rfl) (fun W hW => c3 _ (hB.later hW)) (fun _ _ h k => Ltr.trans h k) ?_
  try simp only [pa, pn, pb, pc, pd]
  refine rm_take 5 (some 25) (.pointer (some ⟨a, 0, none⟩)) (oi := { dst := some 25, op := Go.Op.move (Go.Operand.tmp 6), type := 111, pos := "rope.go:56", after := #[], guard := none }) rfl rfl (by kernel_rfl) (by kernel_rfl) (by kernel_rfl) (by kernel_rfl) (fun W hW => by (kernel_rfl)) ?_
  try simp only [pa, pn, pb, pc, pd]
  refine rm_take 6 (some 26) (.pointer (some ⟨a, 0, none⟩)) (oi := { dst := some 26, op := Go.Op.nilCheck (Go.Operand.tmp 25), type := 0, pos := "rope.go:56", after := #[{ on := 5, ground := Go.Ground.data }], guard := none }) rfl rfl (by kernel_rfl) (by kernel_rfl) (by kernel_rfl) (by kernel_rfl) (fun W hW => by (kernel_rfl)) ?_
  try simp only [pa, pn, pb, pc, pd]
  refine rm_take 7 (some 27) (.pointer (some ⟨a, 1, none⟩)) (oi := { dst := some 27, op := Go.Op.fieldAddr 115 (Go.Operand.tmp 26) 1, type := 0, pos := "rope.go:56", after := #[{ on := 6, ground := Go.Ground.data }], guard := none }) rfl rfl (by kernel_rfl) (by kernel_rfl) (by kernel_rfl) (by kernel_rfl) (fun W hW => by (kernel_rfl)) ?_
  try simp only [pa, pn, pb, pc, pd]
  refine rm_take 8 (some 28) (.iface 111 (.pointer (some ⟨b, 0, none⟩))) (oi := { dst := some 28, op := Go.Op.load 108 (Go.Operand.tmp 27), type := 108, pos := "rope.go:56", after := #[{ on := 7, ground := Go.Ground.data }], guard := none }) rfl rfl (by kernel_rfl) (by kernel_rfl) (by kernel_rfl) (by kernel_rfl) (fun W hW => by (exact ld1 108 _ rfl a 1 rfl (fun _ => by kernel_rfl) _ ((hb.later hW).cell 1))) ?_
  try simp only [pa, pn, pb, pc, pd]
  refine rm_call 9 (some 29) (.int .i64 ((Tr.fork q r).h : Int)) f4 #[x4] (oi := { dst := some 29, op := Go.Op.call { callee := Go.Callee.invoke (Go.Operand.tmp 28) "galley/rope.height", args := #[], argTypes := #[] }, type := 3, pos := "rope.go:56", after := #[{ on := 8, ground := Go.Ground.data }, { on := 4, ground := Go.Ground.chain }], guard := none }) rfl rfl (by kernel_rfl) (by kernel_rfl) (by kernel_rfl) (by kernel_rfl) (fun W hW => by exact e4 _ _ _ _ rfl rfl) (fun W hW => c4 _ (hB.later hW)) (fun _ _ h k => Ltr.trans h k) ?_
  try simp only [pa, pn, pb, pc, pd]
  refine rm_take 10 (some 30) (.bool false) (oi := { dst := some 30, op := Go.Op.binOp Go.BinOp.geq 3 (Go.Operand.tmp 24) (Go.Operand.tmp 29) 3, type := 4, pos := "rope.go:56", after := #[{ on := 4, ground := Go.Ground.data }, { on := 9, ground := Go.Ground.data }], guard := none }) rfl rfl (by kernel_rfl) (by kernel_rfl) (by kernel_rfl) (by kernel_rfl) (fun W hW => by (exact ex_bool (c := ((p.h : Int) : Int) ≥ ((Tr.fork q r).h : Int)) (by kernel_rfl) ⟨fun q => (by cases q), fun q => absurd q (by omega)⟩)) ?_
  try simp only [pa, pn, pb, pc, pd]
  refine rm_done (by kernel_rfl) (fun w11 hL11 hS11 => hgo.out _ _ ?_) _
  clear hgo K10
  replace hT := hT.later (show Ltr w5 _ from hS11)
  replace hB := hB.later (show Ltr w5 _ from hS11)
  replace hp := hp.later (show Ltr w5 _ from hS11)
  replace hq := hq.later (show Ltr w5 _ from hS11)
  replace hr := hr.later (show Ltr w5 _ from hS11)
  replace hy := hy.later (show Ltr w5 _ from hS11)
  replace hb := hb.later (show Ltr w5 _ from hS11)
  replace hc := hc.later (show Ltr w5 _ from hS11)
  have hz11 := (show Ltr w5 _ from hS11).size
  have hy11 := hL11.size
  refine hKK9 _ _ ?_
  refine wp_cond_false (by kernel_rfl) ?_
  refine wp_skip ?_
  refine hKK8 _ _ ?_
  refine wp_seq_k fun KK12 hKK12 => ?_
  refine rl_begin fun hgK hgo => ?_
  refine rl_take (some 42) (.pointer (some ⟨a, 0, none⟩)) rfl (by kernel_rfl) (by kernel_rfl) ?_
  try simp only [pa, pn, pb, pc, pd]
  refine rl_take (some 43) (.pointer (some ⟨a, 0, none⟩)) rfl (by kernel_rfl) (by kernel_rfl) ?_
  try simp only [pa, pn, pb, pc, pd]
  refine rl_take (some 44) (.pointer (some ⟨a, 1, none⟩)) rfl (by kernel_rfl) (by kernel_rfl) ?_
  try simp only [pa, pn, pb, pc, pd]
  refine rl_take (some 45) (.iface 111 (.pointer (some ⟨b, 0, none⟩))) rfl (by kernel_rfl) (by exact ld1 108 _ rfl a 1 rfl (fun _ => by kernel_rfl) _ (hb.cell 1)) ?_
  try simp only [pa, pn, pb, pc, pd]
  refine rl_take (some 46) (.pointer (some ⟨b, 0, none⟩)) rfl (by kernel_rfl) (by kernel_rfl) ?_
  try simp only [pa, pn, pb, pc, pd]
  refine rl_take (some 7) (.pointer (some ⟨b, 0, none⟩)) rfl (by kernel_rfl) (by kernel_rfl) ?_
  try simp only [pa, pn, pb, pc, pd]
  refine rl_nil ?_
  refine hgo.out _ _ ?_
  clear hgo hgK
  refine hKK12 _ _ ?_
  refine wp_seq_k fun KK13 hKK13 => ?_
  refine rm_begin (fun W => Ltr w11 W) (by kernel_rfl) (by exact bl_drew (bl_refl _)) fun K14 hgo w14 hE hS14 => ?_
  have hv14 : Ltr w11 w14 := by rw [hE]; exact bl_drew (bl_refl _)
  have hz14 := hv14.size
  clear hE hS14
  refine rm_take 0 (some 47) (.pointer (some ⟨a, 0, none⟩)) (oi := { dst := some 47, op := Go.Op.move (Go.Operand.tmp 6), type := 111, pos := "rope.go:60", after := #[], guard := none }) rfl rfl (by kernel_rfl) (by kernel_rfl) (by kernel_rfl) (by kernel_rfl) (fun W hW => by (kernel_rfl)) ?_
  try simp only [pa, pn, pb, pc, pd]
  refine rm_take 1 (some 48) (.pointer (some ⟨a, 0, none⟩)) (oi := { dst := some 48, op := Go.Op.nilCheck (Go.Operand.tmp 47), type := 0, pos := "rope.go:60", after := #[{ on := 0, ground := Go.Ground.data }], guard := none }) rfl rfl (by kernel_rfl) (by kernel_rfl) (by kernel_rfl) (by kernel_rfl) (fun W hW => by (kernel_rfl)) ?_
  try simp only [pa, pn, pb, pc, pd]
  refine rm_take 2 (some 49) (.pointer (some ⟨a, 0, none⟩)) (oi := { dst := some 49, op := Go.Op.fieldAddr 115 (Go.Operand.tmp 48) 0, type := 0, pos := "rope.go:60", after := #[{ on := 1, ground := Go.Ground.data }], guard := none }) rfl rfl (by kernel_rfl) (by kernel_rfl) (by kernel_rfl) (by kernel_rfl) (fun W hW => by (kernel_rfl)) ?_
  try simp only [pa, pn, pb, pc, pd]
  refine rm_take 3 (some 50) (vp) (oi := { dst := some 50, op := Go.Op.load 108 (Go.Operand.tmp 49), type := 108, pos := "rope.go:60", after := #[{ on := 2, ground := Go.Ground.data }], guard := none }) rfl rfl (by kernel_rfl) (by kernel_rfl) (by kernel_rfl) (by kernel_rfl) (fun W hW => by (exact ld1 108 _ rfl a 0 rfl (fun _ => by kernel_rfl) _ ((hb.later hW).cell 0))) ?_
  try simp only [pa, pn, pb, pc, pd]
  refine rm_take 4 (some 51) (.pointer (some ⟨b, 0, none⟩)) (oi := { dst := some 51, op := Go.Op.move (Go.Operand.tmp 7), type := 111, pos := "rope.go:60", after := #[], guard := none }) rfl rfl (by kernel_rfl) (by kernel_rfl) (by kernel_rfl) (by kernel_rfl) (fun W hW => by (kernel_rfl)) ?_
  try simp only [pa, pn, pb, pc, pd]
  refine rm_take 5 (some 52) (.pointer (some ⟨b, 0, none⟩)) (oi := { dst := some 52, op := Go.Op.nilCheck (Go.Operand.tmp 51), type := 0, pos := "rope.go:60", after := #[{ on := 4, ground := Go.Ground.data }], guard := none }) rfl rfl (by kernel_rfl) (by kernel_rfl) (by kernel_rfl) (by kernel_rfl) (fun W hW => by (kernel_rfl)) ?_
  try simp only [pa, pn, pb, pc, pd]
  refine rm_take 6 (some 53) (.pointer (some ⟨b, 0, none⟩)) (oi := { dst := some 53, op := Go.Op.fieldAddr 115 (Go.Operand.tmp 52) 0, type := 0, pos := "rope.go:60", after := #[{ on := 5, ground := Go.Ground.data }], guard := none }) rfl rfl (by kernel_rfl) (by kernel_rfl) (by kernel_rfl) (by kernel_rfl) (fun W hW => by (kernel_rfl)) ?_
  try simp only [pa, pn, pb, pc, pd]
  refine rm_take 7 (some 54) (vq) (oi := { dst := some 54, op := Go.Op.load 108 (Go.Operand.tmp 53), type := 108, pos := "rope.go:60", after := #[{ on := 6, ground := Go.Ground.data }], guard := none }) rfl rfl (by kernel_rfl) (by kernel_rfl) (by kernel_rfl) (by kernel_rfl) (fun W hW => by (exact ld1 108 _ rfl b 0 rfl (fun _ => by kernel_rfl) _ ((hc.later hW).cell 0))) ?_
  try simp only [pa, pn, pb, pc, pd]
  refine rm_take 9 (some 56) (.pointer (some ⟨b, 0, none⟩)) (oi := { dst := some 56, op := Go.Op.move (Go.Operand.tmp 7), type := 111, pos := "rope.go:60", after := #[], guard := none }) rfl rfl (by kernel_rfl) (by kernel_rfl) (by kernel_rfl) (by kernel_rfl) (fun W hW => by (kernel_rfl)) ?_
  try simp only [pa, pn, pb, pc, pd]
  refine rm_take 10 (some 57) (.pointer (some ⟨b, 0, none⟩)) (oi := { dst := some 57, op := Go.Op.nilCheck (Go.Operand.tmp 56), type := 0, pos := "rope.go:60", after := #[{ on := 9, ground := Go.Ground.data }], guard := none }) rfl rfl (by kernel_rfl) (by kernel_rfl) (by kernel_rfl) (by kernel_rfl) (fun W hW => by (kernel_rfl)) ?_
  try simp only [pa, pn, pb, pc, pd]
  refine rm_take 11 (some 58) (.pointer (some ⟨b, 1, none⟩)) (oi := { dst := some 58, op := Go.Op.fieldAddr 115 (Go.Operand.tmp 57) 1, type := 0, pos := "rope.go:60", after := #[{ on := 10, ground := Go.Ground.data }], guard := none }) rfl rfl (by kernel_rfl) (by kernel_rfl) (by kernel_rfl) (by kernel_rfl) (fun W hW => by (kernel_rfl)) ?_
  try simp only [pa, pn, pb, pc, pd]
  refine rm_take 12 (some 59) (vr) (oi := { dst := some 59, op := Go.Op.load 108 (Go.Operand.tmp 58), type := 108, pos := "rope.go:60", after := #[{ on := 11, ground := Go.Ground.data }], guard := none }) rfl rfl (by kernel_rfl) (by kernel_rfl) (by kernel_rfl) (by kernel_rfl) (fun W hW => by (exact ld1 108 _ rfl b 1 rfl (fun _ => by kernel_rfl) _ ((hc.later hW).cell 1))) ?_
  try simp only [pa, pn, pb, pc, pd]
  refine rm_take 13 (some 60) (vy) (oi := { dst := some 60, op := Go.Op.move (Go.Operand.tmp 1), type := 108, pos := "rope.go:60", after := #[], guard := none }) rfl rfl (by kernel_rfl) (by kernel_rfl) (by kernel_rfl) (by kernel_rfl) (fun W hW => by (kernel_rfl)) ?_
  try simp only [pa, pn, pb, pc, pd]
  refine rm_pick1 (i := 8) (by kernel_rfl) ?_
  refine rm_callx (some 55) 107 #[vp, vq] (oi := { dst := some 55, op := Go.Op.call { callee := Go.Callee.value (Go.Operand.func 107), args := #[Go.Operand.tmp 50, Go.Operand.tmp 54], argTypes := #[108, 108] }, type := 108, pos := "rope.go:60", after := #[{ on := 3, ground := Go.Ground.data }, { on := 7, ground := Go.Ground.data }], guard := none }) rfl rfl (by kernel_rfl) (fun W hW => by kernel_rfl) (fun W hlz hW => pair_any p q vp vq _ (hT.later (show Ltr w11 W from hW)) (hp.later (show Ltr w11 W from hW)) (hq.later (show Ltr w11 W from hW)) (by omega) (by omega) (by omega)) (by rintro W e w' ⟨v1, rfl, hL15, hv1⟩; exact hL15) (fun _ _ h k => Ltr.trans h k) ?_
  rintro q15 e w15 hq15 hQ15 ⟨v1, rfl, hL15, hv1⟩ hS15
  refine ⟨_, rfl, ?_⟩
  have hz15 := hL15.size
  have hy15 := hq15.size
  try simp only [pa, pn, pb, pc, pd]
  refine rm_pick1 (i := 14) (by kernel_rfl) ?_
  refine rm_callx (some 61) 107 #[vr, vy] (oi := { dst := some 61, op := Go.Op.call { callee := Go.Callee.value (Go.Operand.func 107), args := #[Go.Operand.tmp 59, Go.Operand.tmp 60], argTypes := #[108, 108] }, type := 108, pos := "rope.go:60", after := #[{ on := 12, ground := Go.Ground.data }, { on := 13, ground := Go.Ground.data }, { on := 8, ground := Go.Ground.chain }], guard := none }) rfl rfl (by kernel_rfl) (fun W hW => by kernel_rfl) (fun W hlz hW => pair_any r y vr vy _ (hT.later (show Ltr w11 W from hW)) (hr.later (show Ltr w11 W from hW)) (hy.later (show Ltr w11 W from hW)) (by omega) (by omega) (by omega)) (by rintro W e w' ⟨v2, rfl, hL16, hv2⟩; exact hL16) (fun _ _ h k => Ltr.trans h k) ?_
  rintro q16 e w16 hq16 hQ16 ⟨v2, rfl, hL16, hv2⟩ hS16
  refine ⟨_, rfl, ?_⟩
  replace hv1 := (hv1.later hq16).later hL16
  have hz16 := hL16.size
  have hy16 := hq16.size
  try simp only [pa, pn, pb, pc, pd]
  refine rm_pick1 (i := 15) (by kernel_rfl) ?_
  refine rm_callx (some 62) 107 #[v1, v2] (oi := { dst := some 62, op := Go.Op.call { callee := Go.Callee.value (Go.Operand.func 107), args := #[Go.Operand.tmp 55, Go.Operand.tmp 61], argTypes := #[108, 108] }, type := 108, pos := "rope.go:60", after := #[{ on := 8, ground := Go.Ground.data }, { on := 14, ground := Go.Ground.data }, { on := 14, ground := Go.Ground.chain }], guard := none }) rfl rfl (by kernel_rfl) (fun W hW => by kernel_rfl) (fun W hlz hW => pair_any (.fork p q) (.fork r y) v1 v2 _ (hT.later (show Ltr w11 W from hW)) (hv1.later hlz) (hv2.later hlz) (by omega) (by omega) (by omega)) (by rintro W e w' ⟨v, rfl, hL17, hv⟩; exact hL17) (fun _ _ h k => Ltr.trans h k) ?_
  rintro q17 e w17 hq17 hQ17 ⟨v, rfl, hL17, hv⟩ hS17
  refine ⟨_, rfl, ?_⟩
  replace hv1 := (hv1.later hq17).later hL17
  replace hv2 := (hv2.later hq17).later hL17
  have hz17 := hL17.size
  have hy17 := hq17.size
  try simp only [pa, pn, pb, pc, pd]
  refine rm_take 16 (some 4) (v) (oi := { dst := some 4, op := Go.Op.assign (Go.Operand.tmp 62), type := 108, pos := "rope.go:60", after := #[{ on := 15, ground := Go.Ground.data }, { on := 15, ground := Go.Ground.chain }, { on := 0, ground := Go.Ground.phase }, { on := 1, ground := Go.Ground.phase }, { on := 2, ground := Go.Ground.phase }, { on := 3, ground := Go.Ground.phase }, { on := 4, ground := Go.Ground.phase }, { on := 5, ground := Go.Ground.phase }, { on := 6, ground := Go.Ground.phase }, { on := 7, ground := Go.Ground.phase }, { on := 8, ground := Go.Ground.phase }, { on := 9, ground := Go.Ground.phase }, { on := 10, ground := Go.Ground.phase }, { on := 11, ground := Go.Ground.phase }, { on := 12, ground := Go.Ground.phase }, { on := 13, ground := Go.Ground.phase }, { on := 14, ground := Go.Ground.phase }, { on := 15, ground := Go.Ground.phase }], guard := none }) rfl rfl (by kernel_rfl) (by kernel_rfl) (by kernel_rfl) (by kernel_rfl) (fun W hW => by (kernel_rfl)) ?_
  try simp only [pa, pn, pb, pc, pd]
  refine rm_done (by kernel_rfl) (fun w18 hL18 hS18 => hgo.out _ _ ?_) _
  clear hgo K14
  replace hv1 := hv1.later hL18
  replace hv2 := hv2.later hL18
  replace hv := hv.later hL18
  replace hT := hT.later (show Ltr w11 _ from hS18)
  replace hB := hB.later (show Ltr w11 _ from hS18)
  replace hp := hp.later (show Ltr w11 _ from hS18)
  replace hq := hq.later (show Ltr w11 _ from hS18)
  replace hr := hr.later (show Ltr w11 _ from hS18)
  replace hy := hy.later (show Ltr w11 _ from hS18)
  replace hb := hb.later (show Ltr w11 _ from hS18)
  replace hc := hc.later (show Ltr w11 _ from hS18)
  have hz18 := (show Ltr w11 _ from hS18).size
  have hy18 := hL18.size
  refine hKK13 _ _ ?_
  refine wp_ret ?_
  try simp only [Exit.then, Exit.inBlock]
  refine bp_ret (v := v) (res1 rfl (res_tmp (by kernel_rfl))) ?_
  exact ⟨_, rfl, hB, hv⟩
set_option maxRecDepth 100000 in
set_option maxHeartbeats 8000000 in
theorem level_b1 (x p q : Tr) (vx vy : Value) (w : World) (hT : Tabs w) (hx : Tree w x vx) (hy : Tree w (.fork p q) vy) (hm : x.bytes.length + p.bytes.length + q.bytes.length ≤ 268435456) (h1 : x.h ≤ 200000000) (h2 : (Tr.fork p q).h ≤ 200000000)
    (d1 : x.h + 2 ≤ (Tr.fork p q).h) (d2 : p.h ≤ q.h) :
    Calls Tryd.prog 105 #[vx, vy] w fun e w' => ∃ v, e = .returned v ∧ Ltr w w' ∧ Tree w' (.fork (.fork x p) q) v := by
  have hB := Ltr.refl w
  obtain ⟨f1, x1, e1, c1⟩ := inv_height hx
  obtain ⟨f2, x2, e2, c2⟩ := inv_height hy
  obtain ⟨a, vp, vq, rfl, hb, hp, hq⟩ := hy.fork_open
  obtain ⟨f3, x3, e3, c3⟩ := inv_height hp
  obtain ⟨f4, x4, e4, c4⟩ := inv_height hq
  have hl := Tr.len_fork x p
  have hh := Tr.h_fork x p
  have hh' := Tr.h_fork p q
  go_enter Tryd.func105, Tryd.ntmps105
  have h4 := hT.four
  have hlt_hb := hb.lt
  refine wp_seq_k fun KK1 hKK1 => ?_
  refine rl_begin fun hgK hgo => ?_
  refine rl_take (some 4) (.nilIface) rfl (by kernel_rfl) (by kernel_rfl) ?_
  try simp only [pa, pn, pb, pc, pd]
  refine rl_nil ?_
  refine hgo.out _ _ ?_
  clear hgo hgK
  refine hKK1 _ _ ?_
  refine wp_seq_k fun KK2 hKK2 => ?_
  refine wp_seq_k fun KK3 hKK3 => ?_
  refine rl_begin fun hgK hgo => ?_
  refine rl_take (some 10) (vx) rfl (by kernel_rfl) (by kernel_rfl) ?_
  try simp only [pa, pn, pb, pc, pd]
  refine rl_call (some 11) f1 #[x1] rfl (by kernel_rfl) (by exact e1 _ _ _ _ rfl rfl) (c1 _ hB) ?_
  rintro e w4 ⟨rfl, hL4⟩
  refine ⟨_, rfl, ?_⟩
  replace hT := hT.later hL4
  replace hB := hB.later hL4
  replace hp := hp.later hL4
  replace hq := hq.later hL4
  replace hx := hx.later hL4
  replace hb := hb.later hL4
  have hz4 := hL4.size
  try simp only [pa, pn, pb, pc, pd]
  refine rl_take (some 12) (.iface 111 (.pointer (some ⟨a, 0, none⟩))) rfl (by kernel_rfl) (by kernel_rfl) ?_
  try simp only [pa, pn, pb, pc, pd]
  refine rl_call (some 13) f2 #[x2] rfl (by kernel_rfl) (by exact e2 _ _ _ _ rfl rfl) (c2 _ hB) ?_
  rintro e w5 ⟨rfl, hL5⟩
  refine ⟨_, rfl, ?_⟩
  replace hT := hT.later hL5
  replace hB := hB.later hL5
  replace hp := hp.later hL5
  replace hq := hq.later hL5
  replace hx := hx.later hL5
  replace hb := hb.later hL5
  have hz5 := hL5.size
  try simp only [pa, pn, pb, pc, pd]
  refine rl_take (some 14) (.int .i64 (((x.h : Int) : Int) - ((Tr.fork p q).h : Int))) rfl (by kernel_rfl) (by exact ex_arith (e := ((x.h : Int) : Int) - ((Tr.fork p q).h : Int)) (r := ((x.h : Int) : Int) - ((Tr.fork p q).h : Int)) (by kernel_rfl) (by omega) (by omega)) ?_
  try simp only [pa, pn, pb, pc, pd]
  refine rl_take (some 5) (.int .i64 (((x.h : Int) : Int) - ((Tr.fork p q).h : Int))) rfl (by kernel_rfl) (by kernel_rfl) ?_
  try simp only [pa, pn, pb, pc, pd]
  refine rl_nil ?_
  refine hgo.out _ _ ?_
  clear hgo hgK
  refine hKK3 _ _ ?_
  refine wp_block ?_
  refine wp_seq_k fun KK6 hKK6 => ?_
  refine rl_begin fun hgK hgo => ?_
  refine rl_take (some 16) (.int .i64 (((x.h : Int) : Int) - ((Tr.fork p q).h : Int))) rfl (by kernel_rfl) (by kernel_rfl) ?_
  try simp only [pa, pn, pb, pc, pd]
  refine rl_take (some 17) (.bool false) rfl (by kernel_rfl) (by exact ex_bool (c := ((((x.h : Int) : Int) - ((Tr.fork p q).h : Int)) : Int) > 1) (by kernel_rfl) ⟨fun q => (by cases q), fun q => absurd q (by omega)⟩) ?_
  try simp only [pa, pn, pb, pc, pd]
  refine rl_take (some 15) (.bool false) rfl (by kernel_rfl) (by kernel_rfl) ?_
  try simp only [pa, pn, pb, pc, pd]
  refine rl_nil ?_
  refine hgo.out _ _ ?_
  clear hgo hgK
  refine hKK6 _ _ ?_
  refine wp_cond_false (by kernel_rfl) ?_
  refine wp_seq_k fun KK7 hKK7 => ?_
  refine rl_begin fun hgK hgo => ?_
  refine rl_take (some 64) (.int .i64 (((x.h : Int) : Int) - ((Tr.fork p q).h : Int))) rfl (by kernel_rfl) (by kernel_rfl) ?_
  try simp only [pa, pn, pb, pc, pd]
  refine rl_take (some 65) (.bool true) rfl (by kernel_rfl) (by exact ex_bool (c := ((((x.h : Int) : Int) - ((Tr.fork p q).h : Int)) : Int) < (-1)) (by kernel_rfl) ⟨fun _ => by omega, fun _ => rfl⟩) ?_
  try simp only [pa, pn, pb, pc, pd]
  refine rl_take (some 63) (.bool true) rfl (by kernel_rfl) (by kernel_rfl) ?_
  try simp only [pa, pn, pb, pc, pd]
  refine rl_nil ?_
  refine hgo.out _ _ ?_
  clear hgo hgK
  refine hKK7 _ _ ?_
  refine wp_cond_true (by kernel_rfl) ?_
  refine wp_seq_k fun KK8 hKK8 => ?_
  refine rl_begin fun hgK hgo => ?_
  refine rl_take (some 66) (.iface 111 (.pointer (some ⟨a, 0, none⟩))) rfl (by kernel_rfl) (by kernel_rfl) ?_
  try simp only [pa, pn, pb, pc, pd]
  refine rl_take (some 67) (.pointer (some ⟨a, 0, none⟩)) rfl (by kernel_rfl) (by kernel_rfl) ?_
  try simp only [pa, pn, pb, pc, pd]
  refine rl_take (some 8) (.pointer (some ⟨a, 0, none⟩)) rfl (by kernel_rfl) (by kernel_rfl) ?_
  try simp only [pa, pn, pb, pc, pd]
  refine rl_nil ?_
  refine hgo.out _ _ ?_
  clear hgo hgK
  refine hKK8 _ _ ?_
  refine wp_seq_k fun KK9 hKK9 => ?_
  refine wp_seq_k fun KK10 hKK10 => ?_
  refine rm_begin (fun W => Ltr w5 W) (by kernel_rfl) (by exact bl_drew (bl_refl _)) fun K11 hgo w11 hE hS11 => ?_
  have hv11 : Ltr w5 w11 := by rw [hE]; exact bl_drew (bl_refl _)
  have hz11 := hv11.size
  clear hE hS11
  refine rm_take 0 (some 68) (.pointer (some ⟨a, 0, none⟩)) (oi := { dst := some 68, op := Go.Op.move (Go.Operand.tmp 8), type := 111, pos := "rope.go:63", after := #[], guard := none }) rfl rfl (by kernel_rfl) (by kernel_rfl) (by kernel_rfl) (by kernel_rfl) (fun W hW => by (kernel_rfl)) ?_
  try simp only [pa, pn, pb, pc, pd]
  refine rm_take 1 (some 69) (.pointer (some ⟨a, 0, none⟩)) (oi := { dst := some 69, op := Go.Op.nilCheck (Go.Operand.tmp 68), type := 0, pos := "rope.go:63", after := #[{ on := 0, ground := Go.Ground.data }], guard := none }) rfl rfl (by kernel_rfl) (by kernel_rfl) (by kernel_rfl) (by kernel_rfl) (fun W hW => by (kernel_rfl)) ?_
  try simp only [pa, pn, pb, pc, pd]
  refine rm_take 2 (some 70) (.pointer (some ⟨a, 1, none⟩)) (oi := { dst := some 70, op := Go.Op.fieldAddr 115 (Go.Operand.tmp 69) 1, type := 0, pos := "rope.go:63", after := #[{ on := 1, ground := Go.Ground.data }], guard := none }) rfl rfl (by kernel_rfl) (by kernel_rfl) (by kernel_rfl) (by kernel_rfl) (fun W hW => by (kernel_rfl)) ?_
  try simp only [pa, pn, pb, pc, pd]
  refine rm_take 3 (some 71) (vq) (oi := { dst := some 71, op := Go.Op.load 108 (Go.Operand.tmp 70), type := 108, pos := "rope.go:63", after := #[{ on := 2, ground := Go.Ground.data }], guard := none }) rfl rfl (by kernel_rfl) (by kernel_rfl) (by kernel_rfl) (by kernel_rfl) (fun W hW => by (exact ld1 108 _ rfl a 1 rfl (fun _ => by kernel_rfl) _ ((hb.later hW).cell 1))) ?_
  try simp only [pa, pn, pb, pc, pd]
  refine rm_call 4 (some 72) (.int .i64 (q.h : Int)) f4 #[x4] (oi := { dst := some 72, op := Go.Op.call { callee := Go.Callee.invoke (Go.Operand.tmp 71) "galley/rope.height", args := #[], argTypes := #[] }, type := 3, pos := "rope.go:63", after := #[{ on := 3, ground := Go.Ground.data }], guard := none }) rfl rfl (by kernel_rfl) (by kernel_rfl) (by kernel_rfl) (by kernel_rfl) (fun W hW => by exact e4 _ _ _ _ rfl rfl) (fun W hW => c4 _ (hB.later hW)) (fun _ _ h k => Ltr.trans h k) ?_
  try simp only [pa, pn, pb, pc, pd]
  refine rm_take 5 (some 73) (.pointer (some ⟨a, 0, none⟩)) (oi := { dst := some 73, op := Go.Op.move (Go.Operand.tmp 8), type := 111, pos := "rope.go:63", after := #[], guard := none }) rfl rfl (by kernel_rfl) (by kernel_rfl) (by kernel_rfl) (by kernel_rfl) (fun W hW => by (kernel_rfl)) ?_
  try simp only [pa, pn, pb, pc, pd]
  refine rm_take 6 (some 74) (.pointer (some ⟨a, 0, none⟩)) (oi := { dst := some 74, op := Go.Op.nilCheck (Go.Operand.tmp 73), type := 0, pos := "rope.go:63", after := #[{ on := 5, ground := Go.Ground.data }], guard := none }) rfl rfl (by kernel_rfl) (by kernel_rfl) (by kernel_rfl) (by kernel_rfl) (fun W hW => by (kernel_rfl)) ?_
  try simp only [pa, pn, pb, pc, pd]
  refine rm_take 7 (some 75) (.pointer (some ⟨a, 0, none⟩)) (oi := { dst := some 75, op := Go.Op.fieldAddr 115 (Go.Operand.tmp 74) 0, type := 0, pos := "rope.go:63", after := #[{ on := 6, ground := Go.Ground.data }], guard := none }) rfl rfl (by kernel_rfl) (by kernel_rfl) (by kernel_rfl) (by kernel_rfl) (fun W hW => by (kernel_rfl)) ?_
  try simp only [pa, pn, pb, pc, pd]
  refine rm_take 8 (some 76) (vp) (oi := { dst := some 76, op := Go.Op.load 108 (Go.Operand.tmp 75), type := 108, pos := "rope.go:63", after := #[{ on := 7, ground := Go.Ground.data }], guard := none }) rfl rfl (by kernel_rfl) (by kernel_rfl) (by kernel_rfl) (by kernel_rfl) (fun W hW => by (exact ld1 108 _ rfl a 0 rfl (fun _ => by kernel_rfl) _ ((hb.later hW).cell 0))) ?_
  try simp only [pa, pn, pb, pc, pd]
  refine rm_call 9 (some 77) (.int .i64 (p.h : Int)) f3 #[x3] (oi := { dst := some 77, op := Go.Op.call { callee := Go.Callee.invoke (Go.Operand.tmp 76) "galley/rope.height", args := #[], argTypes := #[] }, type := 3, pos := "rope.go:63", after := #[{ on := 8, ground := Go.Ground.data }, { on := 4, ground := Go.Ground.chain }], guard := none }) rfl rfl (by kernel_rfl) (by kernel_rfl) (by kernel_rfl) (by kernel_rfl) (fun W hW => by exact e3 _ _ _ _ rfl rfl) (fun W hW => c3 _ (hB.later hW)) (fun _ _ h k => Ltr.trans h k) ?_
  try simp only [pa, pn, pb, pc, pd]
  refine rm_take 10 (some 78) (.bool true) (oi := { dst := some 78, op := Go.Op.binOp Go.BinOp.geq 3 (Go.Operand.tmp 72) (Go.Operand.tmp 77) 3, type := 4, pos := "rope.go:63", after := #[{ on := 4, ground := Go.Ground.data }, { on := 9, ground := Go.Ground.data }], guard := none }) rfl rfl (by kernel_rfl) (by kernel_rfl) (by kernel_rfl) (by kernel_rfl) (fun W hW => by (exact ex_bool (c := ((q.h : Int) : Int) ≥ (p.h : Int)) (by kernel_rfl) ⟨fun _ => by omega, fun _ => rfl⟩)) ?_
  try simp only [pa, pn, pb, pc, pd]
  refine rm_done (by kernel_rfl) (fun w12 hL12 hS12 => hgo.out _ _ ?_) _
  clear hgo K11
  replace hT := hT.later (show Ltr w5 _ from hS12)
  replace hB := hB.later (show Ltr w5 _ from hS12)
  replace hp := hp.later (show Ltr w5 _ from hS12)
  replace hq := hq.later (show Ltr w5 _ from hS12)
  replace hx := hx.later (show Ltr w5 _ from hS12)
  replace hb := hb.later (show Ltr w5 _ from hS12)
  have hz12 := (show Ltr w5 _ from hS12).size
  have hy12 := hL12.size
  refine hKK10 _ _ ?_
  refine wp_cond_true (by kernel_rfl) ?_
  refine wp_seq_k fun KK13 hKK13 => ?_
  refine rm_begin (fun W => Ltr w12 W) (by kernel_rfl) (by exact bl_drew (bl_refl _)) fun K14 hgo w14 hE hS14 => ?_
  have hv14 : Ltr w12 w14 := by rw [hE]; exact bl_drew (bl_refl _)
  have hz14 := hv14.size
  clear hE hS14
  refine rm_take 0 (some 79) (vx) (oi := { dst := some 79, op := Go.Op.move (Go.Operand.tmp 0), type := 108, pos := "rope.go:64", after := #[], guard := none }) rfl rfl (by kernel_rfl) (by kernel_rfl) (by kernel_rfl) (by kernel_rfl) (fun W hW => by (kernel_rfl)) ?_
  try simp only [pa, pn, pb, pc, pd]
  refine rm_take 1 (some 80) (.pointer (some ⟨a, 0, none⟩)) (oi := { dst := some 80, op := Go.Op.move (Go.Operand.tmp 8), type := 111, pos := "rope.go:64", after := #[], guard := none }) rfl rfl (by kernel_rfl) (by kernel_rfl) (by kernel_rfl) (by kernel_rfl) (fun W hW => by (kernel_rfl)) ?_
  try simp only [pa, pn, pb, pc, pd]
  refine rm_take 2 (some 81) (.pointer (some ⟨a, 0, none⟩)) (oi := { dst := some 81, op := Go.Op.nilCheck (Go.Operand.tmp 80), type := 0, pos := "rope.go:64", after := #[{ on := 1, ground := Go.Ground.data }], guard := none }) rfl rfl (by kernel_rfl) (by kernel_rfl) (by kernel_rfl) (by kernel_rfl) (fun W hW => by (kernel_rfl)) ?_
  try simp only [pa, pn, pb, pc, pd]
  refine rm_take 3 (some 82) (.pointer (some ⟨a, 0, none⟩)) (oi := { dst := some 82, op := Go.Op.fieldAddr 115 (Go.Operand.tmp 81) 0, type := 0, pos := "rope.go:64", after := #[{ on := 2, ground := Go.Ground.data }], guard := none }) rfl rfl (by kernel_rfl) (by kernel_rfl) (by kernel_rfl) (by kernel_rfl) (fun W hW => by (kernel_rfl)) ?_
  try simp only [pa, pn, pb, pc, pd]
  refine rm_take 4 (some 83) (vp) (oi := { dst := some 83, op := Go.Op.load 108 (Go.Operand.tmp 82), type := 108, pos := "rope.go:64", after := #[{ on := 3, ground := Go.Ground.data }], guard := none }) rfl rfl (by kernel_rfl) (by kernel_rfl) (by kernel_rfl) (by kernel_rfl) (fun W hW => by (exact ld1 108 _ rfl a 0 rfl (fun _ => by kernel_rfl) _ ((hb.later hW).cell 0))) ?_
  try simp only [pa, pn, pb, pc, pd]
  refine rm_take 6 (some 85) (.pointer (some ⟨a, 0, none⟩)) (oi := { dst := some 85, op := Go.Op.move (Go.Operand.tmp 8), type := 111, pos := "rope.go:64", after := #[], guard := none }) rfl rfl (by kernel_rfl) (by kernel_rfl) (by kernel_rfl) (by kernel_rfl) (fun W hW => by (kernel_rfl)) ?_
  try simp only [pa, pn, pb, pc, pd]
  refine rm_take 7 (some 86) (.pointer (some ⟨a, 0, none⟩)) (oi := { dst := some 86, op := Go.Op.nilCheck (Go.Operand.tmp 85), type := 0, pos := "rope.go:64", after := #[{ on := 6, ground := Go.Ground.data }], guard := none }) rfl rfl (by kernel_rfl) (by kernel_rfl) (by kernel_rfl) (by kernel_rfl) (fun W hW => by (kernel_rfl)) ?_
  try simp only [pa, pn, pb, pc, pd]
  refine rm_take 8 (some 87) (.pointer (some ⟨a, 1, none⟩)) (oi := { dst := some 87, op := Go.Op.fieldAddr 115 (Go.Operand.tmp 86) 1, type := 0, pos := "rope.go:64", after := #[{ on := 7, ground := Go.Ground.data }], guard := none }) rfl rfl (by kernel_rfl) (by kernel_rfl) (by kernel_rfl) (by kernel_rfl) (fun W hW => by (kernel_rfl)) ?_
  try simp only [pa, pn, pb, pc, pd]
  refine rm_take 9 (some 88) (vq) (oi := { dst := some 88, op := Go.Op.load 108 (Go.Operand.tmp 87), type := 108, pos := "rope.go:64", after := #[{ on := 8, ground := Go.Ground.data }], guard := none }) rfl rfl (by kernel_rfl) (by kernel_rfl) (by kernel_rfl) (by kernel_rfl) (fun W hW => by (exact ld1 108 _ rfl a 1 rfl (fun _ => by kernel_rfl) _ ((hb.later hW).cell 1))) ?_
  try simp only [pa, pn, pb, pc, pd]
  refine rm_pick1 (i := 5) (by kernel_rfl) ?_
  refine rm_callx (some 84) 107 #[vx, vp] (oi := { dst := some 84, op := Go.Op.call { callee := Go.Callee.value (Go.Operand.func 107), args := #[Go.Operand.tmp 79, Go.Operand.tmp 83], argTypes := #[108, 108] }, type := 108, pos := "rope.go:64", after := #[{ on := 0, ground := Go.Ground.data }, { on := 4, ground := Go.Ground.data }], guard := none }) rfl rfl (by kernel_rfl) (fun W hW => by kernel_rfl) (fun W hlz hW => pair_any x p vx vp _ (hT.later (show Ltr w12 W from hW)) (hx.later (show Ltr w12 W from hW)) (hp.later (show Ltr w12 W from hW)) (by omega) (by omega) (by omega)) (by rintro W e w' ⟨v1, rfl, hL15, hv1⟩; exact hL15) (fun _ _ h k => Ltr.trans h k) ?_
  rintro q15 e w15 hq15 hQ15 ⟨v1, rfl, hL15, hv1⟩ hS15
  refine ⟨_, rfl, ?_⟩
  have hz15 := hL15.size
  have hy15 := hq15.size
  try simp only [pa, pn, pb, pc, pd]
  refine rm_pick1 (i := 10) (by kernel_rfl) ?_
  refine rm_callx (some 89) 107 #[v1, vq] (oi := { dst := some 89, op := Go.Op.call { callee := Go.Callee.value (Go.Operand.func 107), args := #[Go.Operand.tmp 84, Go.Operand.tmp 88], argTypes := #[108, 108] }, type := 108, pos := "rope.go:64", after := #[{ on := 5, ground := Go.Ground.data }, { on := 9, ground := Go.Ground.data }, { on := 5, ground := Go.Ground.chain }], guard := none }) rfl rfl (by kernel_rfl) (fun W hW => by kernel_rfl) (fun W hlz hW => pair_any (.fork x p) q v1 vq _ (hT.later (show Ltr w12 W from hW)) (hv1.later hlz) (hq.later (show Ltr w12 W from hW)) (by omega) (by omega) (by omega)) (by rintro W e w' ⟨v, rfl, hL16, hv⟩; exact hL16) (fun _ _ h k => Ltr.trans h k) ?_
  rintro q16 e w16 hq16 hQ16 ⟨v, rfl, hL16, hv⟩ hS16
  refine ⟨_, rfl, ?_⟩
  replace hv1 := (hv1.later hq16).later hL16
  have hz16 := hL16.size
  have hy16 := hq16.size
  try simp only [pa, pn, pb, pc, pd]
  refine rm_take 11 (some 4) (v) (oi := { dst := some 4, op := Go.Op.assign (Go.Operand.tmp 89), type := 108, pos := "rope.go:64", after := #[{ on := 10, ground := Go.Ground.data }, { on := 10, ground := Go.Ground.chain }, { on := 0, ground := Go.Ground.phase }, { on := 1, ground := Go.Ground.phase }, { on := 2, ground := Go.Ground.phase }, { on := 3, ground := Go.Ground.phase }, { on := 4, ground := Go.Ground.phase }, { on := 5, ground := Go.Ground.phase }, { on := 6, ground := Go.Ground.phase }, { on := 7, ground := Go.Ground.phase }, { on := 8, ground := Go.Ground.phase }, { on := 9, ground := Go.Ground.phase }, { on := 10, ground := Go.Ground.phase }], guard := none }) rfl rfl (by kernel_rfl) (by kernel_rfl) (by kernel_rfl) (by kernel_rfl) (fun W hW => by (kernel_rfl)) ?_
  try simp only [pa, pn, pb, pc, pd]
  refine rm_done (by kernel_rfl) (fun w17 hL17 hS17 => hgo.out _ _ ?_) _
  clear hgo K14
  replace hv1 := hv1.later hL17
  replace hv := hv.later hL17
  replace hT := hT.later (show Ltr w12 _ from hS17)
  replace hB := hB.later (show Ltr w12 _ from hS17)
  replace hp := hp.later (show Ltr w12 _ from hS17)
  replace hq := hq.later (show Ltr w12 _ from hS17)
  replace hx := hx.later (show Ltr w12 _ from hS17)
  replace hb := hb.later (show Ltr w12 _ from hS17)
  have hz17 := (show Ltr w12 _ from hS17).size
  have hy17 := hL17.size
  refine hKK13 _ _ ?_
  refine wp_ret ?_
  try simp only [Exit.then, Exit.inBlock]
  refine bp_ret (v := v) (res1 rfl (res_tmp (by kernel_rfl))) ?_
  exact ⟨_, rfl, hB, hv⟩
set_option maxRecDepth 100000 in
set_option maxHeartbeats 8000000 in
theorem level_b2 (x p q r : Tr) (vx vy : Value) (w : World) (hT : Tabs w) (hx : Tree w x vx) (hy : Tree w (.fork (.fork p q) r) vy) (hm : x.bytes.length + p.bytes.length + q.bytes.length + r.bytes.length ≤ 268435456) (h1 : x.h ≤ 200000000) (h2 : (Tr.fork (.fork p q) r).h ≤ 200000000)
    (d1 : x.h + 2 ≤ (Tr.fork (.fork p q) r).h) (d2 : r.h < (Tr.fork p q).h) :
    Calls Tryd.prog 105 #[vx, vy] w fun e w' => ∃ v, e = .returned v ∧ Ltr w w' ∧ Tree w' (.fork (.fork x p) (.fork q r)) v := by
  have hB := Ltr.refl w
  obtain ⟨f1, x1, e1, c1⟩ := inv_height hx
  obtain ⟨f2, x2, e2, c2⟩ := inv_height hy
  obtain ⟨a, vg, vr, rfl, hb, hg, hr⟩ := hy.fork_open
  obtain ⟨f3, x3, e3, c3⟩ := inv_height hg
  obtain ⟨f4, x4, e4, c4⟩ := inv_height hr
  obtain ⟨b, vp, vq, rfl, hc, hp, hq⟩ := hg.fork_open
  have hl := Tr.len_fork x p
  have hh := Tr.h_fork x p
  have hl2 := Tr.len_fork q r
  have hh2 := Tr.h_fork q r
  have hh3 := Tr.h_fork p q
  have hh4 := Tr.h_fork (.fork p q) r
  go_enter Tryd.func105, Tryd.ntmps105
  have h4 := hT.four
  have hlt_hb := hb.lt
  have hlt_hc := hc.lt
  refine wp_seq_k fun KK1 hKK1 => ?_
  refine rl_begin fun hgK hgo => ?_
  refine rl_take (some 4) (.nilIface) rfl (by kernel_rfl) (by kernel_rfl) ?_
  try simp only [pa, pn, pb, pc, pd]
  refine rl_nil ?_
  refine hgo.out _ _ ?_
  clear hgo hgK
  refine hKK1 _ _ ?_
  refine wp_seq_k fun KK2 hKK2 => ?_
  refine wp_seq_k fun KK3 hKK3 => ?_
  refine rl_begin fun hgK hgo => ?_
  refine rl_take (some 10) (vx) rfl (by kernel_rfl) (by kernel_rfl) ?_
  try simp only [pa, pn, pb, pc, pd]
  refine rl_call (some 11) f1 #[x1] rfl (by kernel_rfl) (by exact e1 _ _ _ _ rfl rfl) (c1 _ hB) ?_
  rintro e w4 ⟨rfl, hL4⟩
  refine ⟨_, rfl, ?_⟩
  replace hT := hT.later hL4
  replace hB := hB.later hL4
  replace hp := hp.later hL4
  replace hq := hq.later hL4
  replace hr := hr.later hL4
  replace hx := hx.later hL4
  replace hb := hb.later hL4
  replace hc := hc.later hL4
  have hz4 := hL4.size
  try simp only [pa, pn, pb, pc, pd]
  refine rl_take (some 12) (.iface 111 (.pointer (some ⟨a, 0, none⟩))) rfl (by kernel_rfl) (by kernel_rfl) ?_
  try simp only [pa, pn, pb, pc, pd]
  refine rl_call (some 13) f2 #[x2] rfl (by kernel_rfl) (by exact e2 _ _ _ _ rfl rfl) (c2 _ hB) ?_
  rintro e w5 ⟨rfl, hL5⟩
  refine ⟨_, rfl, ?_⟩
  replace hT := hT.later hL5
  replace hB := hB.later hL5
  replace hp := hp.later hL5
  replace hq := hq.later hL5
  replace hr := hr.later hL5
  replace hx := hx.later hL5
  replace hb := hb.later hL5
  replace hc := hc.later hL5
  have hz5 := hL5.size
  try simp only [pa, pn, pb, pc, pd]
  refine rl_take (some 14) (.int .i64 (((x.h : Int) : Int) - ((Tr.fork (.fork p q) r).h : Int))) rfl (by kernel_rfl) (by exact ex_arith (e := ((x.h : Int) : Int) - ((Tr.fork (.fork p q) r).h : Int)) (r := ((x.h : Int) : Int) - ((Tr.fork (.fork p q) r).h : Int)) (by kernel_rfl) (by omega) (by omega)) ?_
  try simp only [pa, pn, pb, pc, pd]
  refine rl_take (some 5) (.int .i64 (((x.h : Int) : Int) - ((Tr.fork (.fork p q) r).h : Int))) rfl (by kernel_rfl) (by kernel_rfl) ?_
  try simp only [pa, pn, pb, pc, pd]
  refine rl_nil ?_
  refine hgo.out _ _ ?_
  clear hgo hgK
  refine hKK3 _ _ ?_
  refine wp_block ?_
  refine wp_seq_k fun KK6 hKK6 => ?_
  refine rl_begin fun hgK hgo => ?_
  refine rl_take (some 16) (.int .i64 (((x.h : Int) : Int) - ((Tr.fork (.fork p q) r).h : Int))) rfl (by kernel_rfl) (by kernel_rfl) ?_
  try simp only [pa, pn, pb, pc, pd]
  refine rl_take (some 17) (.bool false) rfl (by kernel_rfl) (by exact ex_bool (c := ((((x.h : Int) : Int) - ((Tr.fork (.fork p q) r).h : Int)) : Int) > 1) (by kernel_rfl) ⟨fun q => (by cases q), fun q => absurd q (by omega)⟩) ?_
  try simp only [pa, pn, pb, pc, pd]
  refine rl_take (some 15) (.bool false) rfl (by kernel_rfl) (by kernel_rfl) ?_
  try simp only [pa, pn, pb, pc, pd]
  refine rl_nil ?_
  refine hgo.out _ _ ?_
  clear hgo hgK
  refine hKK6 _ _ ?_
  refine wp_cond_false (by kernel_rfl) ?_
  refine wp_seq_k fun KK7 hKK7 => ?_
  refine rl_begin fun hgK hgo => ?_
  refine rl_take (some 64) (.int .i64 (((x.h : Int) : Int) - ((Tr.fork (.fork p q) r).h : Int))) rfl (by kernel_rfl) (by kernel_rfl) ?_
  try simp only [pa, pn, pb, pc, pd]
  refine rl_take (some 65) (.bool true) rfl (by kernel_rfl) (by exact ex_bool (c := ((((x.h : Int) : Int) - ((Tr.fork (.fork p q) r).h : Int)) : Int) < (-1)) (by kernel_rfl) ⟨fun _ => by omega, fun _ => rfl⟩) ?_
  try simp only [pa, pn, pb, pc, pd]
  refine rl_take (some 63) (.bool true) rfl (by kernel_rfl) (by kernel_rfl) ?_
  try simp only [pa, pn, pb, pc, pd]
  refine rl_nil ?_
  refine hgo.out _ _ ?_
  clear hgo hgK
  refine hKK7 _ _ ?_
  refine wp_cond_true (by kernel_rfl) ?_
  refine wp_seq_k fun KK8 hKK8 => ?_
  refine rl_begin fun hgK hgo => ?_
  refine rl_take (some 66) (.iface 111 (.pointer (some ⟨a, 0, none⟩))) rfl (by kernel_rfl) (by kernel_rfl) ?_
  try simp only [pa, pn, pb, pc, pd]
  refine rl_take (some 67) (.pointer (some ⟨a, 0, none⟩)) rfl (by kernel_rfl) (by kernel_rfl) ?_
  try simp only [pa, pn, pb, pc, pd]
  refine rl_take (some 8) (.pointer (some ⟨a, 0, none⟩)) rfl (by kernel_rfl) (by kernel_rfl) ?_
  try simp only [pa, pn, pb, pc, pd]
  refine rl_nil ?_
  refine hgo.out _ _ ?_
  clear hgo hgK
  refine hKK8 _ _ ?_
  refine wp_seq_k fun KK9 hKK9 => ?_
  refine wp_seq_k fun KK10 hKK10 => ?_
  refine rm_begin (fun W => Ltr w5 W) (by kernel_rfl) (by exact bl_drew (bl_refl _)) fun K11 hgo w11 hE hS11 => ?_
  have hv11 : Ltr w5 w11 := by rw [hE]; exact bl_drew (bl_refl _)
  have hz11 := hv11.size
  clear hE hS11
  refine rm_take 0 (some 68) (.pointer (some ⟨a, 0, none⟩)) (oi := { dst := some 68, op := Go.Op.move (Go.Operand.tmp 8), type := 111, pos := "rope.go:63", after := #[], guard := none }) rfl rfl (by kernel_rfl) (by kernel_rfl) (by kernel_rfl) (by kernel_rfl) (fun W hW => by (kernel_rfl)) ?_
  try simp only [pa, pn, pb, pc, pd]
  refine rm_take 1 (some 69) (.pointer (some ⟨a, 0, none⟩)) (oi := { dst := some 69, op := Go.Op.nilCheck (Go.Operand.tmp 68), type := 0, pos := "rope.go:63", after := #[{ on := 0, ground := Go.Ground.data }], guard := none }) rfl rfl (by kernel_rfl) (by kernel_rfl) (by kernel_rfl) (by kernel_rfl) (fun W hW => by (kernel_rfl)) ?_
  try simp only [pa, pn, pb, pc, pd]
  refine rm_take 2 (some 70) (.pointer (some ⟨a, 1, none⟩)) (oi := { dst := some 70, op := Go.Op.fieldAddr 115 (Go.Operand.tmp 69) 1, type := 0, pos := "rope.go:63", after := #[{ on := 1, ground := Go.Ground.data }], guard := none }) rfl rfl (by kernel_rfl) (by kernel_rfl) (by kernel_rfl) (by kernel_rfl) (fun W hW => by (kernel_rfl)) ?_
  try simp only [pa, pn, pb, pc, pd]
  refine rm_take 3 (some 71) (vr) (oi := { dst := some 71, op := Go.Op.load 108 (Go.Operand.tmp 70), type := 108, pos := "rope.go:63", after := #[{ on := 2, ground := Go.Ground.data }], guard := none }) rfl rfl (by kernel_rfl) (by kernel_rfl) (by kernel_rfl) (by kernel_rfl) (fun W hW => by (exact ld1 108 _ rfl a 1 rfl (fun _ => by kernel_rfl) _ ((hb.later hW).cell 1))) ?_
  try simp only [pa, pn, pb, pc, pd]
  refine rm_call 4 (some 72) (.int .i64 (r.h : Int)) f4 #[x4] (oi := { dst := some 72, op := Go.Op.call { callee := Go.Callee.invoke (Go.Operand.tmp 71) "galley/rope.height", args := #[], argTypes := #[] }, type := 3, pos := "rope.go:63", after := #[{ on := 3, ground := Go.Ground.data }], guard := none }) rfl rfl (by kernel_rfl) (by kernel_rfl) (by kernel_rfl) (by kernel_rfl) (fun W hW => by exact e4 _ _ _ _ rfl rfl) (fun W hW => c4 _ (hB.later hW)) (fun _ _ h k => Ltr.trans h k) ?_
  try simp only [pa, pn, pb, pc, pd]
  refine rm_take 5 (some 73) (.pointer (some ⟨a, 0, none⟩)) (oi := { dst := some 73, op := Go.Op.move (Go.Operand.tmp 8), type := 111, pos := "rope.go:63", after := #[], guard := none }) rfl rfl (by kernel_rfl) (by kernel_rfl) (by kernel_rfl) (by kernel_rfl) (fun W hW => by (kernel_rfl)) ?_
  try simp only [pa, pn, pb, pc, pd]
  refine rm_take 6 (some 74) (.pointer (some ⟨a, 0, none⟩)) (oi := { dst := some 74, op := Go.Op.nilCheck (Go.Operand.tmp 73), type := 0, pos := "rope.go:63", after := #[{ on := 5, ground := Go.Ground.data }], guard := none }) rfl rfl (by kernel_rfl) (by kernel_rfl) (by kernel_rfl) (by kernel_rfl) (fun W hW => by (kernel_rfl)) ?_
  try simp only [pa, pn, pb, pc, pd]
  refine rm_take 7 (some 75) (.pointer (some ⟨a, 0, none⟩)) (oi := { dst := some 75, op := Go.Op.fieldAddr 115 (Go.Operand.tmp 74) 0, type := 0, pos := "rope.go:63", after := #[{ on := 6, ground := Go.Ground.data }], guard := none }) rfl rfl (by kernel_rfl) (by kernel_rfl) (by kernel_rfl) (by kernel_rfl) (fun W hW => by (kernel_rfl)) ?_
  try simp only [pa, pn, pb, pc, pd]
  refine rm_take 8 (some 76) (.iface 111 (.pointer (some ⟨b, 0, none⟩))) (oi := { dst := some 76, op := Go.Op.load 108 (Go.Operand.tmp 75), type := 108, pos := "rope.go:63", after := #[{ on := 7, ground := Go.Ground.data }], guard := none }) rfl rfl (by kernel_rfl) (by kernel_rfl) (by kernel_rfl) (by kernel_rfl) (fun W hW => by (exact ld1 108 _ rfl a 0 rfl (fun _ => by kernel_rfl) _ ((hb.later hW).cell 0))) ?_
  try simp only [pa, pn, pb, pc, pd]
  refine rm_call 9 (some 77) (.int .i64 ((Tr.fork p q).h : Int)) f3 #[x3] (oi := { dst := some 77, op := Go.Op.call { callee := Go.Callee.invoke (Go.Operand.tmp 76) "galley/rope.height", args := #[], argTypes := #[] }, type := 3, pos := "rope.go:63", after := #[{ on := 8, ground := Go.Ground.data }, { on := 4, ground := Go.Ground.chain }], guard := none }) rfl rfl (by kernel_rfl) (by kernel_rfl) (by kernel_rfl) (by kernel_rfl) (fun W hW => by exact e3 _ _ _ _ rfl rfl) (fun W hW => c3 _ (hB.later hW)) (fun _ _ h k => Ltr.trans h k) ?_
  try simp only [pa, pn, pb, pc, pd]
  refine rm_take 10 (some 78) (.bool false) (oi := { dst := some 78, op := Go.Op.binOp Go.BinOp.geq 3 (Go.Operand.tmp 72) (Go.Operand.tmp 77) 3, type := 4, pos := "rope.go:63", after := #[{ on := 4, ground := Go.Ground.data }, { on := 9, ground := Go.Ground.data }], guard := none }) rfl rfl (by kernel_rfl) (by kernel_rfl) (by kernel_rfl) (by kernel_rfl) (fun W hW => by (exact ex_bool (c := ((r.h : Int) : Int) ≥ ((Tr.fork p q).h : Int)) (by kernel_rfl) ⟨fun q => (by cases q), fun q => absurd q (by omega)⟩)) ?_
  try simp only [pa, pn, pb, pc, pd]
  refine rm_done (by kernel_rfl) (fun w12 hL12 hS12 => hgo.out _ _ ?_) _
  clear hgo K11
  replace hT := hT.later (show Ltr w5 _ from hS12)
  replace hB := hB.later (show Ltr w5 _ from hS12)
  replace hp := hp.later (show Ltr w5 _ from hS12)
  replace hq := hq.later (show Ltr w5 _ from hS12)
  replace hr := hr.later (show Ltr w5 _ from hS12)
  replace hx := hx.later (show Ltr w5 _ from hS12)
  replace hb := hb.later (show Ltr w5 _ from hS12)
  replace hc := hc.later (show Ltr w5 _ from hS12)
  have hz12 := (show Ltr w5 _ from hS12).size
  have hy12 := hL12.size
  refine hKK10 _ _ ?_
  refine wp_cond_false (by kernel_rfl) ?_
  refine wp_skip ?_
  refine hKK9 _ _ ?_
  refine wp_seq_k fun KK13 hKK13 => ?_
  refine rl_begin fun hgK hgo => ?_
  refine rl_take (some 90) (.pointer (some ⟨a, 0, none⟩)) rfl (by kernel_rfl) (by kernel_rfl) ?_
  try simp only [pa, pn, pb, pc, pd]
  refine rl_take (some 91) (.pointer (some ⟨a, 0, none⟩)) rfl (by kernel_rfl) (by kernel_rfl) ?_
  try simp only [pa, pn, pb, pc, pd]
  refine rl_take (some 92) (.pointer (some ⟨a, 0, none⟩)) rfl (by kernel_rfl) (by kernel_rfl) ?_
  try simp only [pa, pn, pb, pc, pd]
  refine rl_take (some 93) (.iface 111 (.pointer (some ⟨b, 0, none⟩))) rfl (by kernel_rfl) (by exact ld1 108 _ rfl a 0 rfl (fun _ => by kernel_rfl) _ (hb.cell 0)) ?_
  try simp only [pa, pn, pb, pc, pd]
  refine rl_take (some 94) (.pointer (some ⟨b, 0, none⟩)) rfl (by kernel_rfl) (by kernel_rfl) ?_
  try simp only [pa, pn, pb, pc, pd]
  refine rl_take (some 9) (.pointer (some ⟨b, 0, none⟩)) rfl (by kernel_rfl) (by kernel_rfl) ?_
  try simp only [pa, pn, pb, pc, pd]
  refine rl_nil ?_
  refine hgo.out _ _ ?_
  clear hgo hgK
  refine hKK13 _ _ ?_
  refine wp_seq_k fun KK14 hKK14 => ?_
  refine rm_begin (fun W => Ltr w12 W) (by kernel_rfl) (by exact bl_drew (bl_refl _)) fun K15 hgo w15 hE hS15 => ?_
  have hv15 : Ltr w12 w15 := by rw [hE]; exact bl_drew (bl_refl _)
  have hz15 := hv15.size
  clear hE hS15
  refine rm_take 0 (some 95) (vx) (oi := { dst := some 95, op := Go.Op.move (Go.Operand.tmp 0), type := 108, pos := "rope.go:67", after := #[], guard := none }) rfl rfl (by kernel_rfl) (by kernel_rfl) (by kernel_rfl) (by kernel_rfl) (fun W hW => by (kernel_rfl)) ?_
  try simp only [pa, pn, pb, pc, pd]
  refine rm_take 1 (some 96) (.pointer (some ⟨b, 0, none⟩)) (oi := { dst := some 96, op := Go.Op.move (Go.Operand.tmp 9), type := 111, pos := "rope.go:67", after := #[], guard := none }) rfl rfl (by kernel_rfl) (by kernel_rfl) (by kernel_rfl) (by kernel_rfl) (fun W hW => by (kernel_rfl)) ?_
  try simp only [pa, pn, pb, pc, pd]
  refine rm_take 2 (some 97) (.pointer (some ⟨b, 0, none⟩)) (oi := { dst := some 97, op := Go.Op.nilCheck (Go.Operand.tmp 96), type := 0, pos := "rope.go:67", after := #[{ on := 1, ground := Go.Ground.data }], guard := none }) rfl rfl (by kernel_rfl) (by kernel_rfl) (by kernel_rfl) (by kernel_rfl) (fun W hW => by (kernel_rfl)) ?_
  try simp only [pa, pn, pb, pc, pd]
  refine rm_take 3 (some 98) (.pointer (some ⟨b, 0, none⟩)) (oi := { dst := some 98, op := Go.Op.fieldAddr 115 (Go.Operand.tmp 97) 0, type := 0, pos := "rope.go:67", after := #[{ on := 2, ground := Go.Ground.data }], guard := none }) rfl rfl (by kernel_rfl) (by kernel_rfl) (by kernel_rfl) (by kernel_rfl) (fun W hW => by (kernel_rfl)) ?_
  try simp only [pa, pn, pb, pc, pd]
  refine rm_take 4 (some 99) (vp) (oi := { dst := some 99, op := Go.Op.load 108 (Go.Operand.tmp 98), type := 108, pos := "rope.go:67", after := #[{ on := 3, ground := Go.Ground.data }], guard := none }) rfl rfl (by kernel_rfl) (by kernel_rfl) (by kernel_rfl) (by kernel_rfl) (fun W hW => by (exact ld1 108 _ rfl b 0 rfl (fun _ => by kernel_rfl) _ ((hc.later hW).cell 0))) ?_
  try simp only [pa, pn, pb, pc, pd]
  refine rm_take 6 (some 101) (.pointer (some ⟨b, 0, none⟩)) (oi := { dst := some 101, op := Go.Op.move (Go.Operand.tmp 9), type := 111, pos := "rope.go:67", after := #[], guard := none }) rfl rfl (by kernel_rfl) (by kernel_rfl) (by kernel_rfl) (by kernel_rfl) (fun W hW => by (kernel_rfl)) ?_
  try simp only [pa, pn, pb, pc, pd]
  refine rm_take 7 (some 102) (.pointer (some ⟨b, 0, none⟩)) (oi := { dst := some 102, op := Go.Op.nilCheck (Go.Operand.tmp 101), type := 0, pos := "rope.go:67", after := #[{ on := 6, ground := Go.Ground.data }], guard := none }) rfl rfl (by kernel_rfl) (by kernel_rfl) (by kernel_rfl) (by kernel_rfl) (fun W hW => by (kernel_rfl)) ?_
  try simp only [pa, pn, pb, pc, pd]
  refine rm_take 8 (some 103) (.pointer (some ⟨b, 1, none⟩)) (oi := { dst := some 103, op := Go.Op.fieldAddr 115 (Go.Operand.tmp 102) 1, type := 0, pos := "rope.go:67", after := #[{ on := 7, ground := Go.Ground.data }], guard := none }) rfl rfl (by kernel_rfl) (by kernel_rfl) (by kernel_rfl) (by kernel_rfl) (fun W hW => by (kernel_rfl)) ?_
  try simp only [pa, pn, pb, pc, pd]
  refine rm_take 9 (some 104) (vq) (oi := { dst := some 104, op := Go.Op.load 108 (Go.Operand.tmp 103), type := 108, pos := "rope.go:67", after := #[{ on := 8, ground := Go.Ground.data }], guard := none }) rfl rfl (by kernel_rfl) (by kernel_rfl) (by kernel_rfl) (by kernel_rfl) (fun W hW => by (exact ld1 108 _ rfl b 1 rfl (fun _ => by kernel_rfl) _ ((hc.later hW).cell 1))) ?_
  try simp only [pa, pn, pb, pc, pd]
  refine rm_take 10 (some 105) (.pointer (some ⟨a, 0, none⟩)) (oi := { dst := some 105, op := Go.Op.move (Go.Operand.tmp 8), type := 111, pos := "rope.go:67", after := #[], guard := none }) rfl rfl (by kernel_rfl) (by kernel_rfl) (by kernel_rfl) (by kernel_rfl) (fun W hW => by (kernel_rfl)) ?_
  try simp only [pa, pn, pb, pc, pd]
  refine rm_take 11 (some 106) (.pointer (some ⟨a, 0, none⟩)) (oi := { dst := some 106, op := Go.Op.nilCheck (Go.Operand.tmp 105), type := 0, pos := "rope.go:67", after := #[{ on := 10, ground := Go.Ground.data }], guard := none }) rfl rfl (by kernel_rfl) (by kernel_rfl) (by kernel_rfl) (by kernel_rfl) (fun W hW => by (kernel_rfl)) ?_
  try simp only [pa, pn, pb, pc, pd]
  refine rm_take 12 (some 107) (.pointer (some ⟨a, 1, none⟩)) (oi := { dst := some 107, op := Go.Op.fieldAddr 115 (Go.Operand.tmp 106) 1, type := 0, pos := "rope.go:67", after := #[{ on := 11, ground := Go.Ground.data }], guard := none }) rfl rfl (by kernel_rfl) (by kernel_rfl) (by kernel_rfl) (by kernel_rfl) (fun W hW => by (kernel_rfl)) ?_
  try simp only [pa, pn, pb, pc, pd]
  refine rm_take 13 (some 108) (vr) (oi := { dst := some 108, op := Go.Op.load 108 (Go.Operand.tmp 107), type := 108, pos := "rope.go:67", after := #[{ on := 12, ground := Go.Ground.data }], guard := none }) rfl rfl (by kernel_rfl) (by kernel_rfl) (by kernel_rfl) (by kernel_rfl) (fun W hW => by (exact ld1 108 _ rfl a 1 rfl (fun _ => by kernel_rfl) _ ((hb.later hW).cell 1))) ?_
  try simp only [pa, pn, pb, pc, pd]
  refine rm_pick1 (i := 5) (by kernel_rfl) ?_
  refine rm_callx (some 100) 107 #[vx, vp] (oi := { dst := some 100, op := Go.Op.call { callee := Go.Callee.value (Go.Operand.func 107), args := #[Go.Operand.tmp 95, Go.Operand.tmp 99], argTypes := #[108, 108] }, type := 108, pos := "rope.go:67", after := #[{ on := 0, ground := Go.Ground.data }, { on := 4, ground := Go.Ground.data }], guard := none }) rfl rfl (by kernel_rfl) (fun W hW => by kernel_rfl) (fun W hlz hW => pair_any x p vx vp _ (hT.later (show Ltr w12 W from hW)) (hx.later (show Ltr w12 W from hW)) (hp.later (show Ltr w12 W from hW)) (by omega) (by omega) (by omega)) (by rintro W e w' ⟨v1, rfl, hL16, hv1⟩; exact hL16) (fun _ _ h k => Ltr.trans h k) ?_
  rintro q16 e w16 hq16 hQ16 ⟨v1, rfl, hL16, hv1⟩ hS16
  refine ⟨_, rfl, ?_⟩
  have hz16 := hL16.size
  have hy16 := hq16.size
  try simp only [pa, pn, pb, pc, pd]
  refine rm_pick1 (i := 14) (by kernel_rfl) ?_
  refine rm_callx (some 109) 107 #[vq, vr] (oi := { dst := some 109, op := Go.Op.call { callee := Go.Callee.value (Go.Operand.func 107), args := #[Go.Operand.tmp 104, Go.Operand.tmp 108], argTypes := #[108, 108] }, type := 108, pos := "rope.go:67", after := #[{ on := 9, ground := Go.Ground.data }, { on := 13, ground := Go.Ground.data }, { on := 5, ground := Go.Ground.chain }], guard := none }) rfl rfl (by kernel_rfl) (fun W hW => by kernel_rfl) (fun W hlz hW => pair_any q r vq vr _ (hT.later (show Ltr w12 W from hW)) (hq.later (show Ltr w12 W from hW)) (hr.later (show Ltr w12 W from hW)) (by omega) (by omega) (by omega)) (by rintro W e w' ⟨v2, rfl, hL17, hv2⟩; exact hL17) (fun _ _ h k => Ltr.trans h k) ?_
  rintro q17 e w17 hq17 hQ17 ⟨v2, rfl, hL17, hv2⟩ hS17
  refine ⟨_, rfl, ?_⟩
  replace hv1 := (hv1.later hq17).later hL17
  have hz17 := hL17.size
  have hy17 := hq17.size
  try simp only [pa, pn, pb, pc, pd]
  refine rm_pick1 (i := 15) (by kernel_rfl) ?_
  refine rm_callx (some 110) 107 #[v1, v2] (oi := { dst := some 110, op := Go.Op.call { callee := Go.Callee.value (Go.Operand.func 107), args := #[Go.Operand.tmp 100, Go.Operand.tmp 109], argTypes := #[108, 108] }, type := 108, pos := "rope.go:67", after := #[{ on := 5, ground := Go.Ground.data }, { on := 14, ground := Go.Ground.data }, { on := 14, ground := Go.Ground.chain }], guard := none }) rfl rfl (by kernel_rfl) (fun W hW => by kernel_rfl) (fun W hlz hW => pair_any (.fork x p) (.fork q r) v1 v2 _ (hT.later (show Ltr w12 W from hW)) (hv1.later hlz) (hv2.later hlz) (by omega) (by omega) (by omega)) (by rintro W e w' ⟨v, rfl, hL18, hv⟩; exact hL18) (fun _ _ h k => Ltr.trans h k) ?_
  rintro q18 e w18 hq18 hQ18 ⟨v, rfl, hL18, hv⟩ hS18
  refine ⟨_, rfl, ?_⟩
  replace hv1 := (hv1.later hq18).later hL18
  replace hv2 := (hv2.later hq18).later hL18
  have hz18 := hL18.size
  have hy18 := hq18.size
  try simp only [pa, pn, pb, pc, pd]
  refine rm_take 16 (some 4) (v) (oi := { dst := some 4, op := Go.Op.assign (Go.Operand.tmp 110), type := 108, pos := "rope.go:67", after := #[{ on := 15, ground := Go.Ground.data }, { on := 15, ground := Go.Ground.chain }, { on := 0, ground := Go.Ground.phase }, { on := 1, ground := Go.Ground.phase }, { on := 2, ground := Go.Ground.phase }, { on := 3, ground := Go.Ground.phase }, { on := 4, ground := Go.Ground.phase }, { on := 5, ground := Go.Ground.phase }, { on := 6, ground := Go.Ground.phase }, { on := 7, ground := Go.Ground.phase }, { on := 8, ground := Go.Ground.phase }, { on := 9, ground := Go.Ground.phase }, { on := 10, ground := Go.Ground.phase }, { on := 11, ground := Go.Ground.phase }, { on := 12, ground := Go.Ground.phase }, { on := 13, ground := Go.Ground.phase }, { on := 14, ground := Go.Ground.phase }, { on := 15, ground := Go.Ground.phase }], guard := none }) rfl rfl (by kernel_rfl) (by kernel_rfl) (by kernel_rfl) (by kernel_rfl) (fun W hW => by (kernel_rfl)) ?_
  try simp only [pa, pn, pb, pc, pd]
  refine rm_done (by kernel_rfl) (fun w19 hL19 hS19 => hgo.out _ _ ?_) _
  clear hgo K15
  replace hv1 := hv1.later hL19
  replace hv2 := hv2.later hL19
  replace hv := hv.later hL19
  replace hT := hT.later (show Ltr w12 _ from hS19)
  replace hB := hB.later (show Ltr w12 _ from hS19)
  replace hp := hp.later (show Ltr w12 _ from hS19)
  replace hq := hq.later (show Ltr w12 _ from hS19)
  replace hr := hr.later (show Ltr w12 _ from hS19)
  replace hx := hx.later (show Ltr w12 _ from hS19)
  replace hb := hb.later (show Ltr w12 _ from hS19)
  replace hc := hc.later (show Ltr w12 _ from hS19)
  have hz19 := (show Ltr w12 _ from hS19).size
  have hy19 := hL19.size
  refine hKK14 _ _ ?_
  refine wp_ret ?_
  try simp only [Exit.then, Exit.inBlock]
  refine bp_ret (v := v) (res1 rfl (res_tmp (by kernel_rfl))) ?_
  exact ⟨_, rfl, hB, hv⟩
theorem level_any (x y : Tr) (vx vy : Value) (w : World) (hT : Tabs w) (hx : Tree w x vx) (hy : Tree w y vy) (ox : x.ok) (oy : y.ok) (hm : x.bytes.length + y.bytes.length ≤ 200000000) (d1 : x.h ≤ y.h + 2) (d2 : y.h ≤ x.h + 2) :
    Calls Tryd.prog 105 #[vx, vy] w fun e w' => ∃ v, e = .returned v ∧ Ltr w w' ∧ ∃ t : Tr, Tree w' t v ∧ t.ok ∧ t.bytes = x.bytes ++ y.bytes ∧ max x.h y.h ≤ t.h ∧ t.h ≤ max x.h y.h + 1 ∧ (x.h ≤ y.h + 1 → y.h ≤ x.h + 1 → t.h = 1 + max x.h y.h) := by
  have bx := Tr.h_le x ox
  have bY := Tr.h_le y oy
  have px := Tr.h_pos x
  have py := Tr.h_pos y
  by_cases c1 : x.h ≤ y.h + 1
  · by_cases c2 : y.h ≤ x.h + 1
    · refine (level_c x y vx vy w hT hx hy (by omega) (by omega) (by omega) c1 c2).mono ?_
      rintro e w' ⟨v, rfl, hL, hv⟩
      exact ⟨v, rfl, hL, _, hv, ⟨ox, oy, c1, c2⟩, rfl, by simp only [Tr.h]; omega, by simp only [Tr.h]; omega, fun _ _ => rfl⟩
    · cases y with
      | tip l => simp only [Tr.h] at c2; omega
      | fork p q =>
        obtain ⟨op, oq, e1, e2⟩ := oy
        have hl := Tr.len_fork p q
        simp only [Tr.h] at c1 c2 d1 d2 bY
        by_cases c3 : p.h ≤ q.h
        · refine (level_b1 x p q vx vy w hT hx hy (by omega) (by omega) (by simp only [Tr.h]; omega) (by simp only [Tr.h]; omega) c3).mono ?_
          rintro e w' ⟨v, rfl, hL, hv⟩
          exact ⟨v, rfl, hL, _, hv, ⟨⟨ox, op, by omega, by omega⟩, oq, by simp only [Tr.h]; omega, by simp only [Tr.h]; omega⟩, by simp [Tr.bytes], by simp only [Tr.h]; omega, by simp only [Tr.h]; omega, fun _ h => absurd h (by simp only [Tr.h]; omega)⟩
        · cases p with
          | tip l => simp only [Tr.h] at c3; have := Tr.h_pos q; omega
          | fork p r =>
            obtain ⟨op, or', e3, e4⟩ := op
            have hl2 := Tr.len_fork p r
            simp only [Tr.h] at c1 c2 c3 d1 d2 bY e1 e2
            refine (level_b2 x p r q vx vy w hT hx hy (by omega) (by omega) (by simp only [Tr.h]; omega) (by simp only [Tr.h]; omega) (by simp only [Tr.h]; omega)).mono ?_
            rintro e w' ⟨v, rfl, hL, hv⟩
            exact ⟨v, rfl, hL, _, hv, ⟨⟨ox, op, by omega, by omega⟩, ⟨or', oq, by omega, by omega⟩, by simp only [Tr.h]; omega, by simp only [Tr.h]; omega⟩, by simp [Tr.bytes], by simp only [Tr.h]; omega, by simp only [Tr.h]; omega, fun _ h => absurd h (by simp only [Tr.h]; omega)⟩
  · cases x with
    | tip l => simp only [Tr.h] at c1; omega
    | fork p q =>
      obtain ⟨op, oq, e1, e2⟩ := ox
      have hl := Tr.len_fork p q
      simp only [Tr.h] at c1 d1 d2 bx
      by_cases c3 : q.h ≤ p.h
      · refine (level_a1 p q y vx vy w hT hx hy (by omega) (by simp only [Tr.h]; omega) (by omega) (by simp only [Tr.h]; omega) c3).mono ?_
        rintro e w' ⟨v, rfl, hL, hv⟩
        exact ⟨v, rfl, hL, _, hv, ⟨op, ⟨oq, oy, by omega, by omega⟩, by simp only [Tr.h]; omega, by simp only [Tr.h]; omega⟩, by simp [Tr.bytes], by simp only [Tr.h]; omega, by simp only [Tr.h]; omega, fun h _ => absurd h (by simp only [Tr.h]; omega)⟩
      · cases q with
        | tip l => simp only [Tr.h] at c3; have := Tr.h_pos p; omega
        | fork q r =>
          obtain ⟨oq, or', e3, e4⟩ := oq
          have hl2 := Tr.len_fork q r
          simp only [Tr.h] at c1 c3 d1 d2 bx e1 e2
          refine (level_a2 p q r y vx vy w hT hx hy (by omega) (by simp only [Tr.h]; omega) (by omega) (by simp only [Tr.h]; omega) (by simp only [Tr.h]; omega)).mono ?_
          rintro e w' ⟨v, rfl, hL, hv⟩
          exact ⟨v, rfl, hL, _, hv, ⟨⟨op, oq, by omega, by omega⟩, ⟨or', oy, by omega, by omega⟩, by simp only [Tr.h]; omega, by simp only [Tr.h]; omega⟩, by simp [Tr.bytes], by simp only [Tr.h]; omega, by simp only [Tr.h]; omega, fun h _ => absurd h (by simp only [Tr.h]; omega)⟩
end Go.Proofs.YtliphfgiaioebaaDoor
