/-
  Package rope: pair, level.
  Package rope: join.
-/
import Derived.Test.YtliphfgiaioebaaDoorB06
namespace Go.Proofs.YtliphfgiaioebaaDoor
set_option linter.unusedVariables false
set_option linter.unusedSimpArgs false
open Go.RowKit

theorem Tr.len_fork (x y : Tr) : (Tr.fork x y).bytes.length = x.bytes.length + y.bytes.length := by simp [Tr.bytes]
theorem Tr.h_fork (x y : Tr) : (Tr.fork x y).h = 1 + max x.h y.h := rfl
theorem Tr.b_fork (x y : Tr) : (Tr.fork x y).bytes = x.bytes ++ y.bytes := rfl
set_option maxRecDepth 100000 in
set_option maxHeartbeats 4000000 in
theorem pair_any (x y : Tr) (vx vy : Value) (w : World) (hT : Tabs w) (hx : Tree w x vx) (hy : Tree w y vy) (hm : x.bytes.length + y.bytes.length ≤ 268435456) (h1 : x.h ≤ 268435456) (h2 : y.h ≤ 268435456) :
    Calls Tryd.prog 107 #[vx, vy] w fun e w' => ∃ v, e = .returned v ∧ Ltr w w' ∧ Tree w' (.fork x y) v := by
  have hB := Ltr.refl w
  obtain ⟨f1, x1, e1, c1⟩ := inv_size hx
  obtain ⟨f2, x2, e2, c2⟩ := inv_size hy
  obtain ⟨f3, x3, e3, c3⟩ := inv_height hx
  obtain ⟨f4, x4, e4, c4⟩ := inv_height hy
  obtain ⟨f5, x5, e5, c5⟩ := inv_weld hx
  obtain ⟨f6, x6, e6, c6⟩ := inv_weld hy
  have hl : (x.bytes ++ y.bytes).length = x.bytes.length + y.bytes.length := List.length_append
  obtain ⟨t1, z1, rfl⟩ := hx.iface
  obtain ⟨t2, z2, rfl⟩ := hy.iface
  go_enter Tryd.func107, Tryd.ntmps107
  have h4 := hT.four
  refine wp_seq_k fun KK1 hKK1 => rl_begin fun hgK hgo => tk 4 .nilIface ?_
  simp only [pp]
  refine rl_end hgo <| hKK1 _ _ <| wp_seq_k fun KK2 hKK2 => rl_begin fun hgK hgo => tk 5 (.iface t1 z1) <| tk 6 (.iface t2 z2) <| tk 7 (.iface t1 z1) ?_
  simp only [pp]
  refine rl_call (some 8) f1 #[x1] rfl (by kernel_rfl) (by exact e1 _ _ _ _ rfl rfl) (c1 _ hB) ?_
  rintro e w3 ⟨rfl, hL3⟩
  refine ⟨_, rfl, ?_⟩
  have hz3 := hL3.size
  try simp only [pp]
  refine tk 9 (.iface t2 z2) ?_
  simp only [pp]
  replace hB := hB.later hL3
  refine rl_call (some 10) f2 #[x2] rfl (by kernel_rfl) (by exact e2 _ _ _ _ rfl rfl) (c2 _ hB) ?_
  rintro e w4 ⟨rfl, hL4⟩
  refine ⟨_, rfl, ?_⟩
  have hz4 := hL4.size
  try simp only [pp]
  refine tx 11 (.int .i64 ((x.bytes ++ y.bytes).length)) (by exact ex_arith (e := (x.bytes.length : Int) + y.bytes.length) (r := (x.bytes ++ y.bytes).length) (by kernel_rfl) (by omega) (by omega)) <| tk 12 (.iface t1 z1) ?_
  simp only [pp]
  replace hB := hB.later hL4
  refine rl_call (some 13) f3 #[x3] rfl (by kernel_rfl) (by exact e3 _ _ _ _ rfl rfl) (c3 _ hB) ?_
  rintro e w5 ⟨rfl, hL5⟩
  refine ⟨_, rfl, ?_⟩
  have hz5 := hL5.size
  try simp only [pp]
  refine tk 14 (.iface t2 z2) ?_
  simp only [pp]
  replace hB := hB.later hL5
  refine rl_call (some 15) f4 #[x4] rfl (by kernel_rfl) (by exact e4 _ _ _ _ rfl rfl) (c4 _ hB) ?_
  rintro e w6 ⟨rfl, hL6⟩
  refine ⟨_, rfl, ?_⟩
  have hz6 := hL6.size
  try simp only [pp]
  refine tx 16 (.int .i64 (max ((x.h : Int) : Int) (y.h : Int))) (by exact ex_max2 (a := (x.h : Int)) (b := (y.h : Int)) rfl rfl rfl (r := max ((x.h : Int) : Int) (y.h : Int)) (by omega)) ?_
  simp only [pp]
  refine tx 17 (.int .i64 (((1 + max x.h y.h : Nat) : Int))) (by exact ex_arith (e := (1 : Int) + (max ((x.h : Int) : Int) (y.h : Int))) (r := ((1 + max x.h y.h : Nat) : Int)) (by kernel_rfl) (by omega) (by omega)) <| tk 18 (.iface t1 z1) ?_
  simp only [pp]
  replace hB := hB.later hL6
  refine rl_call (some 19) f5 #[x5] rfl (by kernel_rfl) (by exact e5 _ _ _ _ rfl rfl) (c5 _ hB) ?_
  rintro e w7 ⟨rfl, hL7⟩
  refine ⟨_, rfl, ?_⟩
  have hz7 := hL7.size
  try simp only [pp]
  refine tk 20 (.iface t2 z2) ?_
  simp only [pp]
  replace hB := hB.later hL7
  refine rl_call (some 21) f6 #[x6] rfl (by kernel_rfl) (by exact e6 _ _ _ _ rfl rfl) (c6 _ hB) ?_
  rintro e w8 ⟨rfl, hL8⟩
  refine ⟨_, rfl, ?_⟩
  have hz8 := hL8.size
  try simp only [pp]
  replace hT := (((((hT.later hL3).later hL4).later hL5).later hL6).later hL7).later hL8
  refine rl_call (some 22) 61 #[.agg #[.int .i64 (x.bytes).length, .int .i64 (runesN (x.bytes)), .int .i64 (unitsN (x.bytes)), .int .i64 (endsN (x.bytes)), .string (bs (headOf (x.bytes))), .string (bs (tailOf (x.bytes)))], .agg #[.int .i64 (y.bytes).length, .int .i64 (runesN (y.bytes)), .int .i64 (unitsN (y.bytes)), .int .i64 (endsN (y.bytes)), .string (bs (headOf (y.bytes))), .string (bs (tailOf (y.bytes)))]] rfl (by kernel_rfl) (by kernel_rfl) (rboth_any x.bytes y.bytes hm _ hT) ?_
  rintro e w9 ⟨rfl, hL9⟩
  refine ⟨_, rfl, ?_⟩
  have hz9 := hL9.size
  try simp only [pp]
  refine tk 23 (.agg #[.iface t1 z1, .iface t2 z2, .int .i64 ((x.bytes ++ y.bytes).length), .int .i64 (((1 + max x.h y.h : Nat) : Int)), .int .i64 (x.bytes ++ y.bytes).length, .int .i64 (runesN (x.bytes ++ y.bytes)), .int .i64 (unitsN (x.bytes ++ y.bytes)), .int .i64 (endsN (x.bytes ++ y.bytes)), .string (bs (headOf (x.bytes ++ y.bytes))), .string (bs (tailOf (x.bytes ++ y.bytes)))]) ?_
  simp only [pp]
  refine rl_alloc (some 24) 115 #[.iface t1 z1, .iface t2 z2, .int .i64 ((x.bytes ++ y.bytes).length), .int .i64 (((1 + max x.h y.h : Nat) : Int)), .int .i64 (x.bytes ++ y.bytes).length, .int .i64 (runesN (x.bytes ++ y.bytes)), .int .i64 (unitsN (x.bytes ++ y.bytes)), .int .i64 (endsN (x.bytes ++ y.bytes)), .string (bs (headOf (x.bytes ++ y.bytes))), .string (bs (tailOf (x.bytes ++ y.bytes)))] rfl (by kernel_rfl) (fun W => by kernel_rfl) fun q w10 hL10 hp10 hq => ?_
  have hz10 := hL10.size
  have hlt10 := hq.lt
  try simp only [pp]
  refine tk 25 (.iface 111 (.pointer (some ⟨q, 0, none⟩))) <| tk 4 (.iface 111 (.pointer (some ⟨q, 0, none⟩))) ?_
  simp only [pp]
  refine rl_end hgo <| hKK2 _ _ ?_
  refine wp_ret ?_
  try simp only [Exit.then, Exit.inBlock]
  refine bp_ret (v := .iface 111 (.pointer (some ⟨q, 0, none⟩))) (res1 rfl (res_tmp (by kernel_rfl))) ?_
  replace hx := (((((((hx.later hL3).later hL4).later hL5).later hL6).later hL7).later hL8).later hL9).later hL10
  replace hy := (((((((hy.later hL3).later hL4).later hL5).later hL6).later hL7).later hL8).later hL9).later hL10
  replace hB := ((hB.later hL8).later hL9).later hL10
  exact ⟨_, rfl, hB, Tree.fork_mk hq hx hy⟩
set_option maxRecDepth 100000 in
set_option maxHeartbeats 4000000 in
theorem level_c (x y : Tr) (vx vy : Value) (w : World) (hT : Tabs w) (hx : Tree w x vx) (hy : Tree w y vy) (hm : x.bytes.length + y.bytes.length ≤ 268435456) (h1 : x.h ≤ 268435456) (h2 : y.h ≤ 268435456)
    (d1 : x.h ≤ y.h + 1) (d2 : y.h ≤ x.h + 1) :
    Calls Tryd.prog 105 #[vx, vy] w fun e w' => ∃ v, e = .returned v ∧ Ltr w w' ∧ Tree w' (.fork x y) v := by
  have hB := Ltr.refl w
  obtain ⟨f1, x1, e1, c1⟩ := inv_height hx
  obtain ⟨f2, x2, e2, c2⟩ := inv_height hy
  go_enter Tryd.func105, Tryd.ntmps105
  have h4 := hT.four
  refine wp_seq_k fun KK1 hKK1 => rl_begin fun hgK hgo => tk 4 .nilIface ?_
  simp only [pp]
  refine rl_end hgo <| hKK1 _ _ <| wp_seq_k fun KK2 hKK2 => wp_seq_k fun KK3 hKK3 => rl_begin fun hgK hgo => tk 10 vx ?_
  simp only [pp]
  refine rl_call (some 11) f1 #[x1] rfl (by kernel_rfl) (by exact e1 _ _ _ _ rfl rfl) (c1 _ hB) ?_
  rintro e w4 ⟨rfl, hL4⟩
  refine ⟨_, rfl, ?_⟩
  have hz4 := hL4.size
  try simp only [pp]
  refine tk 12 vy ?_
  simp only [pp]
  replace hB := hB.later hL4
  refine rl_call (some 13) f2 #[x2] rfl (by kernel_rfl) (by exact e2 _ _ _ _ rfl rfl) (c2 _ hB) ?_
  rintro e w5 ⟨rfl, hL5⟩
  refine ⟨_, rfl, ?_⟩
  have hz5 := hL5.size
  try simp only [pp]
  refine tx 14 (.int .i64 (((x.h : Int) : Int) - (y.h : Int))) (by exact ex_arith (e := ((x.h : Int) : Int) - (y.h : Int)) (r := ((x.h : Int) : Int) - (y.h : Int)) (by kernel_rfl) (by omega) (by omega)) <| tk 5 (.int .i64 (((x.h : Int) : Int) - (y.h : Int))) ?_
  simp only [pp]
  refine rl_end hgo <| hKK3 _ _ <| wp_block <| wp_seq_k fun KK6 hKK6 => rl_begin fun hgK hgo => tk 16 (.int .i64 (((x.h : Int) : Int) - (y.h : Int))) ?_
  simp only [pp]
  refine tx 17 (.bool false) (by exact ex_bool (c := ((((x.h : Int) : Int) - (y.h : Int)) : Int) > 1) (by kernel_rfl) ⟨fun q => (by cases q), fun q => absurd q (by omega)⟩) <| tk 15 (.bool false) ?_
  simp only [pp]
  refine rl_end hgo <| hKK6 _ _ <| wp_cond_false (by kernel_rfl) <| wp_seq_k fun KK7 hKK7 => rl_begin fun hgK hgo => tk 64 (.int .i64 (((x.h : Int) : Int) - (y.h : Int))) ?_
  simp only [pp]
  refine tx 65 (.bool false) (by exact ex_bool (c := ((((x.h : Int) : Int) - (y.h : Int)) : Int) < (-1)) (by kernel_rfl) ⟨fun q => (by cases q), fun q => absurd q (by omega)⟩) <| tk 63 (.bool false) ?_
  simp only [pp]
  refine rl_end hgo <| hKK7 _ _ <| wp_cond_false (by kernel_rfl) <| wp_skip <| hKK2 _ _ <| wp_seq_k fun KK8 hKK8 => rl_begin fun hgK hgo => tk 111 vx <| tk 112 vy ?_
  simp only [pp]
  replace hT := (hT.later hL4).later hL5
  replace hx := (hx.later hL4).later hL5
  replace hy := (hy.later hL4).later hL5
  refine rl_call (some 113) 107 #[vx, vy] rfl (by kernel_rfl) (by kernel_rfl) (pair_any x y vx vy _ hT hx hy hm h1 h2) ?_
  rintro e w9 ⟨v, rfl, hL9, hv⟩
  refine ⟨_, rfl, ?_⟩
  have hz9 := hL9.size
  try simp only [pp]
  refine tk 4 v ?_
  simp only [pp]
  refine rl_end hgo <| hKK8 _ _ ?_
  refine wp_ret ?_
  try simp only [Exit.then, Exit.inBlock]
  refine bp_ret (v := v) (res1 rfl (res_tmp (by kernel_rfl))) ?_
  replace hB := (hB.later hL5).later hL9
  exact ⟨_, rfl, hB, hv⟩
set_option maxRecDepth 100000 in
set_option maxHeartbeats 8000000 in
theorem level_a1 (p q y : Tr) (vx vy : Value) (w : World) (hT : Tabs w) (hx : Tree w (.fork p q) vx) (hy : Tree w y vy) (hm : p.bytes.length + q.bytes.length + y.bytes.length ≤ 268435456) (h1 : (Tr.fork p q).h ≤ 268435456) (h2 : y.h < 268435456)
    (d1 : y.h + 2 ≤ (Tr.fork p q).h) (d2 : q.h ≤ p.h) :
    Calls Tryd.prog 105 #[vx, vy] w fun e w' => ∃ v, e = .returned v ∧ Ltr w w' ∧ Tree w' (.fork p (.fork q y)) v := by
  have hB := Ltr.refl w
  obtain ⟨f1, x1, e1, c1⟩ := inv_height hx
  obtain ⟨f2, x2, e2, c2⟩ := inv_height hy
  obtain ⟨a, vp, vq, rfl, hb, hp, hq⟩ := hx.fork_open
  obtain ⟨f3, x3, e3, c3⟩ := inv_height hp
  obtain ⟨f4, x4, e4, c4⟩ := inv_height hq
  have hl := Tr.len_fork q y
  have hh := Tr.h_fork q y
  have hh' := Tr.h_fork p q
  go_enter Tryd.func105, Tryd.ntmps105
  have h4 := hT.four
  have hlt_hb := hb.lt
  refine wp_seq_k fun KK1 hKK1 => rl_begin fun hgK hgo => tk 4 .nilIface ?_
  simp only [pp]
  refine rl_end hgo <| hKK1 _ _ <| wp_seq_k fun KK2 hKK2 => wp_seq_k fun KK3 hKK3 => rl_begin fun hgK hgo => tk 10 (.iface 111 (.pointer (some ⟨a, 0, none⟩))) ?_
  simp only [pp]
  refine rl_call (some 11) f1 #[x1] rfl (by kernel_rfl) (by exact e1 _ _ _ _ rfl rfl) (c1 _ hB) ?_
  rintro e w4 ⟨rfl, hL4⟩
  refine ⟨_, rfl, ?_⟩
  have hz4 := hL4.size
  try simp only [pp]
  refine tk 12 vy ?_
  simp only [pp]
  replace hB := hB.later hL4
  refine rl_call (some 13) f2 #[x2] rfl (by kernel_rfl) (by exact e2 _ _ _ _ rfl rfl) (c2 _ hB) ?_
  rintro e w5 ⟨rfl, hL5⟩
  refine ⟨_, rfl, ?_⟩
  have hz5 := hL5.size
  try simp only [pp]
  refine tx 14 (.int .i64 ((((Tr.fork p q).h : Int) : Int) - (y.h : Int))) (by exact ex_arith (e := (((Tr.fork p q).h : Int) : Int) - (y.h : Int)) (r := (((Tr.fork p q).h : Int) : Int) - (y.h : Int)) (by kernel_rfl) (by omega) (by omega)) <| tk 5 (.int .i64 ((((Tr.fork p q).h : Int) : Int) - (y.h : Int))) ?_
  simp only [pp]
  refine rl_end hgo <| hKK3 _ _ <| wp_block <| wp_seq_k fun KK6 hKK6 => rl_begin fun hgK hgo => tk 16 (.int .i64 ((((Tr.fork p q).h : Int) : Int) - (y.h : Int))) ?_
  simp only [pp]
  refine tx 17 (.bool true) (by exact ex_bool (c := (((((Tr.fork p q).h : Int) : Int) - (y.h : Int)) : Int) > 1) (by kernel_rfl) ⟨fun _ => by omega, fun _ => rfl⟩) <| tk 15 (.bool true) ?_
  simp only [pp]
  refine rl_end hgo <| hKK6 _ _ <| wp_cond_true (by kernel_rfl) <| wp_seq_k fun KK7 hKK7 => rl_begin fun hgK hgo => tk 18 (.iface 111 (.pointer (some ⟨a, 0, none⟩))) <| tk 19 (.pointer (some ⟨a, 0, none⟩)) <| tk 6 (.pointer (some ⟨a, 0, none⟩)) ?_
  simp only [pp]
  refine rl_end hgo <| hKK7 _ _ <| wp_seq_k fun KK8 hKK8 => wp_seq_k fun KK9 hKK9 => ?_
  refine rm_begin (fun W => Ltr w5 W) (by kernel_rfl) (by exact bl_drew (bl_refl _)) fun K10 hgo w10 hE hS10 => ?_
  have hv10 : Ltr w5 w10 := by rw [hE]; exact bl_drew (bl_refl _)
  have hz10 := hv10.size
  clear hE hS10
  refine mk 0 20 (.pointer (some ⟨a, 0, none⟩)) <| mk 1 21 (.pointer (some ⟨a, 0, none⟩)) <| mk 2 22 (.pointer (some ⟨a, 0, none⟩)) ?_
  try simp only [pp]
  replace hb := (hb.later hL4).later hL5
  refine mx 3 23 vp rfl (fun W hW => by (exact ld 108 a 0 ((hb.later hW).cell 0))) ?_
  try simp only [pp]
  replace hB := hB.later hL5
  refine rm_call 4 (some 24) (.int .i64 (p.h : Int)) f3 #[x3] rfl rfl (by kernel_rfl) (by kernel_rfl) (by kernel_rfl) (by kernel_rfl) (fun W hW => by exact e3 _ _ _ _ rfl rfl) (fun W hW => c3 _ (hB.later hW)) (fun _ _ h k => Ltr.trans h k) ?_
  try simp only [pp]
  refine mk 5 25 (.pointer (some ⟨a, 0, none⟩)) <| mk 6 26 (.pointer (some ⟨a, 0, none⟩)) <| mk 7 27 (.pointer (some ⟨a, 1, none⟩)) ?_
  try simp only [pp]
  refine mx 8 28 vq rfl (fun W hW => by (exact ld 108 a 1 ((hb.later hW).cell 1))) ?_
  try simp only [pp]
  refine rm_call 9 (some 29) (.int .i64 (q.h : Int)) f4 #[x4] rfl rfl (by kernel_rfl) (by kernel_rfl) (by kernel_rfl) (by kernel_rfl) (fun W hW => by exact e4 _ _ _ _ rfl rfl) (fun W hW => c4 _ (hB.later hW)) (fun _ _ h k => Ltr.trans h k) ?_
  try simp only [pp]
  refine mx 10 30 (.bool true) rfl (fun W hW => by (exact ebt (c := ((p.h : Int) : Int) ≥ (q.h : Int)) (by omega))) ?_
  try simp only [pp]
  refine rm_done (by kernel_rfl) (fun w11 hL11 hS11 => hgo.out _ _ ?_) _
  clear hgo K10
  have hz11 := (show Ltr w5 _ from hS11).size
  have hy11 := hL11.size
  refine hKK9 _ _ <| wp_cond_true (by kernel_rfl) <| wp_seq_k fun KK12 hKK12 => ?_
  refine rm_begin (fun W => Ltr w11 W) (by kernel_rfl) (by exact bl_drew (bl_refl _)) fun K13 hgo w13 hE hS13 => ?_
  have hv13 : Ltr w11 w13 := by rw [hE]; exact bl_drew (bl_refl _)
  have hz13 := hv13.size
  clear hE hS13
  refine mk 0 31 (.pointer (some ⟨a, 0, none⟩)) <| mk 1 32 (.pointer (some ⟨a, 0, none⟩)) <| mk 2 33 (.pointer (some ⟨a, 0, none⟩)) ?_
  try simp only [pp]
  replace hb := hb.later (show Ltr w5 _ from hS11)
  refine mx 3 34 vp rfl (fun W hW => by (exact ld 108 a 0 ((hb.later hW).cell 0))) <| mk 4 35 (.pointer (some ⟨a, 0, none⟩)) <| mk 5 36 (.pointer (some ⟨a, 0, none⟩)) <| mk 6 37 (.pointer (some ⟨a, 1, none⟩)) ?_
  try simp only [pp]
  refine mx 7 38 vq rfl (fun W hW => by (exact ld 108 a 1 ((hb.later hW).cell 1))) <| mk 8 39 vy ?_
  try simp only [pp]
  refine rm_pick1 (i := 9) (by kernel_rfl) ?_
  replace hT := ((hT.later hL4).later hL5).later (show Ltr w5 _ from hS11)
  replace hq := ((hq.later hL4).later hL5).later (show Ltr w5 _ from hS11)
  replace hy := ((hy.later hL4).later hL5).later (show Ltr w5 _ from hS11)
  refine rm_callx (some 40) 107 #[vq, vy] rfl rfl (by kernel_rfl) (fun W hW => by kernel_rfl) (fun W hlz hW => pair_any q y vq vy _ (hT.later (show Ltr w11 W from hW)) (hq.later (show Ltr w11 W from hW)) (hy.later (show Ltr w11 W from hW)) (by omega) (by omega) (by omega)) (by rintro W e w' ⟨v1, rfl, hL14, hv1⟩; exact hL14) (fun _ _ h k => Ltr.trans h k) ?_
  rintro q14 e w14 hq14 hQ14 ⟨v1, rfl, hL14, hv1⟩ hS14
  refine ⟨_, rfl, ?_⟩
  have hz14 := hL14.size
  have hy14 := hq14.size
  try simp only [pp]
  refine rm_pick1 (i := 10) (by kernel_rfl) ?_
  replace hp := ((hp.later hL4).later hL5).later (show Ltr w5 _ from hS11)
  refine rm_callx (some 41) 107 #[vp, v1] rfl rfl (by kernel_rfl) (fun W hW => by kernel_rfl) (fun W hlz hW => pair_any p (.fork q y) vp v1 _ (hT.later (show Ltr w11 W from hW)) (hp.later (show Ltr w11 W from hW)) (hv1.later hlz) (by omega) (by omega) (by omega)) (by rintro W e w' ⟨v, rfl, hL15, hv⟩; exact hL15) (fun _ _ h k => Ltr.trans h k) ?_
  rintro q15 e w15 hq15 hQ15 ⟨v, rfl, hL15, hv⟩ hS15
  refine ⟨_, rfl, ?_⟩
  replace hv1 := (hv1.later hq15).later hL15
  have hz15 := hL15.size
  have hy15 := hq15.size
  try simp only [pp]
  refine mk 11 4 v ?_
  try simp only [pp]
  refine rm_done (by kernel_rfl) (fun w16 hL16 hS16 => hgo.out _ _ ?_) _
  clear hgo K13
  have hz16 := (show Ltr w11 _ from hS16).size
  have hy16 := hL16.size
  refine hKK12 _ _ ?_
  refine wp_ret ?_
  try simp only [Exit.then, Exit.inBlock]
  refine bp_ret (v := v) (res1 rfl (res_tmp (by kernel_rfl))) ?_
  replace hB := (hB.later (show Ltr w5 _ from hS11)).later (show Ltr w11 _ from hS16)
  replace hv := hv.later hL16
  exact ⟨_, rfl, hB, hv⟩
set_option maxRecDepth 100000 in
set_option maxHeartbeats 8000000 in
theorem level_a2 (p q r y : Tr) (vx vy : Value) (w : World) (hT : Tabs w) (hx : Tree w (.fork p (.fork q r)) vx) (hy : Tree w y vy) (hm : p.bytes.length + q.bytes.length + r.bytes.length + y.bytes.length ≤ 268435456)
    (h1 : (Tr.fork p (.fork q r)).h ≤ 200000000) (h2 : y.h < 200000000) (d1 : y.h + 2 ≤ (Tr.fork p (.fork q r)).h) (d2 : p.h < (Tr.fork q r).h) :
    Calls Tryd.prog 105 #[vx, vy] w fun e w' => ∃ v, e = .returned v ∧ Ltr w w' ∧ Tree w' (.fork (.fork p q) (.fork r y)) v := by
  have hB := Ltr.refl w
  obtain ⟨f1, x1, e1, c1⟩ := inv_height hx
  obtain ⟨f2, x2, e2, c2⟩ := inv_height hy
  obtain ⟨a, vp, vg, rfl, hb, hp, hg⟩ := hx.fork_open
  obtain ⟨f3, x3, e3, c3⟩ := inv_height hp
  obtain ⟨f4, x4, e4, c4⟩ := inv_height hg
  obtain ⟨b, vq, vr, rfl, hc, hq, hr⟩ := hg.fork_open
  have hl := Tr.len_fork p q
  have hh := Tr.h_fork p q
  have hl2 := Tr.len_fork r y
  have hh2 := Tr.h_fork r y
  have hh3 := Tr.h_fork q r
  have hh4 := Tr.h_fork p (.fork q r)
  go_enter Tryd.func105, Tryd.ntmps105
  have h4 := hT.four
  have hlt_hb := hb.lt
  have hlt_hc := hc.lt
  refine wp_seq_k fun KK1 hKK1 => rl_begin fun hgK hgo => tk 4 .nilIface ?_
  simp only [pp]
  refine rl_end hgo <| hKK1 _ _ <| wp_seq_k fun KK2 hKK2 => wp_seq_k fun KK3 hKK3 => rl_begin fun hgK hgo => tk 10 (.iface 111 (.pointer (some ⟨a, 0, none⟩))) ?_
  simp only [pp]
  refine rl_call (some 11) f1 #[x1] rfl (by kernel_rfl) (by exact e1 _ _ _ _ rfl rfl) (c1 _ hB) ?_
  rintro e w4 ⟨rfl, hL4⟩
  refine ⟨_, rfl, ?_⟩
  have hz4 := hL4.size
  try simp only [pp]
  refine tk 12 vy ?_
  simp only [pp]
  replace hB := hB.later hL4
  refine rl_call (some 13) f2 #[x2] rfl (by kernel_rfl) (by exact e2 _ _ _ _ rfl rfl) (c2 _ hB) ?_
  rintro e w5 ⟨rfl, hL5⟩
  refine ⟨_, rfl, ?_⟩
  have hz5 := hL5.size
  try simp only [pp]
  refine tx 14 (.int .i64 ((((Tr.fork p (.fork q r)).h : Int) : Int) - (y.h : Int))) (by exact ex_arith (e := (((Tr.fork p (.fork q r)).h : Int) : Int) - (y.h : Int)) (r := (((Tr.fork p (.fork q r)).h : Int) : Int) - (y.h : Int)) (by kernel_rfl) (by omega) (by omega)) <| tk 5 (.int .i64 ((((Tr.fork p (.fork q r)).h : Int) : Int) - (y.h : Int))) ?_
  simp only [pp]
  refine rl_end hgo <| hKK3 _ _ <| wp_block <| wp_seq_k fun KK6 hKK6 => rl_begin fun hgK hgo => tk 16 (.int .i64 ((((Tr.fork p (.fork q r)).h : Int) : Int) - (y.h : Int))) ?_
  simp only [pp]
  refine tx 17 (.bool true) (by exact ex_bool (c := (((((Tr.fork p (.fork q r)).h : Int) : Int) - (y.h : Int)) : Int) > 1) (by kernel_rfl) ⟨fun _ => by omega, fun _ => rfl⟩) <| tk 15 (.bool true) ?_
  simp only [pp]
  refine rl_end hgo <| hKK6 _ _ <| wp_cond_true (by kernel_rfl) <| wp_seq_k fun KK7 hKK7 => rl_begin fun hgK hgo => tk 18 (.iface 111 (.pointer (some ⟨a, 0, none⟩))) <| tk 19 (.pointer (some ⟨a, 0, none⟩)) <| tk 6 (.pointer (some ⟨a, 0, none⟩)) ?_
  simp only [pp]
  refine rl_end hgo <| hKK7 _ _ <| wp_seq_k fun KK8 hKK8 => wp_seq_k fun KK9 hKK9 => ?_
  refine rm_begin (fun W => Ltr w5 W) (by kernel_rfl) (by exact bl_drew (bl_refl _)) fun K10 hgo w10 hE hS10 => ?_
  have hv10 : Ltr w5 w10 := by rw [hE]; exact bl_drew (bl_refl _)
  have hz10 := hv10.size
  clear hE hS10
  refine mk 0 20 (.pointer (some ⟨a, 0, none⟩)) <| mk 1 21 (.pointer (some ⟨a, 0, none⟩)) <| mk 2 22 (.pointer (some ⟨a, 0, none⟩)) ?_
  try simp only [pp]
  replace hb := (hb.later hL4).later hL5
  refine mx 3 23 vp rfl (fun W hW => by (exact ld 108 a 0 ((hb.later hW).cell 0))) ?_
  try simp only [pp]
  replace hB := hB.later hL5
  refine rm_call 4 (some 24) (.int .i64 (p.h : Int)) f3 #[x3] rfl rfl (by kernel_rfl) (by kernel_rfl) (by kernel_rfl) (by kernel_rfl) (fun W hW => by exact e3 _ _ _ _ rfl rfl) (fun W hW => c3 _ (hB.later hW)) (fun _ _ h k => Ltr.trans h k) ?_
  try simp only [pp]
  refine mk 5 25 (.pointer (some ⟨a, 0, none⟩)) <| mk 6 26 (.pointer (some ⟨a, 0, none⟩)) <| mk 7 27 (.pointer (some ⟨a, 1, none⟩)) ?_
  try simp only [pp]
  refine mx 8 28 (.iface 111 (.pointer (some ⟨b, 0, none⟩))) rfl (fun W hW => by (exact ld 108 a 1 ((hb.later hW).cell 1))) ?_
  try simp only [pp]
  refine rm_call 9 (some 29) (.int .i64 ((Tr.fork q r).h : Int)) f4 #[x4] rfl rfl (by kernel_rfl) (by kernel_rfl) (by kernel_rfl) (by kernel_rfl) (fun W hW => by exact e4 _ _ _ _ rfl rfl) (fun W hW => c4 _ (hB.later hW)) (fun _ _ h k => Ltr.trans h k) ?_
  try simp only [pp]
  refine mx 10 30 (.bool false) rfl (fun W hW => by (exact ebf (c := ((p.h : Int) : Int) ≥ ((Tr.fork q r).h : Int)) (by omega))) ?_
  try simp only [pp]
  refine rm_done (by kernel_rfl) (fun w11 hL11 hS11 => hgo.out _ _ ?_) _
  clear hgo K10
  have hz11 := (show Ltr w5 _ from hS11).size
  have hy11 := hL11.size
  refine hKK9 _ _ <| wp_cond_false (by kernel_rfl) <| wp_skip <| hKK8 _ _ <| wp_seq_k fun KK12 hKK12 => rl_begin fun hgK hgo => tk 42 (.pointer (some ⟨a, 0, none⟩)) <| tk 43 (.pointer (some ⟨a, 0, none⟩)) <| tk 44 (.pointer (some ⟨a, 1, none⟩)) ?_
  simp only [pp]
  replace hb := hb.later (show Ltr w5 _ from hS11)
  refine tx 45 (.iface 111 (.pointer (some ⟨b, 0, none⟩))) (by exact ld 108 a 1 (hb.cell 1)) <| tk 46 (.pointer (some ⟨b, 0, none⟩)) <| tk 7 (.pointer (some ⟨b, 0, none⟩)) ?_
  simp only [pp]
  refine rl_end hgo <| hKK12 _ _ <| wp_seq_k fun KK13 hKK13 => ?_
  refine rm_begin (fun W => Ltr w11 W) (by kernel_rfl) (by exact bl_drew (bl_refl _)) fun K14 hgo w14 hE hS14 => ?_
  have hv14 : Ltr w11 w14 := by rw [hE]; exact bl_drew (bl_refl _)
  have hz14 := hv14.size
  clear hE hS14
  refine mk 0 47 (.pointer (some ⟨a, 0, none⟩)) <| mk 1 48 (.pointer (some ⟨a, 0, none⟩)) <| mk 2 49 (.pointer (some ⟨a, 0, none⟩)) ?_
  try simp only [pp]
  refine mx 3 50 vp rfl (fun W hW => by (exact ld 108 a 0 ((hb.later hW).cell 0))) <| mk 4 51 (.pointer (some ⟨b, 0, none⟩)) <| mk 5 52 (.pointer (some ⟨b, 0, none⟩)) <| mk 6 53 (.pointer (some ⟨b, 0, none⟩)) ?_
  try simp only [pp]
  replace hc := ((hc.later hL4).later hL5).later (show Ltr w5 _ from hS11)
  refine mx 7 54 vq rfl (fun W hW => by (exact ld 108 b 0 ((hc.later hW).cell 0))) <| mk 9 56 (.pointer (some ⟨b, 0, none⟩)) <| mk 10 57 (.pointer (some ⟨b, 0, none⟩)) <| mk 11 58 (.pointer (some ⟨b, 1, none⟩)) ?_
  try simp only [pp]
  refine mx 12 59 vr rfl (fun W hW => by (exact ld 108 b 1 ((hc.later hW).cell 1))) <| mk 13 60 vy ?_
  try simp only [pp]
  refine rm_pick1 (i := 8) (by kernel_rfl) ?_
  replace hT := ((hT.later hL4).later hL5).later (show Ltr w5 _ from hS11)
  replace hp := ((hp.later hL4).later hL5).later (show Ltr w5 _ from hS11)
  replace hq := ((hq.later hL4).later hL5).later (show Ltr w5 _ from hS11)
  refine rm_callx (some 55) 107 #[vp, vq] rfl rfl (by kernel_rfl) (fun W hW => by kernel_rfl) (fun W hlz hW => pair_any p q vp vq _ (hT.later (show Ltr w11 W from hW)) (hp.later (show Ltr w11 W from hW)) (hq.later (show Ltr w11 W from hW)) (by omega) (by omega) (by omega)) (by rintro W e w' ⟨v1, rfl, hL15, hv1⟩; exact hL15) (fun _ _ h k => Ltr.trans h k) ?_
  rintro q15 e w15 hq15 hQ15 ⟨v1, rfl, hL15, hv1⟩ hS15
  refine ⟨_, rfl, ?_⟩
  have hz15 := hL15.size
  have hy15 := hq15.size
  try simp only [pp]
  refine rm_pick1 (i := 14) (by kernel_rfl) ?_
  replace hr := ((hr.later hL4).later hL5).later (show Ltr w5 _ from hS11)
  replace hy := ((hy.later hL4).later hL5).later (show Ltr w5 _ from hS11)
  refine rm_callx (some 61) 107 #[vr, vy] rfl rfl (by kernel_rfl) (fun W hW => by kernel_rfl) (fun W hlz hW => pair_any r y vr vy _ (hT.later (show Ltr w11 W from hW)) (hr.later (show Ltr w11 W from hW)) (hy.later (show Ltr w11 W from hW)) (by omega) (by omega) (by omega)) (by rintro W e w' ⟨v2, rfl, hL16, hv2⟩; exact hL16) (fun _ _ h k => Ltr.trans h k) ?_
  rintro q16 e w16 hq16 hQ16 ⟨v2, rfl, hL16, hv2⟩ hS16
  refine ⟨_, rfl, ?_⟩
  replace hv1 := (hv1.later hq16).later hL16
  have hz16 := hL16.size
  have hy16 := hq16.size
  try simp only [pp]
  refine rm_pick1 (i := 15) (by kernel_rfl) ?_
  refine rm_callx (some 62) 107 #[v1, v2] rfl rfl (by kernel_rfl) (fun W hW => by kernel_rfl) (fun W hlz hW => pair_any (.fork p q) (.fork r y) v1 v2 _ (hT.later (show Ltr w11 W from hW)) (hv1.later hlz) (hv2.later hlz) (by omega) (by omega) (by omega)) (by rintro W e w' ⟨v, rfl, hL17, hv⟩; exact hL17) (fun _ _ h k => Ltr.trans h k) ?_
  rintro q17 e w17 hq17 hQ17 ⟨v, rfl, hL17, hv⟩ hS17
  refine ⟨_, rfl, ?_⟩
  replace hv1 := (hv1.later hq17).later hL17
  replace hv2 := (hv2.later hq17).later hL17
  have hz17 := hL17.size
  have hy17 := hq17.size
  try simp only [pp]
  refine mk 16 4 v ?_
  try simp only [pp]
  refine rm_done (by kernel_rfl) (fun w18 hL18 hS18 => hgo.out _ _ ?_) _
  clear hgo K14
  have hz18 := (show Ltr w11 _ from hS18).size
  have hy18 := hL18.size
  refine hKK13 _ _ ?_
  refine wp_ret ?_
  try simp only [Exit.then, Exit.inBlock]
  refine bp_ret (v := v) (res1 rfl (res_tmp (by kernel_rfl))) ?_
  replace hB := (hB.later (show Ltr w5 _ from hS11)).later (show Ltr w11 _ from hS18)
  replace hv := hv.later hL18
  exact ⟨_, rfl, hB, hv⟩
set_option maxRecDepth 100000 in
set_option maxHeartbeats 8000000 in
theorem level_b1 (x p q : Tr) (vx vy : Value) (w : World) (hT : Tabs w) (hx : Tree w x vx) (hy : Tree w (.fork p q) vy) (hm : x.bytes.length + p.bytes.length + q.bytes.length ≤ 268435456) (h1 : x.h ≤ 200000000) (h2 : (Tr.fork p q).h ≤ 200000000)
    (d1 : x.h + 2 ≤ (Tr.fork p q).h) (d2 : p.h ≤ q.h) :
    Calls Tryd.prog 105 #[vx, vy] w fun e w' => ∃ v, e = .returned v ∧ Ltr w w' ∧ Tree w' (.fork (.fork x p) q) v := by
  have hB := Ltr.refl w
  obtain ⟨f1, x1, e1, c1⟩ := inv_height hx
  obtain ⟨f2, x2, e2, c2⟩ := inv_height hy
  obtain ⟨a, vp, vq, rfl, hb, hp, hq⟩ := hy.fork_open
  obtain ⟨f3, x3, e3, c3⟩ := inv_height hp
  obtain ⟨f4, x4, e4, c4⟩ := inv_height hq
  have hl := Tr.len_fork x p
  have hh := Tr.h_fork x p
  have hh' := Tr.h_fork p q
  go_enter Tryd.func105, Tryd.ntmps105
  have h4 := hT.four
  have hlt_hb := hb.lt
  refine wp_seq_k fun KK1 hKK1 => rl_begin fun hgK hgo => tk 4 .nilIface ?_
  simp only [pp]
  refine rl_end hgo <| hKK1 _ _ <| wp_seq_k fun KK2 hKK2 => wp_seq_k fun KK3 hKK3 => rl_begin fun hgK hgo => tk 10 vx ?_
  simp only [pp]
  refine rl_call (some 11) f1 #[x1] rfl (by kernel_rfl) (by exact e1 _ _ _ _ rfl rfl) (c1 _ hB) ?_
  rintro e w4 ⟨rfl, hL4⟩
  refine ⟨_, rfl, ?_⟩
  have hz4 := hL4.size
  try simp only [pp]
  refine tk 12 (.iface 111 (.pointer (some ⟨a, 0, none⟩))) ?_
  simp only [pp]
  replace hB := hB.later hL4
  refine rl_call (some 13) f2 #[x2] rfl (by kernel_rfl) (by exact e2 _ _ _ _ rfl rfl) (c2 _ hB) ?_
  rintro e w5 ⟨rfl, hL5⟩
  refine ⟨_, rfl, ?_⟩
  have hz5 := hL5.size
  try simp only [pp]
  refine tx 14 (.int .i64 (((x.h : Int) : Int) - ((Tr.fork p q).h : Int))) (by exact ex_arith (e := ((x.h : Int) : Int) - ((Tr.fork p q).h : Int)) (r := ((x.h : Int) : Int) - ((Tr.fork p q).h : Int)) (by kernel_rfl) (by omega) (by omega)) <| tk 5 (.int .i64 (((x.h : Int) : Int) - ((Tr.fork p q).h : Int))) ?_
  simp only [pp]
  refine rl_end hgo <| hKK3 _ _ <| wp_block <| wp_seq_k fun KK6 hKK6 => rl_begin fun hgK hgo => tk 16 (.int .i64 (((x.h : Int) : Int) - ((Tr.fork p q).h : Int))) ?_
  simp only [pp]
  refine tx 17 (.bool false) (by exact ex_bool (c := ((((x.h : Int) : Int) - ((Tr.fork p q).h : Int)) : Int) > 1) (by kernel_rfl) ⟨fun q => (by cases q), fun q => absurd q (by omega)⟩) <| tk 15 (.bool false) ?_
  simp only [pp]
  refine rl_end hgo <| hKK6 _ _ <| wp_cond_false (by kernel_rfl) <| wp_seq_k fun KK7 hKK7 => rl_begin fun hgK hgo => tk 64 (.int .i64 (((x.h : Int) : Int) - ((Tr.fork p q).h : Int))) ?_
  simp only [pp]
  refine tx 65 (.bool true) (by exact ex_bool (c := ((((x.h : Int) : Int) - ((Tr.fork p q).h : Int)) : Int) < (-1)) (by kernel_rfl) ⟨fun _ => by omega, fun _ => rfl⟩) <| tk 63 (.bool true) ?_
  simp only [pp]
  refine rl_end hgo <| hKK7 _ _ <| wp_cond_true (by kernel_rfl) <| wp_seq_k fun KK8 hKK8 => rl_begin fun hgK hgo => tk 66 (.iface 111 (.pointer (some ⟨a, 0, none⟩))) <| tk 67 (.pointer (some ⟨a, 0, none⟩)) <| tk 8 (.pointer (some ⟨a, 0, none⟩)) ?_
  simp only [pp]
  refine rl_end hgo <| hKK8 _ _ <| wp_seq_k fun KK9 hKK9 => wp_seq_k fun KK10 hKK10 => ?_
  refine rm_begin (fun W => Ltr w5 W) (by kernel_rfl) (by exact bl_drew (bl_refl _)) fun K11 hgo w11 hE hS11 => ?_
  have hv11 : Ltr w5 w11 := by rw [hE]; exact bl_drew (bl_refl _)
  have hz11 := hv11.size
  clear hE hS11
  refine mk 0 68 (.pointer (some ⟨a, 0, none⟩)) <| mk 1 69 (.pointer (some ⟨a, 0, none⟩)) <| mk 2 70 (.pointer (some ⟨a, 1, none⟩)) ?_
  try simp only [pp]
  replace hb := (hb.later hL4).later hL5
  refine mx 3 71 vq rfl (fun W hW => by (exact ld 108 a 1 ((hb.later hW).cell 1))) ?_
  try simp only [pp]
  replace hB := hB.later hL5
  refine rm_call 4 (some 72) (.int .i64 (q.h : Int)) f4 #[x4] rfl rfl (by kernel_rfl) (by kernel_rfl) (by kernel_rfl) (by kernel_rfl) (fun W hW => by exact e4 _ _ _ _ rfl rfl) (fun W hW => c4 _ (hB.later hW)) (fun _ _ h k => Ltr.trans h k) ?_
  try simp only [pp]
  refine mk 5 73 (.pointer (some ⟨a, 0, none⟩)) <| mk 6 74 (.pointer (some ⟨a, 0, none⟩)) <| mk 7 75 (.pointer (some ⟨a, 0, none⟩)) ?_
  try simp only [pp]
  refine mx 8 76 vp rfl (fun W hW => by (exact ld 108 a 0 ((hb.later hW).cell 0))) ?_
  try simp only [pp]
  refine rm_call 9 (some 77) (.int .i64 (p.h : Int)) f3 #[x3] rfl rfl (by kernel_rfl) (by kernel_rfl) (by kernel_rfl) (by kernel_rfl) (fun W hW => by exact e3 _ _ _ _ rfl rfl) (fun W hW => c3 _ (hB.later hW)) (fun _ _ h k => Ltr.trans h k) ?_
  try simp only [pp]
  refine mx 10 78 (.bool true) rfl (fun W hW => by (exact ebt (c := ((q.h : Int) : Int) ≥ (p.h : Int)) (by omega))) ?_
  try simp only [pp]
  refine rm_done (by kernel_rfl) (fun w12 hL12 hS12 => hgo.out _ _ ?_) _
  clear hgo K11
  have hz12 := (show Ltr w5 _ from hS12).size
  have hy12 := hL12.size
  refine hKK10 _ _ <| wp_cond_true (by kernel_rfl) <| wp_seq_k fun KK13 hKK13 => ?_
  refine rm_begin (fun W => Ltr w12 W) (by kernel_rfl) (by exact bl_drew (bl_refl _)) fun K14 hgo w14 hE hS14 => ?_
  have hv14 : Ltr w12 w14 := by rw [hE]; exact bl_drew (bl_refl _)
  have hz14 := hv14.size
  clear hE hS14
  refine mk 0 79 vx <| mk 1 80 (.pointer (some ⟨a, 0, none⟩)) <| mk 2 81 (.pointer (some ⟨a, 0, none⟩)) <| mk 3 82 (.pointer (some ⟨a, 0, none⟩)) ?_
  try simp only [pp]
  replace hb := hb.later (show Ltr w5 _ from hS12)
  refine mx 4 83 vp rfl (fun W hW => by (exact ld 108 a 0 ((hb.later hW).cell 0))) <| mk 6 85 (.pointer (some ⟨a, 0, none⟩)) <| mk 7 86 (.pointer (some ⟨a, 0, none⟩)) <| mk 8 87 (.pointer (some ⟨a, 1, none⟩)) ?_
  try simp only [pp]
  refine mx 9 88 vq rfl (fun W hW => by (exact ld 108 a 1 ((hb.later hW).cell 1))) ?_
  try simp only [pp]
  refine rm_pick1 (i := 5) (by kernel_rfl) ?_
  replace hT := ((hT.later hL4).later hL5).later (show Ltr w5 _ from hS12)
  replace hp := ((hp.later hL4).later hL5).later (show Ltr w5 _ from hS12)
  replace hx := ((hx.later hL4).later hL5).later (show Ltr w5 _ from hS12)
  refine rm_callx (some 84) 107 #[vx, vp] rfl rfl (by kernel_rfl) (fun W hW => by kernel_rfl) (fun W hlz hW => pair_any x p vx vp _ (hT.later (show Ltr w12 W from hW)) (hx.later (show Ltr w12 W from hW)) (hp.later (show Ltr w12 W from hW)) (by omega) (by omega) (by omega)) (by rintro W e w' ⟨v1, rfl, hL15, hv1⟩; exact hL15) (fun _ _ h k => Ltr.trans h k) ?_
  rintro q15 e w15 hq15 hQ15 ⟨v1, rfl, hL15, hv1⟩ hS15
  refine ⟨_, rfl, ?_⟩
  have hz15 := hL15.size
  have hy15 := hq15.size
  try simp only [pp]
  refine rm_pick1 (i := 10) (by kernel_rfl) ?_
  replace hq := ((hq.later hL4).later hL5).later (show Ltr w5 _ from hS12)
  refine rm_callx (some 89) 107 #[v1, vq] rfl rfl (by kernel_rfl) (fun W hW => by kernel_rfl) (fun W hlz hW => pair_any (.fork x p) q v1 vq _ (hT.later (show Ltr w12 W from hW)) (hv1.later hlz) (hq.later (show Ltr w12 W from hW)) (by omega) (by omega) (by omega)) (by rintro W e w' ⟨v, rfl, hL16, hv⟩; exact hL16) (fun _ _ h k => Ltr.trans h k) ?_
  rintro q16 e w16 hq16 hQ16 ⟨v, rfl, hL16, hv⟩ hS16
  refine ⟨_, rfl, ?_⟩
  replace hv1 := (hv1.later hq16).later hL16
  have hz16 := hL16.size
  have hy16 := hq16.size
  try simp only [pp]
  refine mk 11 4 v ?_
  try simp only [pp]
  refine rm_done (by kernel_rfl) (fun w17 hL17 hS17 => hgo.out _ _ ?_) _
  clear hgo K14
  have hz17 := (show Ltr w12 _ from hS17).size
  have hy17 := hL17.size
  refine hKK13 _ _ ?_
  refine wp_ret ?_
  try simp only [Exit.then, Exit.inBlock]
  refine bp_ret (v := v) (res1 rfl (res_tmp (by kernel_rfl))) ?_
  replace hB := (hB.later (show Ltr w5 _ from hS12)).later (show Ltr w12 _ from hS17)
  replace hv := hv.later hL17
  exact ⟨_, rfl, hB, hv⟩
set_option maxRecDepth 100000 in
set_option maxHeartbeats 8000000 in
theorem level_b2 (x p q r : Tr) (vx vy : Value) (w : World) (hT : Tabs w) (hx : Tree w x vx) (hy : Tree w (.fork (.fork p q) r) vy) (hm : x.bytes.length + p.bytes.length + q.bytes.length + r.bytes.length ≤ 268435456) (h1 : x.h ≤ 200000000) (h2 : (Tr.fork (.fork p q) r).h ≤ 200000000)
    (d1 : x.h + 2 ≤ (Tr.fork (.fork p q) r).h) (d2 : r.h < (Tr.fork p q).h) :
    Calls Tryd.prog 105 #[vx, vy] w fun e w' => ∃ v, e = .returned v ∧ Ltr w w' ∧ Tree w' (.fork (.fork x p) (.fork q r)) v := by
  have hB := Ltr.refl w
  obtain ⟨f1, x1, e1, c1⟩ := inv_height hx
  obtain ⟨f2, x2, e2, c2⟩ := inv_height hy
  obtain ⟨a, vg, vr, rfl, hb, hg, hr⟩ := hy.fork_open
  obtain ⟨f3, x3, e3, c3⟩ := inv_height hg
  obtain ⟨f4, x4, e4, c4⟩ := inv_height hr
  obtain ⟨b, vp, vq, rfl, hc, hp, hq⟩ := hg.fork_open
  have hl := Tr.len_fork x p
  have hh := Tr.h_fork x p
  have hl2 := Tr.len_fork q r
  have hh2 := Tr.h_fork q r
  have hh3 := Tr.h_fork p q
  have hh4 := Tr.h_fork (.fork p q) r
  go_enter Tryd.func105, Tryd.ntmps105
  have h4 := hT.four
  have hlt_hb := hb.lt
  have hlt_hc := hc.lt
  refine wp_seq_k fun KK1 hKK1 => rl_begin fun hgK hgo => tk 4 .nilIface ?_
  simp only [pp]
  refine rl_end hgo <| hKK1 _ _ <| wp_seq_k fun KK2 hKK2 => wp_seq_k fun KK3 hKK3 => rl_begin fun hgK hgo => tk 10 vx ?_
  simp only [pp]
  refine rl_call (some 11) f1 #[x1] rfl (by kernel_rfl) (by exact e1 _ _ _ _ rfl rfl) (c1 _ hB) ?_
  rintro e w4 ⟨rfl, hL4⟩
  refine ⟨_, rfl, ?_⟩
  have hz4 := hL4.size
  try simp only [pp]
  refine tk 12 (.iface 111 (.pointer (some ⟨a, 0, none⟩))) ?_
  simp only [pp]
  replace hB := hB.later hL4
  refine rl_call (some 13) f2 #[x2] rfl (by kernel_rfl) (by exact e2 _ _ _ _ rfl rfl) (c2 _ hB) ?_
  rintro e w5 ⟨rfl, hL5⟩
  refine ⟨_, rfl, ?_⟩
  have hz5 := hL5.size
  try simp only [pp]
  refine tx 14 (.int .i64 (((x.h : Int) : Int) - ((Tr.fork (.fork p q) r).h : Int))) (by exact ex_arith (e := ((x.h : Int) : Int) - ((Tr.fork (.fork p q) r).h : Int)) (r := ((x.h : Int) : Int) - ((Tr.fork (.fork p q) r).h : Int)) (by kernel_rfl) (by omega) (by omega)) <| tk 5 (.int .i64 (((x.h : Int) : Int) - ((Tr.fork (.fork p q) r).h : Int))) ?_
  simp only [pp]
  refine rl_end hgo <| hKK3 _ _ <| wp_block <| wp_seq_k fun KK6 hKK6 => rl_begin fun hgK hgo => tk 16 (.int .i64 (((x.h : Int) : Int) - ((Tr.fork (.fork p q) r).h : Int))) ?_
  simp only [pp]
  refine tx 17 (.bool false) (by exact ex_bool (c := ((((x.h : Int) : Int) - ((Tr.fork (.fork p q) r).h : Int)) : Int) > 1) (by kernel_rfl) ⟨fun q => (by cases q), fun q => absurd q (by omega)⟩) <| tk 15 (.bool false) ?_
  simp only [pp]
  refine rl_end hgo <| hKK6 _ _ <| wp_cond_false (by kernel_rfl) <| wp_seq_k fun KK7 hKK7 => rl_begin fun hgK hgo => tk 64 (.int .i64 (((x.h : Int) : Int) - ((Tr.fork (.fork p q) r).h : Int))) ?_
  simp only [pp]
  refine tx 65 (.bool true) (by exact ex_bool (c := ((((x.h : Int) : Int) - ((Tr.fork (.fork p q) r).h : Int)) : Int) < (-1)) (by kernel_rfl) ⟨fun _ => by omega, fun _ => rfl⟩) <| tk 63 (.bool true) ?_
  simp only [pp]
  refine rl_end hgo <| hKK7 _ _ <| wp_cond_true (by kernel_rfl) <| wp_seq_k fun KK8 hKK8 => rl_begin fun hgK hgo => tk 66 (.iface 111 (.pointer (some ⟨a, 0, none⟩))) <| tk 67 (.pointer (some ⟨a, 0, none⟩)) <| tk 8 (.pointer (some ⟨a, 0, none⟩)) ?_
  simp only [pp]
  refine rl_end hgo <| hKK8 _ _ <| wp_seq_k fun KK9 hKK9 => wp_seq_k fun KK10 hKK10 => ?_
  refine rm_begin (fun W => Ltr w5 W) (by kernel_rfl) (by exact bl_drew (bl_refl _)) fun K11 hgo w11 hE hS11 => ?_
  have hv11 : Ltr w5 w11 := by rw [hE]; exact bl_drew (bl_refl _)
  have hz11 := hv11.size
  clear hE hS11
  refine mk 0 68 (.pointer (some ⟨a, 0, none⟩)) <| mk 1 69 (.pointer (some ⟨a, 0, none⟩)) <| mk 2 70 (.pointer (some ⟨a, 1, none⟩)) ?_
  try simp only [pp]
  replace hb := (hb.later hL4).later hL5
  refine mx 3 71 vr rfl (fun W hW => by (exact ld 108 a 1 ((hb.later hW).cell 1))) ?_
  try simp only [pp]
  replace hB := hB.later hL5
  refine rm_call 4 (some 72) (.int .i64 (r.h : Int)) f4 #[x4] rfl rfl (by kernel_rfl) (by kernel_rfl) (by kernel_rfl) (by kernel_rfl) (fun W hW => by exact e4 _ _ _ _ rfl rfl) (fun W hW => c4 _ (hB.later hW)) (fun _ _ h k => Ltr.trans h k) ?_
  try simp only [pp]
  refine mk 5 73 (.pointer (some ⟨a, 0, none⟩)) <| mk 6 74 (.pointer (some ⟨a, 0, none⟩)) <| mk 7 75 (.pointer (some ⟨a, 0, none⟩)) ?_
  try simp only [pp]
  refine mx 8 76 (.iface 111 (.pointer (some ⟨b, 0, none⟩))) rfl (fun W hW => by (exact ld 108 a 0 ((hb.later hW).cell 0))) ?_
  try simp only [pp]
  refine rm_call 9 (some 77) (.int .i64 ((Tr.fork p q).h : Int)) f3 #[x3] rfl rfl (by kernel_rfl) (by kernel_rfl) (by kernel_rfl) (by kernel_rfl) (fun W hW => by exact e3 _ _ _ _ rfl rfl) (fun W hW => c3 _ (hB.later hW)) (fun _ _ h k => Ltr.trans h k) ?_
  try simp only [pp]
  refine mx 10 78 (.bool false) rfl (fun W hW => by (exact ebf (c := ((r.h : Int) : Int) ≥ ((Tr.fork p q).h : Int)) (by omega))) ?_
  try simp only [pp]
  refine rm_done (by kernel_rfl) (fun w12 hL12 hS12 => hgo.out _ _ ?_) _
  clear hgo K11
  have hz12 := (show Ltr w5 _ from hS12).size
  have hy12 := hL12.size
  refine hKK10 _ _ <| wp_cond_false (by kernel_rfl) <| wp_skip <| hKK9 _ _ <| wp_seq_k fun KK13 hKK13 => rl_begin fun hgK hgo => tk 90 (.pointer (some ⟨a, 0, none⟩)) <| tk 91 (.pointer (some ⟨a, 0, none⟩)) <| tk 92 (.pointer (some ⟨a, 0, none⟩)) ?_
  simp only [pp]
  replace hb := hb.later (show Ltr w5 _ from hS12)
  refine tx 93 (.iface 111 (.pointer (some ⟨b, 0, none⟩))) (by exact ld 108 a 0 (hb.cell 0)) <| tk 94 (.pointer (some ⟨b, 0, none⟩)) <| tk 9 (.pointer (some ⟨b, 0, none⟩)) ?_
  simp only [pp]
  refine rl_end hgo <| hKK13 _ _ <| wp_seq_k fun KK14 hKK14 => ?_
  refine rm_begin (fun W => Ltr w12 W) (by kernel_rfl) (by exact bl_drew (bl_refl _)) fun K15 hgo w15 hE hS15 => ?_
  have hv15 : Ltr w12 w15 := by rw [hE]; exact bl_drew (bl_refl _)
  have hz15 := hv15.size
  clear hE hS15
  refine mk 0 95 vx <| mk 1 96 (.pointer (some ⟨b, 0, none⟩)) <| mk 2 97 (.pointer (some ⟨b, 0, none⟩)) <| mk 3 98 (.pointer (some ⟨b, 0, none⟩)) ?_
  try simp only [pp]
  replace hc := ((hc.later hL4).later hL5).later (show Ltr w5 _ from hS12)
  refine mx 4 99 vp rfl (fun W hW => by (exact ld 108 b 0 ((hc.later hW).cell 0))) <| mk 6 101 (.pointer (some ⟨b, 0, none⟩)) <| mk 7 102 (.pointer (some ⟨b, 0, none⟩)) <| mk 8 103 (.pointer (some ⟨b, 1, none⟩)) ?_
  try simp only [pp]
  refine mx 9 104 vq rfl (fun W hW => by (exact ld 108 b 1 ((hc.later hW).cell 1))) <| mk 10 105 (.pointer (some ⟨a, 0, none⟩)) <| mk 11 106 (.pointer (some ⟨a, 0, none⟩)) <| mk 12 107 (.pointer (some ⟨a, 1, none⟩)) ?_
  try simp only [pp]
  refine mx 13 108 vr rfl (fun W hW => by (exact ld 108 a 1 ((hb.later hW).cell 1))) ?_
  try simp only [pp]
  refine rm_pick1 (i := 5) (by kernel_rfl) ?_
  replace hT := ((hT.later hL4).later hL5).later (show Ltr w5 _ from hS12)
  replace hp := ((hp.later hL4).later hL5).later (show Ltr w5 _ from hS12)
  replace hx := ((hx.later hL4).later hL5).later (show Ltr w5 _ from hS12)
  refine rm_callx (some 100) 107 #[vx, vp] rfl rfl (by kernel_rfl) (fun W hW => by kernel_rfl) (fun W hlz hW => pair_any x p vx vp _ (hT.later (show Ltr w12 W from hW)) (hx.later (show Ltr w12 W from hW)) (hp.later (show Ltr w12 W from hW)) (by omega) (by omega) (by omega)) (by rintro W e w' ⟨v1, rfl, hL16, hv1⟩; exact hL16) (fun _ _ h k => Ltr.trans h k) ?_
  rintro q16 e w16 hq16 hQ16 ⟨v1, rfl, hL16, hv1⟩ hS16
  refine ⟨_, rfl, ?_⟩
  have hz16 := hL16.size
  have hy16 := hq16.size
  try simp only [pp]
  refine rm_pick1 (i := 14) (by kernel_rfl) ?_
  replace hq := ((hq.later hL4).later hL5).later (show Ltr w5 _ from hS12)
  replace hr := ((hr.later hL4).later hL5).later (show Ltr w5 _ from hS12)
  refine rm_callx (some 109) 107 #[vq, vr] rfl rfl (by kernel_rfl) (fun W hW => by kernel_rfl) (fun W hlz hW => pair_any q r vq vr _ (hT.later (show Ltr w12 W from hW)) (hq.later (show Ltr w12 W from hW)) (hr.later (show Ltr w12 W from hW)) (by omega) (by omega) (by omega)) (by rintro W e w' ⟨v2, rfl, hL17, hv2⟩; exact hL17) (fun _ _ h k => Ltr.trans h k) ?_
  rintro q17 e w17 hq17 hQ17 ⟨v2, rfl, hL17, hv2⟩ hS17
  refine ⟨_, rfl, ?_⟩
  replace hv1 := (hv1.later hq17).later hL17
  have hz17 := hL17.size
  have hy17 := hq17.size
  try simp only [pp]
  refine rm_pick1 (i := 15) (by kernel_rfl) ?_
  refine rm_callx (some 110) 107 #[v1, v2] rfl rfl (by kernel_rfl) (fun W hW => by kernel_rfl) (fun W hlz hW => pair_any (.fork x p) (.fork q r) v1 v2 _ (hT.later (show Ltr w12 W from hW)) (hv1.later hlz) (hv2.later hlz) (by omega) (by omega) (by omega)) (by rintro W e w' ⟨v, rfl, hL18, hv⟩; exact hL18) (fun _ _ h k => Ltr.trans h k) ?_
  rintro q18 e w18 hq18 hQ18 ⟨v, rfl, hL18, hv⟩ hS18
  refine ⟨_, rfl, ?_⟩
  replace hv1 := (hv1.later hq18).later hL18
  replace hv2 := (hv2.later hq18).later hL18
  have hz18 := hL18.size
  have hy18 := hq18.size
  try simp only [pp]
  refine mk 16 4 v ?_
  try simp only [pp]
  refine rm_done (by kernel_rfl) (fun w19 hL19 hS19 => hgo.out _ _ ?_) _
  clear hgo K15
  have hz19 := (show Ltr w12 _ from hS19).size
  have hy19 := hL19.size
  refine hKK14 _ _ ?_
  refine wp_ret ?_
  try simp only [Exit.then, Exit.inBlock]
  refine bp_ret (v := v) (res1 rfl (res_tmp (by kernel_rfl))) ?_
  replace hB := (hB.later (show Ltr w5 _ from hS12)).later (show Ltr w12 _ from hS19)
  replace hv := hv.later hL19
  exact ⟨_, rfl, hB, hv⟩
theorem level_any (x y : Tr) (vx vy : Value) (w : World) (hT : Tabs w) (hx : Tree w x vx) (hy : Tree w y vy) (ox : x.ok) (oy : y.ok) (hm : x.bytes.length + y.bytes.length ≤ 200000000) (d1 : x.h ≤ y.h + 2) (d2 : y.h ≤ x.h + 2) :
    Calls Tryd.prog 105 #[vx, vy] w fun e w' => ∃ v, e = .returned v ∧ Ltr w w' ∧ ∃ t : Tr, Tree w' t v ∧ t.ok ∧ t.bytes = x.bytes ++ y.bytes ∧ max x.h y.h ≤ t.h ∧ t.h ≤ max x.h y.h + 1 ∧ (x.h ≤ y.h + 1 → y.h ≤ x.h + 1 → t.h = 1 + max x.h y.h) := by
  have bx := Tr.h_le x ox
  have bY := Tr.h_le y oy
  have px := Tr.h_pos x
  have py := Tr.h_pos y
  by_cases c1 : x.h ≤ y.h + 1
  · by_cases c2 : y.h ≤ x.h + 1
    · refine (level_c x y vx vy w hT hx hy (by omega) (by omega) (by omega) c1 c2).mono ?_
      rintro e w' ⟨v, rfl, hL, hv⟩
      exact ⟨v, rfl, hL, _, hv, ⟨ox, oy, c1, c2⟩, rfl, by simp only [Tr.h]; omega, by simp only [Tr.h]; omega, fun _ _ => rfl⟩
    · cases y with
      | tip l => simp only [Tr.h] at c2; omega
      | fork p q =>
        obtain ⟨op, oq, e1, e2⟩ := oy
        have hl := Tr.len_fork p q
        simp only [Tr.h] at c1 c2 d1 d2 bY
        by_cases c3 : p.h ≤ q.h
        · refine (level_b1 x p q vx vy w hT hx hy (by omega) (by omega) (by simp only [Tr.h]; omega) (by simp only [Tr.h]; omega) c3).mono ?_
          rintro e w' ⟨v, rfl, hL, hv⟩
          exact ⟨v, rfl, hL, _, hv, ⟨⟨ox, op, by omega, by omega⟩, oq, by simp only [Tr.h]; omega, by simp only [Tr.h]; omega⟩, by simp [Tr.bytes], by simp only [Tr.h]; omega, by simp only [Tr.h]; omega, fun _ h => absurd h (by simp only [Tr.h]; omega)⟩
        · cases p with
          | tip l => simp only [Tr.h] at c3; have := Tr.h_pos q; omega
          | fork p r =>
            obtain ⟨op, or', e3, e4⟩ := op
            have hl2 := Tr.len_fork p r
            simp only [Tr.h] at c1 c2 c3 d1 d2 bY e1 e2
            refine (level_b2 x p r q vx vy w hT hx hy (by omega) (by omega) (by simp only [Tr.h]; omega) (by simp only [Tr.h]; omega) (by simp only [Tr.h]; omega)).mono ?_
            rintro e w' ⟨v, rfl, hL, hv⟩
            exact ⟨v, rfl, hL, _, hv, ⟨⟨ox, op, by omega, by omega⟩, ⟨or', oq, by omega, by omega⟩, by simp only [Tr.h]; omega, by simp only [Tr.h]; omega⟩, by simp [Tr.bytes], by simp only [Tr.h]; omega, by simp only [Tr.h]; omega, fun _ h => absurd h (by simp only [Tr.h]; omega)⟩
  · cases x with
    | tip l => simp only [Tr.h] at c1; omega
    | fork p q =>
      obtain ⟨op, oq, e1, e2⟩ := ox
      have hl := Tr.len_fork p q
      simp only [Tr.h] at c1 d1 d2 bx
      by_cases c3 : q.h ≤ p.h
      · refine (level_a1 p q y vx vy w hT hx hy (by omega) (by simp only [Tr.h]; omega) (by omega) (by simp only [Tr.h]; omega) c3).mono ?_
        rintro e w' ⟨v, rfl, hL, hv⟩
        exact ⟨v, rfl, hL, _, hv, ⟨op, ⟨oq, oy, by omega, by omega⟩, by simp only [Tr.h]; omega, by simp only [Tr.h]; omega⟩, by simp [Tr.bytes], by simp only [Tr.h]; omega, by simp only [Tr.h]; omega, fun h _ => absurd h (by simp only [Tr.h]; omega)⟩
      · cases q with
        | tip l => simp only [Tr.h] at c3; have := Tr.h_pos p; omega
        | fork q r =>
          obtain ⟨oq, or', e3, e4⟩ := oq
          have hl2 := Tr.len_fork q r
          simp only [Tr.h] at c1 c3 d1 d2 bx e1 e2
          refine (level_a2 p q r y vx vy w hT hx hy (by omega) (by simp only [Tr.h]; omega) (by omega) (by simp only [Tr.h]; omega) (by simp only [Tr.h]; omega)).mono ?_
          rintro e w' ⟨v, rfl, hL, hv⟩
          exact ⟨v, rfl, hL, _, hv, ⟨⟨op, oq, by omega, by omega⟩, ⟨or', oy, by omega, by omega⟩, by simp only [Tr.h]; omega, by simp only [Tr.h]; omega⟩, by simp [Tr.bytes], by simp only [Tr.h]; omega, by simp only [Tr.h]; omega, fun h _ => absurd h (by simp only [Tr.h]; omega)⟩

/-- a tree whose blocks lie below n -/
def TreeN (n : Nat) (w : World) (t : Tr) (v : Value) : Prop := n ≤ w.heap.size ∧ TreeIn n w t v
theorem TreeN.later {n : Nat} {w w' : World} {t : Tr} {v : Value} (h : TreeN n w t v) (hl : Ltr w w') : TreeN n w' t v := ⟨Nat.le_trans h.1 hl.size, h.2.later hl h.1⟩
theorem TreeN.upd {n g : Nat} {w w' : World} {t : Tr} {v : Value} (h : TreeN n w t v) (hu : Upd g w w') (hg : n ≤ g) : TreeN n w' t v := ⟨by rw [hu.size]; exact h.1, h.2.upd hu hg⟩
theorem TreeN.bel {n m : Nat} {w w' : World} {t : Tr} {v : Value} (h : TreeN n w t v) (hb : Below m w w') (hn : n ≤ m) : TreeN n w' t v := ⟨Nat.le_trans h.1 hb.size, h.2.below (Nat.le_refl _) (Below.mono hb hn)⟩
theorem TreeN.tree {n : Nat} {w : World} {t : Tr} {v : Value} (h : TreeN n w t v) : Tree w t v := h.2.tree h.1
theorem Tree.n {w : World} {t : Tr} {v : Value} (h : Tree w t v) : TreeN w.heap.size w t v := ⟨Nat.le_refl _, h⟩
theorem LeafAt.upd {w w' : World} {b g : Nat} {l : List UInt8} (h : LeafAt w b l) (hu : Upd g w w') (hg : b ≠ g) : LeafAt w' b l := Blk.upd h hu hg
def JoinP (x y : Tr) (vx vy : Value) (w : World) (e : Ending) (w' : World) : Prop := ∃ v, e = .returned v ∧ Ltr w w' ∧ ∃ t : Tr, Tree w' t v ∧ t.ok ∧ t.bytes = x.bytes ++ y.bytes ∧ max x.h y.h ≤ t.h ∧ t.h ≤ max x.h y.h + 1
set_option maxRecDepth 100000 in
set_option maxHeartbeats 8000000 in
theorem join_1 (p q y : Tr) (vx vy : Value) (w : World) (hT : Tabs w) (hx : Tree w (.fork p q) vx) (hy : Tree w y vy) (ox : (Tr.fork p q).ok) (oy : y.ok) (hm : p.bytes.length + q.bytes.length + y.bytes.length ≤ 200000000)
    (d1 : y.h + 2 ≤ (Tr.fork p q).h) (ih : ∀ vx w, Tabs w → Tree w q vx → Tree w y vy → Calls Tryd.prog 83 #[vx, vy] w (JoinP q y vx vy w)) :
    Calls Tryd.prog 83 #[vx, vy] w (JoinP (.fork p q) y vx vy w) := by
  have hB := Ltr.refl w
  obtain ⟨f1, x1, e1, c1⟩ := inv_height hx
  obtain ⟨f2, x2, e2, c2⟩ := inv_height hy
  have bx := Tr.h_le _ ox
  have by' := Tr.h_le _ oy
  rw [Tr.len_fork] at bx
  obtain ⟨op, oq, o1, o2⟩ := ox
  have hh := Tr.h_fork p q
  have IH := Lib.hid ih
  clear ih
  obtain ⟨a, vp, vq, rfl, hb, hp, hq⟩ := hx.fork_open
  obtain ⟨t2, z2, rfl⟩ := hy.iface
  go_enter Tryd.func83, Tryd.ntmps83
  have h4 := hT.four
  have hlt_hb := hb.lt
  refine wp_seq_k fun KK1 hKK1 => rl_begin fun hgK hgo => tk 4 .nilIface ?_
  simp only [pp]
  refine rl_end hgo <| hKK1 _ _ <| wp_seq_k fun KK2 hKK2 => wp_block <| wp_seq_k fun KK3 hKK3 => rl_begin fun hgK hgo => tk 15 (.iface 111 (.pointer (some ⟨a, 0, none⟩))) <| tk 16 (.bool false) <| tk 14 (.bool false) ?_
  simp only [pp]
  refine rl_end hgo <| hKK3 _ _ <| wp_cond_false (by kernel_rfl) <| wp_seq_k fun KK4 hKK4 => rl_begin fun hgK hgo => tk 19 (.iface t2 z2) <| tk 20 (.bool false) <| tk 18 (.bool false) ?_
  simp only [pp]
  refine rl_end hgo <| hKK4 _ _ <| wp_cond_false (by kernel_rfl) <| wp_skip <| hKK2 _ _ <| wp_seq_k fun KK5 hKK5 => wp_seq_k fun KK6 hKK6 => rl_begin fun hgK hgo => tk 22 (.iface 111 (.pointer (some ⟨a, 0, none⟩))) ?_
  simp only [pp]
  refine rl_call (some 23) f1 #[x1] rfl (by kernel_rfl) (by exact e1 _ _ _ _ rfl rfl) (c1 _ hB) ?_
  rintro e w7 ⟨rfl, hL7⟩
  refine ⟨_, rfl, ?_⟩
  have hz7 := hL7.size
  try simp only [pp]
  refine tk 24 (.iface t2 z2) ?_
  simp only [pp]
  replace hB := hB.later hL7
  refine rl_call (some 25) f2 #[x2] rfl (by kernel_rfl) (by exact e2 _ _ _ _ rfl rfl) (c2 _ hB) ?_
  rintro e w8 ⟨rfl, hL8⟩
  refine ⟨_, rfl, ?_⟩
  have hz8 := hL8.size
  try simp only [pp]
  refine tx 26 (.int .i64 ((((Tr.fork p q).h : Int) : Int) - (y.h : Int))) (by exact ex_arith (e := (((Tr.fork p q).h : Int) : Int) - (y.h : Int)) (r := (((Tr.fork p q).h : Int) : Int) - (y.h : Int)) (by kernel_rfl) (by omega) (by omega)) <| tk 5 (.int .i64 ((((Tr.fork p q).h : Int) : Int) - (y.h : Int))) ?_
  simp only [pp]
  refine rl_end hgo <| hKK6 _ _ <| wp_block <| wp_seq_k fun KK9 hKK9 => rl_begin fun hgK hgo => tk 28 (.int .i64 ((((Tr.fork p q).h : Int) : Int) - (y.h : Int))) ?_
  simp only [pp]
  refine tx 29 (.bool true) (by exact ex_bool (c := (((((Tr.fork p q).h : Int) : Int) - (y.h : Int)) : Int) > 1) (by kernel_rfl) ⟨fun _ => by omega, fun _ => rfl⟩) <| tk 27 (.bool true) ?_
  simp only [pp]
  refine rl_end hgo <| hKK9 _ _ <| wp_cond_true (by kernel_rfl) <| wp_seq_k fun KK10 hKK10 => rl_begin fun hgK hgo => tk 30 (.iface 111 (.pointer (some ⟨a, 0, none⟩))) <| tk 31 (.pointer (some ⟨a, 0, none⟩)) <| tk 6 (.pointer (some ⟨a, 0, none⟩)) ?_
  simp only [pp]
  refine rl_end hgo <| hKK10 _ _ <| wp_seq_k fun KK11 hKK11 => ?_
  refine rm_begin (fun W => Ltr w8 W) (by kernel_rfl) (by exact bl_drew (bl_refl _)) fun K12 hgo w12 hE hS12 => ?_
  have hv12 : Ltr w8 w12 := by rw [hE]; exact bl_drew (bl_refl _)
  have hz12 := hv12.size
  clear hE hS12
  refine mk 0 32 (.pointer (some ⟨a, 0, none⟩)) <| mk 1 33 (.pointer (some ⟨a, 0, none⟩)) <| mk 2 34 (.pointer (some ⟨a, 0, none⟩)) ?_
  try simp only [pp]
  replace hb := (hb.later hL7).later hL8
  refine mx 3 35 vp rfl (fun W hW => by (exact ld 108 a 0 ((hb.later hW).cell 0))) <| mk 4 36 (.pointer (some ⟨a, 0, none⟩)) <| mk 5 37 (.pointer (some ⟨a, 0, none⟩)) <| mk 6 38 (.pointer (some ⟨a, 1, none⟩)) ?_
  try simp only [pp]
  refine mx 7 39 vq rfl (fun W hW => by (exact ld 108 a 1 ((hb.later hW).cell 1))) <| mk 8 40 (.iface t2 z2) ?_
  try simp only [pp]
  refine rm_pick1 (i := 9) (by kernel_rfl) ?_
  replace hT := (hT.later hL7).later hL8
  replace hq := (hq.later hL7).later hL8
  replace hy := (hy.later hL7).later hL8
  refine rm_callx (some 41) 83 #[vq, .iface t2 z2] rfl rfl (by kernel_rfl) (fun W hW => by kernel_rfl) (fun W hlz hW => IH.out _ _ (hT.later (show Ltr w8 W from hW)) (hq.later (show Ltr w8 W from hW)) (hy.later (show Ltr w8 W from hW))) (by rintro W e w' ⟨v1, rfl, hL13, s1, hv1, k1, k2, k3, k4⟩; exact hL13) (fun _ _ h k => Ltr.trans h k) ?_
  rintro q13 e w13 hq13 hQ13 ⟨v1, rfl, hL13, s1, hv1, k1, k2, k3, k4⟩ hS13
  refine ⟨_, rfl, ?_⟩
  have hz13 := hL13.size
  have hy13 := hq13.size
  try simp only [pp]
  refine rm_pick1 (i := 10) (by kernel_rfl) ?_
  replace hp := (hp.later hL7).later hL8
  refine rm_callx (some 42) 105 #[vp, v1] rfl rfl (by kernel_rfl) (fun W hW => by kernel_rfl) (fun W hlz hW => level_any p s1 vp v1 _ (hT.later (show Ltr w8 W from hW)) (hp.later (show Ltr w8 W from hW)) (hv1.later hlz) op k1 (by rw [k2, List.length_append]; omega) (by omega) (by omega)) (by rintro W e w' ⟨v, rfl, hL14, s2, hv, m1, m2, m3, m4, m5⟩; exact hL14) (fun _ _ h k => Ltr.trans h k) ?_
  rintro q14 e w14 hq14 hQ14 ⟨v, rfl, hL14, s2, hv, m1, m2, m3, m4, m5⟩ hS14
  refine ⟨_, rfl, ?_⟩
  replace hv1 := (hv1.later hq14).later hL14
  have hz14 := hL14.size
  have hy14 := hq14.size
  try simp only [pp]
  refine mk 11 4 v ?_
  try simp only [pp]
  refine rm_done (by kernel_rfl) (fun w15 hL15 hS15 => hgo.out _ _ ?_) _
  clear hgo K12
  have hz15 := (show Ltr w8 _ from hS15).size
  have hy15 := hL15.size
  refine hKK11 _ _ ?_
  refine wp_ret ?_
  try simp only [Exit.then, Exit.inBlock]
  refine bp_ret (v := v) (res1 rfl (res_tmp (by kernel_rfl))) ?_
  replace hB := (hB.later hL8).later (show Ltr w8 _ from hS15)
  replace hv := hv.later hL15
  exact ⟨_, rfl, hB, s2, hv, m1, by rw [m2, k2, Tr.b_fork, List.append_assoc], by omega, by omega⟩
set_option maxRecDepth 100000 in
set_option maxHeartbeats 8000000 in
theorem join_2 (x p q : Tr) (vx vy : Value) (w : World) (hT : Tabs w) (hx : Tree w x vx) (hy : Tree w (.fork p q) vy) (ox : x.ok) (oy : (Tr.fork p q).ok) (hm : x.bytes.length + p.bytes.length + q.bytes.length ≤ 200000000)
    (d1 : x.h + 2 ≤ (Tr.fork p q).h) (ih : ∀ vy w, Tabs w → Tree w x vx → Tree w p vy → Calls Tryd.prog 83 #[vx, vy] w (JoinP x p vx vy w)) :
    Calls Tryd.prog 83 #[vx, vy] w (JoinP x (.fork p q) vx vy w) := by
  have hB := Ltr.refl w
  obtain ⟨f1, x1, e1, c1⟩ := inv_height hx
  obtain ⟨f2, x2, e2, c2⟩ := inv_height hy
  have bx := Tr.h_le _ ox
  have by' := Tr.h_le _ oy
  rw [Tr.len_fork] at by'
  obtain ⟨op, oq, o1, o2⟩ := oy
  have hh := Tr.h_fork p q
  have IH := Lib.hid ih
  clear ih
  obtain ⟨a, vp, vq, rfl, hb, hp, hq⟩ := hy.fork_open
  obtain ⟨t2, z2, rfl⟩ := hx.iface
  go_enter Tryd.func83, Tryd.ntmps83
  have h4 := hT.four
  have hlt_hb := hb.lt
  refine wp_seq_k fun KK1 hKK1 => rl_begin fun hgK hgo => tk 4 .nilIface ?_
  simp only [pp]
  refine rl_end hgo <| hKK1 _ _ <| wp_seq_k fun KK2 hKK2 => wp_block <| wp_seq_k fun KK3 hKK3 => rl_begin fun hgK hgo => tk 15 (.iface t2 z2) <| tk 16 (.bool false) <| tk 14 (.bool false) ?_
  simp only [pp]
  refine rl_end hgo <| hKK3 _ _ <| wp_cond_false (by kernel_rfl) <| wp_seq_k fun KK4 hKK4 => rl_begin fun hgK hgo => tk 19 (.iface 111 (.pointer (some ⟨a, 0, none⟩))) <| tk 20 (.bool false) <| tk 18 (.bool false) ?_
  simp only [pp]
  refine rl_end hgo <| hKK4 _ _ <| wp_cond_false (by kernel_rfl) <| wp_skip <| hKK2 _ _ <| wp_seq_k fun KK5 hKK5 => wp_seq_k fun KK6 hKK6 => rl_begin fun hgK hgo => tk 22 (.iface t2 z2) ?_
  simp only [pp]
  refine rl_call (some 23) f1 #[x1] rfl (by kernel_rfl) (by exact e1 _ _ _ _ rfl rfl) (c1 _ hB) ?_
  rintro e w7 ⟨rfl, hL7⟩
  refine ⟨_, rfl, ?_⟩
  have hz7 := hL7.size
  try simp only [pp]
  refine tk 24 (.iface 111 (.pointer (some ⟨a, 0, none⟩))) ?_
  simp only [pp]
  replace hB := hB.later hL7
  refine rl_call (some 25) f2 #[x2] rfl (by kernel_rfl) (by exact e2 _ _ _ _ rfl rfl) (c2 _ hB) ?_
  rintro e w8 ⟨rfl, hL8⟩
  refine ⟨_, rfl, ?_⟩
  have hz8 := hL8.size
  try simp only [pp]
  refine tx 26 (.int .i64 (((x.h : Int) : Int) - ((Tr.fork p q).h : Int))) (by exact ex_arith (e := ((x.h : Int) : Int) - ((Tr.fork p q).h : Int)) (r := ((x.h : Int) : Int) - ((Tr.fork p q).h : Int)) (by kernel_rfl) (by omega) (by omega)) <| tk 5 (.int .i64 (((x.h : Int) : Int) - ((Tr.fork p q).h : Int))) ?_
  simp only [pp]
  refine rl_end hgo <| hKK6 _ _ <| wp_block <| wp_seq_k fun KK9 hKK9 => rl_begin fun hgK hgo => tk 28 (.int .i64 (((x.h : Int) : Int) - ((Tr.fork p q).h : Int))) ?_
  simp only [pp]
  refine tx 29 (.bool false) (by exact ex_bool (c := ((((x.h : Int) : Int) - ((Tr.fork p q).h : Int)) : Int) > 1) (by kernel_rfl) ⟨fun q => (by cases q), fun q => absurd q (by omega)⟩) <| tk 27 (.bool false) ?_
  simp only [pp]
  refine rl_end hgo <| hKK9 _ _ <| wp_cond_false (by kernel_rfl) <| wp_seq_k fun KK10 hKK10 => rl_begin fun hgK hgo => tk 44 (.int .i64 (((x.h : Int) : Int) - ((Tr.fork p q).h : Int))) ?_
  simp only [pp]
  refine tx 45 (.bool true) (by exact ex_bool (c := ((((x.h : Int) : Int) - ((Tr.fork p q).h : Int)) : Int) < (-1)) (by kernel_rfl) ⟨fun _ => by omega, fun _ => rfl⟩) <| tk 43 (.bool true) ?_
  simp only [pp]
  refine rl_end hgo <| hKK10 _ _ <| wp_cond_true (by kernel_rfl) <| wp_seq_k fun KK11 hKK11 => rl_begin fun hgK hgo => tk 46 (.iface 111 (.pointer (some ⟨a, 0, none⟩))) <| tk 47 (.pointer (some ⟨a, 0, none⟩)) <| tk 7 (.pointer (some ⟨a, 0, none⟩)) ?_
  simp only [pp]
  refine rl_end hgo <| hKK11 _ _ <| wp_seq_k fun KK12 hKK12 => ?_
  refine rm_begin (fun W => Ltr w8 W) (by kernel_rfl) (by exact bl_drew (bl_refl _)) fun K13 hgo w13 hE hS13 => ?_
  have hv13 : Ltr w8 w13 := by rw [hE]; exact bl_drew (bl_refl _)
  have hz13 := hv13.size
  clear hE hS13
  refine mk 0 48 (.iface t2 z2) <| mk 1 49 (.pointer (some ⟨a, 0, none⟩)) <| mk 2 50 (.pointer (some ⟨a, 0, none⟩)) <| mk 3 51 (.pointer (some ⟨a, 0, none⟩)) ?_
  try simp only [pp]
  replace hb := (hb.later hL7).later hL8
  refine mx 4 52 vp rfl (fun W hW => by (exact ld 108 a 0 ((hb.later hW).cell 0))) <| mk 6 54 (.pointer (some ⟨a, 0, none⟩)) <| mk 7 55 (.pointer (some ⟨a, 0, none⟩)) <| mk 8 56 (.pointer (some ⟨a, 1, none⟩)) ?_
  try simp only [pp]
  refine mx 9 57 vq rfl (fun W hW => by (exact ld 108 a 1 ((hb.later hW).cell 1))) ?_
  try simp only [pp]
  refine rm_pick1 (i := 5) (by kernel_rfl) ?_
  replace hT := (hT.later hL7).later hL8
  replace hp := (hp.later hL7).later hL8
  replace hx := (hx.later hL7).later hL8
  refine rm_callx (some 53) 83 #[.iface t2 z2, vp] rfl rfl (by kernel_rfl) (fun W hW => by kernel_rfl) (fun W hlz hW => IH.out _ _ (hT.later (show Ltr w8 W from hW)) (hx.later (show Ltr w8 W from hW)) (hp.later (show Ltr w8 W from hW))) (by rintro W e w' ⟨v1, rfl, hL14, s1, hv1, k1, k2, k3, k4⟩; exact hL14) (fun _ _ h k => Ltr.trans h k) ?_
  rintro q14 e w14 hq14 hQ14 ⟨v1, rfl, hL14, s1, hv1, k1, k2, k3, k4⟩ hS14
  refine ⟨_, rfl, ?_⟩
  have hz14 := hL14.size
  have hy14 := hq14.size
  try simp only [pp]
  refine rm_pick1 (i := 10) (by kernel_rfl) ?_
  replace hq := (hq.later hL7).later hL8
  refine rm_callx (some 58) 105 #[v1, vq] rfl rfl (by kernel_rfl) (fun W hW => by kernel_rfl) (fun W hlz hW => level_any s1 q v1 vq _ (hT.later (show Ltr w8 W from hW)) (hv1.later hlz) (hq.later (show Ltr w8 W from hW)) k1 oq (by rw [k2, List.length_append]; omega) (by omega) (by omega)) (by rintro W e w' ⟨v, rfl, hL15, s2, hv, m1, m2, m3, m4, m5⟩; exact hL15) (fun _ _ h k => Ltr.trans h k) ?_
  rintro q15 e w15 hq15 hQ15 ⟨v, rfl, hL15, s2, hv, m1, m2, m3, m4, m5⟩ hS15
  refine ⟨_, rfl, ?_⟩
  replace hv1 := (hv1.later hq15).later hL15
  have hz15 := hL15.size
  have hy15 := hq15.size
  try simp only [pp]
  refine mk 11 4 v ?_
  try simp only [pp]
  refine rm_done (by kernel_rfl) (fun w16 hL16 hS16 => hgo.out _ _ ?_) _
  clear hgo K13
  have hz16 := (show Ltr w8 _ from hS16).size
  have hy16 := hL16.size
  refine hKK12 _ _ ?_
  refine wp_ret ?_
  try simp only [Exit.then, Exit.inBlock]
  refine bp_ret (v := v) (res1 rfl (res_tmp (by kernel_rfl))) ?_
  replace hB := (hB.later hL8).later (show Ltr w8 _ from hS16)
  replace hv := hv.later hL16
  exact ⟨_, rfl, hB, s2, hv, m1, by rw [m2, k2, Tr.b_fork, List.append_assoc], by omega, by omega⟩
set_option maxRecDepth 100000 in
set_option maxHeartbeats 8000000 in
theorem join_tips (l m : List UInt8) (vx vy : Value) (w : World) (hT : Tabs w) (hx : Tree w (.tip l) vx) (hy : Tree w (.tip m) vy) (ox : (Tr.tip l).ok) (oy : (Tr.tip m).ok) (hm : l.length + m.length ≤ 200000000) :
    Calls Tryd.prog 83 #[vx, vy] w (JoinP (.tip l) (.tip m) vx vy w) := by
  have hB := Ltr.refl w
  have nx := hx.n
  have ny := hy.n
  obtain ⟨a, rfl, ha⟩ := hx.tip_open
  obtain ⟨b, rfl, hb⟩ := hy.tip_open
  clear hx hy
  have la := Blk.lt ha
  have lb := Blk.lt hb
  obtain ⟨o1, o2⟩ := ox
  obtain ⟨o3, o4⟩ := oy
  go_enter Tryd.func83, Tryd.ntmps83
  have h4 := hT.four
  refine wp_seq_k fun KK1 hKK1 => rl_begin fun hgK hgo => tk 4 .nilIface ?_
  simp only [pp]
  refine rl_end hgo <| hKK1 _ _ <| wp_seq_k fun KK2 hKK2 => wp_block <| wp_seq_k fun KK3 hKK3 => rl_begin fun hgK hgo => tk 15 (.iface 118 (.agg #[.pointer (some ⟨a, 0, none⟩)])) <| tk 16 (.bool false) <| tk 14 (.bool false) ?_
  simp only [pp]
  refine rl_end hgo <| hKK3 _ _ <| wp_cond_false (by kernel_rfl) <| wp_seq_k fun KK4 hKK4 => rl_begin fun hgK hgo => tk 19 (.iface 118 (.agg #[.pointer (some ⟨b, 0, none⟩)])) <| tk 20 (.bool false) <| tk 18 (.bool false) ?_
  simp only [pp]
  refine rl_end hgo <| hKK4 _ _ <| wp_cond_false (by kernel_rfl) <| wp_skip <| hKK2 _ _ <| wp_seq_k fun KK5 hKK5 => wp_seq_k fun KK6 hKK6 => rl_begin fun hgK hgo => tk 22 (.iface 118 (.agg #[.pointer (some ⟨a, 0, none⟩)])) ?_
  simp only [pp]
  refine rl_call (some 23) 160 #[(.agg #[.pointer (some ⟨a, 0, none⟩)])] rfl (by kernel_rfl) (by kernel_rfl) (theight_any _ _) ?_
  rintro e w7 ⟨rfl, hL7⟩
  refine ⟨_, rfl, ?_⟩
  have hz7 := hL7.size
  try simp only [pp]
  refine tk 24 (.iface 118 (.agg #[.pointer (some ⟨b, 0, none⟩)])) ?_
  simp only [pp]
  refine rl_call (some 25) 160 #[(.agg #[.pointer (some ⟨b, 0, none⟩)])] rfl (by kernel_rfl) (by kernel_rfl) (theight_any _ _) ?_
  rintro e w8 ⟨rfl, hL8⟩
  refine ⟨_, rfl, ?_⟩
  have hz8 := hL8.size
  try simp only [pp]
  refine tx 26 (.int .i64 ((1 : Int) - 1)) (by exact ex_arith (e := (1 : Int) - 1) (r := (1 : Int) - 1) (by kernel_rfl) (by omega) (by omega)) <| tk 5 (.int .i64 ((1 : Int) - 1)) ?_
  simp only [pp]
  refine rl_end hgo <| hKK6 _ _ <| wp_block <| wp_seq_k fun KK9 hKK9 => rl_begin fun hgK hgo => tk 28 (.int .i64 ((1 : Int) - 1)) ?_
  simp only [pp]
  refine tx 29 (.bool false) (by exact ex_bool (c := (((1 : Int) - 1) : Int) > 1) (by kernel_rfl) ⟨fun q => (by cases q), fun q => absurd q (by omega)⟩) <| tk 27 (.bool false) ?_
  simp only [pp]
  refine rl_end hgo <| hKK9 _ _ <| wp_cond_false (by kernel_rfl) <| wp_seq_k fun KK10 hKK10 => rl_begin fun hgK hgo => tk 44 (.int .i64 ((1 : Int) - 1)) ?_
  simp only [pp]
  refine tx 45 (.bool false) (by exact ex_bool (c := (((1 : Int) - 1) : Int) < (-1)) (by kernel_rfl) ⟨fun q => (by cases q), fun q => absurd q (by omega)⟩) <| tk 43 (.bool false) ?_
  simp only [pp]
  refine rl_end hgo <| hKK10 _ _ <| wp_cond_false (by kernel_rfl) <| wp_skip <| hKK5 _ _ <| wp_seq_k fun KK11 hKK11 => rl_begin fun hgK hgo => tk 60 (.iface 118 (.agg #[.pointer (some ⟨a, 0, none⟩)])) <| tk 61 (.tuple #[.agg #[.pointer (some ⟨a, 0, none⟩)], .bool true]) <| tk 59 (.tuple #[.agg #[.pointer (some ⟨a, 0, none⟩)], .bool true]) <| tk 62 (.agg #[.pointer (some ⟨a, 0, none⟩)]) <| tk 63 (.bool true) ?_
  simp only [pp]
  refine rl_alloc (some 8) 118 #[.pointer none] rfl (by kernel_rfl) (fun W => by kernel_rfl) fun p12 w12 hL12 hp12 hb12 => ?_
  have hz12 := hL12.size
  have hlt12 := hb12.lt
  try simp only [pp]
  refine rl_store p12 #[.pointer (some ⟨a, 0, none⟩)] rfl rfl (by kernel_rfl) rfl rfl (by kernel_rfl) hb12 rfl (by kernel_rfl) fun w13 hU13 hn13 => ?_
  have hz13 := hU13.size
  replace hT := ((hT.later hL7).later hL8).later hL12
  replace hT := hT.upd hU13 (by omega)
  replace hB := ((hB.later hL7).later hL8).later hL12
  replace hB := hB.upd hU13 (by omega)
  replace ha := ((ha.later hL7).later hL8).later hL12
  replace ha := ha.upd hU13 (by omega)
  replace hb := ((hb.later hL7).later hL8).later hL12
  replace hb := hb.upd hU13 (by omega)
  replace nx := ((nx.later hL7).later hL8).later hL12
  replace nx := nx.upd hU13 (by omega)
  replace ny := ((ny.later hL7).later hL8).later hL12
  replace ny := ny.upd hU13 (by omega)
  clear hb12
  have hb12 := hn13
  clear hn13
  try simp only [pp]
  refine tk 9 (.bool true) ?_
  simp only [pp]
  refine rl_end hgo <| hKK11 _ _ <| wp_seq_k fun KK14 hKK14 => rl_begin fun hgK hgo => tk 65 (.iface 118 (.agg #[.pointer (some ⟨b, 0, none⟩)])) <| tk 66 (.tuple #[.agg #[.pointer (some ⟨b, 0, none⟩)], .bool true]) <| tk 64 (.tuple #[.agg #[.pointer (some ⟨b, 0, none⟩)], .bool true]) <| tk 67 (.agg #[.pointer (some ⟨b, 0, none⟩)]) <| tk 68 (.bool true) ?_
  simp only [pp]
  refine rl_alloc (some 10) 118 #[.pointer none] rfl (by kernel_rfl) (fun W => by kernel_rfl) fun p15 w15 hL15 hp15 hb15 => ?_
  have hz15 := hL15.size
  have hlt15 := hb15.lt
  try simp only [pp]
  refine rl_store p15 #[.pointer (some ⟨b, 0, none⟩)] rfl rfl (by kernel_rfl) rfl rfl (by kernel_rfl) hb15 rfl (by kernel_rfl) fun w16 hU16 hn16 => ?_
  have hz16 := hU16.size
  replace hT := hT.later hL15
  replace hT := hT.upd hU16 (by omega)
  replace hB := hB.later hL15
  replace hB := hB.upd hU16 (by omega)
  replace ha := ha.later hL15
  replace ha := ha.upd hU16 (by omega)
  replace hb := hb.later hL15
  replace hb := hb.upd hU16 (by omega)
  replace nx := nx.later hL15
  replace nx := nx.upd hU16 (by omega)
  replace ny := ny.later hL15
  replace ny := ny.upd hU16 (by omega)
  replace hb12 := hb12.later hL15
  replace hb12 := hb12.upd hU16 (by omega)
  clear hb15
  have hb15 := hn16
  clear hn16
  try simp only [pp]
  refine tk 11 (.bool true) ?_
  simp only [pp]
  refine rl_end hgo <| hKK14 _ _ <| wp_seq_k fun KK17 hKK17 => wp_seq_k fun KK18 hKK18 => rl_begin fun hgK hgo => tk 69 (.bool true) <| tk 70 (.bool true) <| tk 71 (.bool true) <| tk 72 (.bool true) <| tk 73 (.bool true) <| tk 74 (.iface 118 (.agg #[.pointer (some ⟨a, 0, none⟩)])) ?_
  simp only [pp]
  refine rl_call (some 75) 161 #[(.agg #[.pointer (some ⟨a, 0, none⟩)])] rfl (by kernel_rfl) (by kernel_rfl) (tsize_any a l _ ha) ?_
  rintro e w19 ⟨rfl, hL19⟩
  refine ⟨_, rfl, ?_⟩
  have hz19 := hL19.size
  try simp only [pp]
  refine tk 76 (.iface 118 (.agg #[.pointer (some ⟨b, 0, none⟩)])) ?_
  simp only [pp]
  replace hb := hb.later hL19
  refine rl_call (some 77) 161 #[(.agg #[.pointer (some ⟨b, 0, none⟩)])] rfl (by kernel_rfl) (by kernel_rfl) (tsize_any b m _ hb) ?_
  rintro e w20 ⟨rfl, hL20⟩
  refine ⟨_, rfl, ?_⟩
  have hz20 := hL20.size
  try simp only [pp]
  refine tx 78 (.int .i64 ((l.length : Int) + m.length)) (by exact ex_arith (e := (l.length : Int) + m.length) (r := (l.length : Int) + m.length) (by kernel_rfl) (by omega) (by omega)) ?_
  simp only [pp]
  replace hT := (hT.later hL19).later hL20
  replace hB := (hB.later hL19).later hL20
  replace ha := (ha.later hL19).later hL20
  replace nx := (nx.later hL19).later hL20
  replace ny := (ny.later hL19).later hL20
  replace hb12 := (hb12.later hL19).later hL20
  replace hb15 := (hb15.later hL19).later hL20
  replace hb := hb.later hL20
  by_cases hc : l.length + m.length ≤ 4096
  ·refine tx 79 (.bool true) (by exact ex_bool (c := (((l.length : Int) + m.length) : Int) ≤ 4096) (by kernel_rfl) ⟨fun _ => by omega, fun _ => rfl⟩) <| tk 80 (.bool true) ?_
   simp only [pp]
   refine rl_end hgo <| hKK18 _ _ <| wp_cond_true (by kernel_rfl) <| wp_seq_k fun KK21 hKK21 => rl_begin fun hgK hgo => tk 82 (.pointer (some ⟨p12, 0, none⟩)) ?_
   simp only [pp]
   refine tx 83 (.pointer (some ⟨a, 0, none⟩)) (by exact ld 116 p12 0 (hb12.cell 0)) <| tk 84 (.pointer (some ⟨p15, 0, none⟩)) ?_
   simp only [pp]
   refine tx 85 (.pointer (some ⟨b, 0, none⟩)) (by exact ld 116 p15 0 (hb15.cell 0)) ?_
   simp only [pp]
   refine rl_call (some 86) 106 #[.pointer (some ⟨a, 0, none⟩), .pointer (some ⟨b, 0, none⟩)] rfl (by kernel_rfl) (by kernel_rfl) (LJoin_any a b l m hc _ hT ha hb) ?_
   rintro e w22 ⟨p, rfl, hL22, hp⟩
   refine ⟨_, rfl, ?_⟩
   have hz22 := hL22.size
   try simp only [pp]
   refine tk 81 (.tuple #[.pointer (some ⟨p, 0, none⟩), .int .i64 0]) <| tk 87 (.pointer (some ⟨p, 0, none⟩)) <| tk 88 (.int .i64 0) <| tk 12 (.pointer (some ⟨p, 0, none⟩)) <| tk 13 (.int .i64 0) ?_
   simp only [pp]
   refine rl_end hgo <| hKK21 _ _ <| wp_seq_k fun KK23 hKK23 => rl_begin fun hgK hgo => tk 89 (.int .i64 0) ?_
   simp only [pp]
   refine tx 90 (.bool true) (by exact eqt (x := 0) (y := 0) (by omega)) ?_
   simp only [pp]
   refine rl_end hgo <| hKK23 _ _ <| wp_cond_true (by kernel_rfl) <| wp_seq_k fun KK24 hKK24 => rl_begin fun hgK hgo => tk 91 (.pointer (some ⟨p, 0, none⟩)) <| tk 92 (.agg #[.pointer (some ⟨p, 0, none⟩)]) <| tk 93 (.iface 118 (.agg #[.pointer (some ⟨p, 0, none⟩)])) <| tk 4 (.iface 118 (.agg #[.pointer (some ⟨p, 0, none⟩)])) ?_
   simp only [pp]
   refine rl_end hgo <| hKK24 _ _ ?_
   refine wp_ret ?_
   try simp only [Exit.then, Exit.inBlock]
   refine bp_ret (v := .iface 118 (.agg #[.pointer (some ⟨p, 0, none⟩)])) (res1 rfl (res_tmp (by kernel_rfl))) ?_
   replace hT := hT.later hL22
   replace hB := hB.later hL22
   replace ha := ha.later hL22
   replace hb := hb.later hL22
   replace nx := nx.later hL22
   replace ny := ny.later hL22
   replace hb12 := hb12.later hL22
   replace hb15 := hb15.later hL22
   exact ⟨_, rfl, hB, .tip (l ++ m), Tree.tip_mk hp, ⟨by rw [List.length_append]; omega, by rw [List.length_append]; omega⟩, rfl, by simp [Tr.h], by simp [Tr.h]⟩
  ·refine tx 79 (.bool false) (by exact ex_bool (c := (((l.length : Int) + m.length) : Int) ≤ 4096) (by kernel_rfl) ⟨fun q => (by cases q), fun q => absurd q (by omega)⟩) <| tk 80 (.bool false) ?_
   simp only [pp]
   refine rl_end hgo <| hKK18 _ _ <| wp_cond_false (by kernel_rfl) <| wp_skip <| hKK17 _ _ <| wp_seq_k fun KK25 hKK25 => rl_begin fun hgK hgo => tk 94 (.iface 118 (.agg #[.pointer (some ⟨a, 0, none⟩)])) <| tk 95 (.iface 118 (.agg #[.pointer (some ⟨b, 0, none⟩)])) ?_
   simp only [pp]
   refine rl_call (some 96) 107 #[.iface 118 (.agg #[.pointer (some ⟨a, 0, none⟩)]), .iface 118 (.agg #[.pointer (some ⟨b, 0, none⟩)])] rfl (by kernel_rfl) (by kernel_rfl) (pair_any (.tip l) (.tip m) _ _ _ hT nx.tree ny.tree (by simp only [Tr.bytes]; omega) (by simp [Tr.h]) (by simp [Tr.h])) ?_
   rintro e w26 ⟨v, rfl, hL26, hv⟩
   refine ⟨_, rfl, ?_⟩
   have hz26 := hL26.size
   try simp only [pp]
   refine tk 4 v ?_
   simp only [pp]
   refine rl_end hgo <| hKK25 _ _ ?_
   refine wp_ret ?_
   try simp only [Exit.then, Exit.inBlock]
   refine bp_ret (v := v) (res1 rfl (res_tmp (by kernel_rfl))) ?_
   replace hB := hB.later hL26
   exact ⟨_, rfl, hB, .fork (.tip l) (.tip m), hv, ⟨⟨o1, o2⟩, ⟨o3, o4⟩, by simp [Tr.h], by simp [Tr.h]⟩, rfl, by simp [Tr.h], by simp [Tr.h]⟩
end Go.Proofs.YtliphfgiaioebaaDoor
