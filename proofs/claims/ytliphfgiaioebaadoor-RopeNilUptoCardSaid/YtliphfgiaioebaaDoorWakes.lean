/-
  Law 9: text, wakes.
-/
import Derived.Test.YtliphfgiaioebaaDoorFirst
namespace Go.Proofs.YtliphfgiaioebaaDoor
set_option linter.unusedVariables false
set_option linter.unusedSimpArgs false
open Go.RowKit
theorem bytes_blk {w : World} {B : Nat} {l : List UInt8} (h : Blk w B 5 (bvals l).toArray) : BytesAt w (some ⟨B, 0, none⟩) l := by
  rw [bytesAt_iff]
  intro h0
  refine ⟨B, 0, rfl, fun i v hi => ?_⟩
  rw [h.cell, Nat.zero_add, List.getElem?_toArray]; exact hi
theorem RopeAt.nn {w : World} {b : Nat} {l : List UInt8} (h : RopeAt w b l) : ∃ N v ot, N = w.heap.size ∧ RopeN N w b l v ot := by
  obtain ⟨v, ot, h⟩ := h.n
  exact ⟨_, v, ot, rfl, h⟩
set_option maxRecDepth 100000 in
set_option maxHeartbeats 8000000 in
theorem text_any (b : Nat) (l : List UInt8) (w : World) (hr : RopeAt w b l) (hm : l.length ≤ 1000000000) :
    Calls Tryd.prog 33 #[.pointer (some ⟨b, 0, none⟩)] w fun e w' => e = .returned (.string (bs l)) ∧ Ltr w w' := by
  have hB := Ltr.refl w
  have hb' := fun W (h : RopeAt W b l) => Bytes_in b l 0 l.length W h (Nat.zero_le _) (Nat.le_refl _) hm
  simp only [List.drop_zero, List.take_length] at hb'
  go_enter Tryd.func33, Tryd.ntmps33
  refine wp_seq_k fun KK1 hKK1 => ?_
  refine rl_begin fun hgK hgo => ?_
  refine rl_take (some 2) (.string { data := #[] }) rfl (by kernel_rfl) (by kernel_rfl) ?_
  try simp only [pa, pn, pb, pc, pd]
  refine rl_nil ?_
  refine hgo.out _ _ ?_
  clear hgo hgK
  refine hKK1 _ _ ?_
  refine wp_seq_k fun KK2 hKK2 => ?_
  refine rl_begin fun hgK hgo => ?_
  refine rl_take (some 6) (.pointer (some ⟨b, 0, none⟩)) rfl (by kernel_rfl) (by kernel_rfl) ?_
  try simp only [pa, pn, pb, pc, pd]
  refine rl_take (some 7) (.pointer (some ⟨b, 0, none⟩)) rfl (by kernel_rfl) (by kernel_rfl) ?_
  try simp only [pa, pn, pb, pc, pd]
  refine rl_call (some 8) 45 #[.pointer (some ⟨b, 0, none⟩)] rfl (by kernel_rfl) (by kernel_rfl) (Len_any b l _ hr) ?_
  rintro e w3 ⟨rfl, hL3⟩
  refine ⟨_, rfl, ?_⟩
  replace hB := hB.later hL3
  replace hr := hr.later hL3
  have hz3 := hL3.size
  try simp only [pa, pn, pb, pc, pd]
  refine rl_call (some 9) 44 #[.pointer (some ⟨b, 0, none⟩), .int .i64 0, .int .i64 l.length] rfl (by kernel_rfl) (by kernel_rfl) (hb' _ hr) ?_
  rintro e w4 ⟨A1, c1, rfl, hL4, hx⟩
  refine ⟨_, rfl, ?_⟩
  replace hB := hB.later hL4
  replace hr := hr.later hL4
  have hz4 := hL4.size
  (have hx := hx.bytes)
  try simp only [pa, pn, pb, pc, pd]
  refine rl_take (some 5) (.tuple #[.slice A1 l.length c1, .int .i64 0]) rfl (by kernel_rfl) (by kernel_rfl) ?_
  try simp only [pa, pn, pb, pc, pd]
  refine rl_take (some 10) (.slice A1 l.length c1) rfl (by kernel_rfl) (by kernel_rfl) ?_
  try simp only [pa, pn, pb, pc, pd]
  refine rl_take (some 11) (.int .i64 0) rfl (by kernel_rfl) (by kernel_rfl) ?_
  try simp only [pa, pn, pb, pc, pd]
  refine rl_take (some 3) (.slice A1 l.length c1) rfl (by kernel_rfl) (by kernel_rfl) ?_
  try simp only [pa, pn, pb, pc, pd]
  refine rl_take (some 4) (.int .i64 0) rfl (by kernel_rfl) (by kernel_rfl) ?_
  try simp only [pa, pn, pb, pc, pd]
  refine rl_nil ?_
  refine hgo.out _ _ ?_
  clear hgo hgK
  refine hKK2 _ _ ?_
  refine wp_seq_k fun KK5 hKK5 => ?_
  refine rl_begin fun hgK hgo => ?_
  refine rl_take (some 12) (.slice A1 l.length c1) rfl (by kernel_rfl) (by kernel_rfl) ?_
  try simp only [pa, pn, pb, pc, pd]
  refine rl_take (some 13) (.string (bs l)) rfl (by kernel_rfl) (by exact ex_conv_str _ rfl A1 c1 l rfl hx) ?_
  try simp only [pa, pn, pb, pc, pd]
  refine rl_take (some 2) (.string (bs l)) rfl (by kernel_rfl) (by kernel_rfl) ?_
  try simp only [pa, pn, pb, pc, pd]
  refine rl_nil ?_
  refine hgo.out _ _ ?_
  clear hgo hgK
  refine hKK5 _ _ ?_
  refine wp_ret ?_
  try simp only [Exit.then, Exit.inBlock]
  refine bp_ret (v := .string (bs l)) (res1 rfl (res_tmp (by kernel_rfl))) ?_
  exact ⟨rfl, hB⟩
set_option maxRecDepth 100000 in
set_option maxHeartbeats 8000000 in
theorem wakes1_any (q : List UInt8) (w : World) :
    Calls Tryd.prog 57 #[.agg #[.int .i64 q.length, .int .i64 (runesN q), .int .i64 (unitsN q), .int .i64 (endsN q), .string (bs (headOf q)), .string (bs (tailOf q))]] w fun e w' => e = .returned (.bool (decide (3 ≤ q.length))) ∧ Ltr w w' := by
  have hB := Ltr.refl w
  go_enter Tryd.func57, Tryd.ntmps57
  refine wp_seq_k fun KK1 hKK1 => ?_
  refine rl_begin fun hgK hgo => ?_
  refine rl_alloc (some 1) 36 #[.int .i64 q.length, .int .i64 (runesN q), .int .i64 (unitsN q), .int .i64 (endsN q), .string (bs (headOf q)), .string (bs (tailOf q))] rfl (by kernel_rfl) (fun W => by kernel_rfl) fun p w2 hL2 hp2 hp => ?_
  replace hB := hB.later hL2
  have hz2 := hL2.size
  have hlt2 := hp.lt
  try simp only [pa, pn, pb, pc, pd]
  refine rl_take (some 2) (.bool false) rfl (by kernel_rfl) (by kernel_rfl) ?_
  try simp only [pa, pn, pb, pc, pd]
  refine rl_nil ?_
  refine hgo.out _ _ ?_
  clear hgo hgK
  refine hKK1 _ _ ?_
  refine wp_seq_k fun KK3 hKK3 => ?_
  refine rl_begin fun hgK hgo => ?_
  refine rl_take (some 3) (.pointer (some ⟨p, 0, none⟩)) rfl (by kernel_rfl) (by kernel_rfl) ?_
  try simp only [pa, pn, pb, pc, pd]
  refine rl_take (some 4) (.pointer (some ⟨p, 0, none⟩)) rfl (by kernel_rfl) (by kernel_rfl) ?_
  try simp only [pa, pn, pb, pc, pd]
  refine rl_take (some 5) (.int .i64 q.length) rfl (by kernel_rfl) (by exact ld1 3 _ rfl p 0 rfl (fun _ => by kernel_rfl) _ (hp.cell 0)) ?_
  try simp only [pa, pn, pb, pc, pd]
  by_cases h : (q.length : Int) ≥ 3
  · refine rl_take (some 6) (.bool true) rfl (by kernel_rfl) (by exact ex_bool (c := (q.length : Int) ≥ 3) (by kernel_rfl) ⟨fun _ => by omega, fun _ => rfl⟩) ?_
    try simp only [pa, pn, pb, pc, pd]
    refine rl_take (some 2) (.bool true) rfl (by kernel_rfl) (by kernel_rfl) ?_
    try simp only [pa, pn, pb, pc, pd]
    refine rl_nil ?_
    refine hgo.out _ _ ?_
    clear hgo hgK
    refine hKK3 _ _ ?_
    refine wp_ret ?_
    try simp only [Exit.then, Exit.inBlock]
    refine bp_ret (v := .bool true) (res1 rfl (res_tmp (by kernel_rfl))) ?_
    exact ⟨by rw [decide_eq_true (by omega)], hB⟩
  · refine rl_take (some 6) (.bool false) rfl (by kernel_rfl) (by exact ex_bool (c := (q.length : Int) ≥ 3) (by kernel_rfl) ⟨fun q => (by cases q), fun q => absurd q (by omega)⟩) ?_
    try simp only [pa, pn, pb, pc, pd]
    refine rl_take (some 2) (.bool false) rfl (by kernel_rfl) (by kernel_rfl) ?_
    try simp only [pa, pn, pb, pc, pd]
    refine rl_nil ?_
    refine hgo.out _ _ ?_
    clear hgo hgK
    refine hKK3 _ _ ?_
    refine wp_ret ?_
    try simp only [Exit.then, Exit.inBlock]
    refine bp_ret (v := .bool false) (res1 rfl (res_tmp (by kernel_rfl))) ?_
    exact ⟨by rw [decide_eq_false (by omega)], hB⟩
theorem wakes1_asks (n : Nat) (l : List UInt8) : Asks 57 #[] n n l (fun q => decide (3 ≤ q.length)) (fun _ => True) :=
  ⟨fun _ _ _ _ _ => trivial, enters_of Tryd.func57 (by kernel_rfl) rfl, fun q r W _ _ _ _ => (wakes1_any q W).mono fun e w' h => by
    obtain ⟨rfl, hl⟩ := h
    by_cases h3 : 3 ≤ q.length
    · exact .inl ⟨by rw [decide_eq_true h3], decide_eq_true h3, hl.toMid, trivial⟩
    · exact .inr ⟨by rw [decide_eq_false h3], decide_eq_false h3, hl.toMid, trivial⟩⟩
def hello : List UInt8 := [104, 195, 169, 108, 108, 111]
theorem first3 (n b : Nat) (v : Value) (ot : Option Tr) (w : World) (hT : Tabs w) (h4 : 4 ≤ n) (hr : RopeN n w b hello v ot) :
    Calls Tryd.prog 21 #[.pointer (some ⟨b, 0, none⟩), .func (.func 57) #[] #[]] w fun e w' => e = .returned (.int .i64 3) ∧ Ltr w w' :=
  (First_any _ #[] n n b hello v ot _ _ (wakes1_asks n hello) w hT h4 (Nat.le_refl _) hr.1 hr trivial (by decide)).mono fun e w' h => by
    obtain ⟨h1, h2, -⟩ := h
    refine ⟨?_, h2.ltr⟩
    rcases h1 with ⟨rfl, -, h3 | h3⟩ | ⟨q, r, hqr, rfl, hp, rfl | ⟨q', hq', -, hp'⟩⟩
    · cases h3
    · simp [hello] at h3
    · simp at hp
    · simp only [decide_eq_true_eq, decide_eq_false_iff_not] at hp hp'
      rw [show q.length = 3 by omega]; rfl
theorem ex_ne_lit {o : Oper} {ρ : Operand → Value} {w : World} {a b : List UInt8} (h : (execOp ρ o).run Tryd.prog w = .ok (.value (.bool (!((bs a).toList == (bs b).toList)))) w) (he : a = b) : (execOp ρ o).run Tryd.prog w = .ok (.value (.bool false)) w := by
  rw [ex_ne_bs h, he]; simp
theorem pcok_len {ps : List (List UInt8)} {pre : List Pc} (h : PcOk ps pre) : ((pre.map pcB).flatten).length ≤ ps.flatten.length := by
  obtain ⟨r, rfl⟩ := h
  rw [List.flatten_append, List.length_append]; omega
theorem flat3 {ps : List (List UInt8)} (h : ps.reverse.flatten = hello.take 3) : ps.flatten.length = 3 := by
  have h1 := congrArg List.length h
  rw [List.length_flatten, List.map_reverse, List.sum_reverse] at h1
  rw [List.length_flatten, h1]; rfl
/-- a string constant's bytes: the row is marked behind its end -/
theorem ex_mark {o : Oper} {ρ : Operand → Value} {x : Operand} {B n : Nat} (ho : o.op = .convert 41 41 x) (l : List UInt8) (hx : ρ x = .slice (some ⟨B, 0, none⟩) n n) {w : World} (hb : Blk w B 5 (bvals l).toArray) (hn : n = l.length) (h0 : 0 < n) :
    ∃ v w', (execOp ρ o).run Tryd.prog w = .ok (.value v) w' ∧ v = .slice (some ⟨B, 0, none⟩) n n ∧ Upd B w w' ∧ BytesAt w' (some ⟨B, 0, none⟩) l := by
  have hsh : w.shape? B = some (5, l.length) := by
    unfold World.shape?; rw [show w.heap[B]? = _ from hb]; simp [bvals]
  have hr : (convert 41 41 (.slice (some ⟨B, 0, none⟩) n n)).run Tryd.prog w = .ok (.slice (some ⟨B, 0, none⟩) n n) (w.freeze ⟨B, l.length, none⟩ 1) := by
    simp [convert, run_underlying (show Tryd.prog.underlying 41 = some (.slice 5) by kernel_rfl), run_underlying (show Tryd.prog.underlying 5 = some (.int .u8) by kernel_rfl), markStringish, hsh, Sem.run_bind, Result.andThen]
  refine ⟨_, w.freeze ⟨B, l.length, none⟩ 1, ?_, rfl, ?_, ?_⟩
  · unfold execOp
    simp only [ho, hx, Sem.run_bind, hr, Result.andThen_ok, Sem.run_pure]
  · refine ⟨rfl, rfl, rfl, by simp [World.freeze], fun k hk => ?_⟩
    simp [World.freeze, Array.getElem?_modify, Ne.symm hk]
  · intro _
    refine ⟨B, 0, rfl, fun i hi => ?_⟩
    have h1 : (w.freeze ⟨B, l.length, none⟩ 1).heap[B]? = some (.cells (bvals l).toArray 5 (l.length, l.length + 1)) := by
      have h2 : w.heap[B]? = some (.cells (bvals l).toArray 5) := hb
      simp [World.freeze, Array.getElem?_modify, h2]
    have h3 := bvals_get l i hi
    simp [World.cell?, h1, h3]
set_option maxRecDepth 100000 in
set_option maxHeartbeats 16000000 in
theorem wakes_any (w : World) (hT : Tabs w) : Calls Tryd.prog 17 #[] w fun e w' => e = .returned (.bool true) ∧ Ltr w w' := by
  have hB := Ltr.refl w
  have hdep : ∀ {d : Nat}, (0 < hello.length → ∃ t : Tr, t.ok ∧ t.bytes = hello ∧ t.h = d) → 1 ≤ d := fun h => by
    obtain ⟨t, -, -, rfl⟩ := h (by decide)
    exact t.h_pos
  refine (callsIn_wide (n := 0)).1 ?_
  refine callsIn_of_wp_marks Tryd.func17 rfl trivial ?_ rfl
  simp only [Tryd.ntmps17, List.size_toArray, List.length_cons, List.length_nil, Nat.reduceAdd, Nat.reduceSub, Array.replicate_succ, Array.replicate_zero, List.push_toArray, List.append_toArray, List.nil_append, List.cons_append]
  refine (wpIn_wide (n := 0)).2 ?_
  have h4 := hT.four
  refine wp_seq_k fun KK1 hKK1 => ?_
  refine rl_begin fun hgK hgo => ?_
  refine rl_take (some 0) (.bool false) rfl (by kernel_rfl) (by kernel_rfl) ?_
  try simp only [pa, pn, pb, pc, pd]
  refine rl_nil ?_
  refine hgo.out _ _ ?_
  clear hgo hgK
  refine hKK1 _ _ ?_
  refine wp_seq_k fun KK2 hKK2 => ?_
  refine rl_begin fun hgK hgo => ?_
  refine rl_bslice (some 16) 5 #[.int .u8 104, .int .u8 195, .int .u8 169, .int .u8 108, .int .u8 108, .int .u8 111] 6 rfl (by kernel_rfl) (fun W => by kernel_rfl) fun z w3 hL3 hp3 hz => ?_
  replace hT := hT.later hL3
  replace hB := hB.later hL3
  have hz3 := hL3.size
  have hlt3 := hz.lt
  try simp only [pa, pn, pb, pc, pd]
  refine rl_new (some 17) rfl (by kernel_rfl) (ex_mark rfl hello rfl hz rfl (by decide)) ?_
  rintro v4 w4 ⟨rfl, hU4, hzb⟩
  replace hT := hT.upd hU4 (by omega)
  replace hB := hB.upd hU4 (by omega)
  have hz4 := hU4.size
  try simp only [pa, pn, pb, pc, pd]
  refine rl_call (some 18) 36 #[.slice (some ⟨z, 0, none⟩) 6 6] rfl (by kernel_rfl) (by kernel_rfl) (New_any (some ⟨z, 0, none⟩) 6 hello _ hT hzb (by decide) (by decide)) ?_
  rintro e w5 ⟨r1, rfl, hL5, hr1, hn1⟩
  refine ⟨_, rfl, ?_⟩
  replace hT := hT.later hL5
  replace hB := hB.later hL5
  replace hzb := hzb.later hL5
  have hz5 := hL5.size
  (obtain ⟨N1, v1, t1, hN1, hr1⟩ := hr1.nn)
  try simp only [pa, pn, pb, pc, pd]
  refine rl_take (some 15) (.tuple #[.pointer (some ⟨r1, 0, none⟩), .int .i64 0]) rfl (by kernel_rfl) (by kernel_rfl) ?_
  try simp only [pa, pn, pb, pc, pd]
  refine rl_take (some 19) (.pointer (some ⟨r1, 0, none⟩)) rfl (by kernel_rfl) (by kernel_rfl) ?_
  try simp only [pa, pn, pb, pc, pd]
  refine rl_take (some 20) (.int .i64 0) rfl (by kernel_rfl) (by kernel_rfl) ?_
  try simp only [pa, pn, pb, pc, pd]
  refine rl_take (some 1) (.pointer (some ⟨r1, 0, none⟩)) rfl (by kernel_rfl) (by kernel_rfl) ?_
  try simp only [pa, pn, pb, pc, pd]
  refine rl_take (some 2) (.int .i64 0) rfl (by kernel_rfl) (by kernel_rfl) ?_
  try simp only [pa, pn, pb, pc, pd]
  refine rl_nil ?_
  refine hgo.out _ _ ?_
  clear hgo hgK
  refine hKK2 _ _ ?_
  refine wp_seq_k fun KK6 hKK6 => ?_
  refine wp_seq_k fun KK7 hKK7 => ?_
  refine rl_begin fun hgK hgo => ?_
  refine rl_take (some 21) (.int .i64 0) rfl (by kernel_rfl) (by kernel_rfl) ?_
  try simp only [pa, pn, pb, pc, pd]
  refine rl_take (some 22) (.bool false) rfl (by kernel_rfl) (by exact ex_bne (x := 0) (y := 0) (by kernel_rfl) ⟨fun q => (by cases q), fun q => absurd q (by omega)⟩) ?_
  try simp only [pa, pn, pb, pc, pd]
  refine rl_take (some 23) (.bool false) rfl (by kernel_rfl) (by kernel_rfl) ?_
  try simp only [pa, pn, pb, pc, pd]
  refine rl_take (some 24) (.pointer (some ⟨r1, 0, none⟩)) rfl (by kernel_rfl) (by kernel_rfl) ?_
  try simp only [pa, pn, pb, pc, pd]
  refine rl_take (some 25) (.bool false) rfl (by kernel_rfl) (by kernel_rfl) ?_
  try simp only [pa, pn, pb, pc, pd]
  refine rl_take (some 26) (.bool false) rfl (by kernel_rfl) (by kernel_rfl) ?_
  try simp only [pa, pn, pb, pc, pd]
  refine rl_take (some 27) (.bool false) rfl (by kernel_rfl) (by kernel_rfl) ?_
  try simp only [pa, pn, pb, pc, pd]
  refine rl_take (some 28) (.pointer (some ⟨r1, 0, none⟩)) rfl (by kernel_rfl) (by kernel_rfl) ?_
  try simp only [pa, pn, pb, pc, pd]
  refine rl_call (some 29) 45 #[.pointer (some ⟨r1, 0, none⟩)] rfl (by kernel_rfl) (by kernel_rfl) (Len_any r1 hello _ hr1.at) ?_
  rintro e w8 ⟨rfl, hL8⟩
  refine ⟨_, rfl, ?_⟩
  replace hT := hT.later hL8
  replace hB := hB.later hL8
  replace hzb := hzb.later hL8
  replace hr1 := hr1.later hL8
  have hz8 := hL8.size
  try simp only [pa, pn, pb, pc, pd]
  refine rl_take (some 30) (.bool false) rfl (by kernel_rfl) (by exact ex_bne (x := 6) (y := 6) (by kernel_rfl) ⟨fun q => (by cases q), fun q => absurd q (by omega)⟩) ?_
  try simp only [pa, pn, pb, pc, pd]
  refine rl_take (some 31) (.bool false) rfl (by kernel_rfl) (by kernel_rfl) ?_
  try simp only [pa, pn, pb, pc, pd]
  refine rl_take (some 32) (.bool false) rfl (by kernel_rfl) (by kernel_rfl) ?_
  try simp only [pa, pn, pb, pc, pd]
  refine rl_take (some 33) (.pointer (some ⟨r1, 0, none⟩)) rfl (by kernel_rfl) (by kernel_rfl) ?_
  try simp only [pa, pn, pb, pc, pd]
  refine rl_call (some 34) 41 #[.pointer (some ⟨r1, 0, none⟩)] rfl (by kernel_rfl) (by kernel_rfl) (RWeld_any r1 hello _ hT hr1.at) ?_
  rintro e w9 ⟨rfl, hL9⟩
  refine ⟨_, rfl, ?_⟩
  replace hT := hT.later hL9
  replace hB := hB.later hL9
  replace hzb := hzb.later hL9
  replace hr1 := hr1.later hL9
  have hz9 := hL9.size
  try simp only [pa, pn, pb, pc, pd]
  refine rl_take (some 35) (.agg #[.int .i64 6, .int .i64 5, .int .i64 5, .int .i64 0]) rfl (by kernel_rfl) (by kernel_rfl) ?_
  try simp only [pa, pn, pb, pc, pd]
  refine rl_take (some 36) (.agg #[.int .i64 6, .int .i64 5, .int .i64 5, .int .i64 0]) rfl (by kernel_rfl) (by kernel_rfl) ?_
  try simp only [pa, pn, pb, pc, pd]
  refine rl_take (some 37) (.bool false) rfl (by kernel_rfl) (by kernel_rfl) ?_
  try simp only [pa, pn, pb, pc, pd]
  refine rl_take (some 38) (.bool false) rfl (by kernel_rfl) (by kernel_rfl) ?_
  try simp only [pa, pn, pb, pc, pd]
  refine rl_take (some 39) (.bool false) rfl (by kernel_rfl) (by kernel_rfl) ?_
  try simp only [pa, pn, pb, pc, pd]
  refine rl_take (some 40) (.pointer (some ⟨r1, 0, none⟩)) rfl (by kernel_rfl) (by kernel_rfl) ?_
  try simp only [pa, pn, pb, pc, pd]
  refine rl_call (some 41) 33 #[.pointer (some ⟨r1, 0, none⟩)] rfl (by kernel_rfl) (by kernel_rfl) (text_any r1 hello _ hr1.at (by decide)) ?_
  rintro e w10 ⟨rfl, hL10⟩
  refine ⟨_, rfl, ?_⟩
  replace hT := hT.later hL10
  replace hB := hB.later hL10
  replace hzb := hzb.later hL10
  replace hr1 := hr1.later hL10
  have hz10 := hL10.size
  try simp only [pa, pn, pb, pc, pd]
  refine rl_take (some 42) (.bool false) rfl (by kernel_rfl) (by exact ex_ne_lit (a := hello) (b := hello) (by kernel_rfl) rfl) ?_
  try simp only [pa, pn, pb, pc, pd]
  refine rl_take (some 43) (.bool false) rfl (by kernel_rfl) (by kernel_rfl) ?_
  try simp only [pa, pn, pb, pc, pd]
  refine rl_take (some 44) (.bool false) rfl (by kernel_rfl) (by kernel_rfl) ?_
  try simp only [pa, pn, pb, pc, pd]
  refine rl_take (some 45) (.pointer (some ⟨r1, 0, none⟩)) rfl (by kernel_rfl) (by kernel_rfl) ?_
  try simp only [pa, pn, pb, pc, pd]
  refine rl_call (some 46) 34 #[.pointer (some ⟨r1, 0, none⟩)] rfl (by kernel_rfl) (by kernel_rfl) (Depth_any r1 hello _ hr1.at) ?_
  rintro e w11 ⟨dd, rfl, hL11, hd1, hd2⟩
  refine ⟨_, rfl, ?_⟩
  replace hT := hT.later hL11
  replace hB := hB.later hL11
  replace hzb := hzb.later hL11
  replace hr1 := hr1.later hL11
  have hz11 := hL11.size
  (have hd3 := hdep hd2)
  try simp only [pa, pn, pb, pc, pd]
  refine rl_take (some 47) (.bool false) rfl (by kernel_rfl) (by exact ex_bool (c := (dd : Int) < 1) (by kernel_rfl) ⟨fun q => (by cases q), fun q => absurd q (by omega)⟩) ?_
  try simp only [pa, pn, pb, pc, pd]
  refine rl_take (some 48) (.bool false) rfl (by kernel_rfl) (by kernel_rfl) ?_
  try simp only [pa, pn, pb, pc, pd]
  refine rl_nil ?_
  refine hgo.out _ _ ?_
  clear hgo hgK
  refine hKK7 _ _ ?_
  refine wp_cond_false (by kernel_rfl) ?_
  refine wp_skip ?_
  refine hKK6 _ _ ?_
  refine wp_seq_k fun KK12 hKK12 => ?_
  refine rl_begin fun hgK hgo => ?_
  refine rl_take (some 50) (.pointer (some ⟨r1, 0, none⟩)) rfl (by kernel_rfl) (by kernel_rfl) ?_
  try simp only [pa, pn, pb, pc, pd]
  refine rl_call (some 51) 39 #[.pointer (some ⟨r1, 0, none⟩), .int .i64 2] rfl (by kernel_rfl) (by kernel_rfl) (RSplit_any r1 hello 2 _ hT hr1.at (by decide) (by decide)) ?_
  rintro e w13 ⟨r2, r3, rfl, hL13, hr2, hr3, hn2, hn3⟩
  refine ⟨_, rfl, ?_⟩
  replace hT := hT.later hL13
  replace hB := hB.later hL13
  replace hzb := hzb.later hL13
  replace hr1 := hr1.later hL13
  have hz13 := hL13.size
  (obtain ⟨N2, v2, t2, hN2, hr2⟩ := hr2.nn); (obtain ⟨N3, v3, t3, hN3, hr3⟩ := hr3.nn)
  try simp only [pa, pn, pb, pc, pd]
  refine rl_take (some 49) (.tuple #[.pointer (some ⟨r2, 0, none⟩), .pointer (some ⟨r3, 0, none⟩), .int .i64 0]) rfl (by kernel_rfl) (by kernel_rfl) ?_
  try simp only [pa, pn, pb, pc, pd]
  refine rl_take (some 52) (.pointer (some ⟨r2, 0, none⟩)) rfl (by kernel_rfl) (by kernel_rfl) ?_
  try simp only [pa, pn, pb, pc, pd]
  refine rl_take (some 53) (.pointer (some ⟨r3, 0, none⟩)) rfl (by kernel_rfl) (by kernel_rfl) ?_
  try simp only [pa, pn, pb, pc, pd]
  refine rl_take (some 54) (.int .i64 0) rfl (by kernel_rfl) (by kernel_rfl) ?_
  try simp only [pa, pn, pb, pc, pd]
  refine rl_take (some 3) (.pointer (some ⟨r2, 0, none⟩)) rfl (by kernel_rfl) (by kernel_rfl) ?_
  try simp only [pa, pn, pb, pc, pd]
  refine rl_take (some 4) (.pointer (some ⟨r3, 0, none⟩)) rfl (by kernel_rfl) (by kernel_rfl) ?_
  try simp only [pa, pn, pb, pc, pd]
  refine rl_take (some 5) (.int .i64 0) rfl (by kernel_rfl) (by kernel_rfl) ?_
  try simp only [pa, pn, pb, pc, pd]
  refine rl_nil ?_
  refine hgo.out _ _ ?_
  clear hgo hgK
  refine hKK12 _ _ ?_
  refine wp_seq_k fun KK14 hKK14 => ?_
  refine wp_seq_k fun KK15 hKK15 => ?_
  refine rl_begin fun hgK hgo => ?_
  refine rl_take (some 55) (.int .i64 0) rfl (by kernel_rfl) (by kernel_rfl) ?_
  try simp only [pa, pn, pb, pc, pd]
  refine rl_take (some 56) (.bool false) rfl (by kernel_rfl) (by exact ex_bne (x := 0) (y := 0) (by kernel_rfl) ⟨fun q => (by cases q), fun q => absurd q (by omega)⟩) ?_
  try simp only [pa, pn, pb, pc, pd]
  refine rl_take (some 57) (.bool false) rfl (by kernel_rfl) (by kernel_rfl) ?_
  try simp only [pa, pn, pb, pc, pd]
  refine rl_take (some 58) (.pointer (some ⟨r2, 0, none⟩)) rfl (by kernel_rfl) (by kernel_rfl) ?_
  try simp only [pa, pn, pb, pc, pd]
  refine rl_call (some 59) 33 #[.pointer (some ⟨r2, 0, none⟩)] rfl (by kernel_rfl) (by kernel_rfl) (text_any r2 _ _ hr2.at (by decide)) ?_
  rintro e w16 ⟨rfl, hL16⟩
  refine ⟨_, rfl, ?_⟩
  replace hT := hT.later hL16
  replace hB := hB.later hL16
  replace hzb := hzb.later hL16
  replace hr1 := hr1.later hL16
  replace hr2 := hr2.later hL16
  replace hr3 := hr3.later hL16
  have hz16 := hL16.size
  try simp only [pa, pn, pb, pc, pd]
  refine rl_take (some 60) (.bool false) rfl (by kernel_rfl) (by exact ex_ne_lit (a := hello.take 2) (b := [104, 195]) (by kernel_rfl) rfl) ?_
  try simp only [pa, pn, pb, pc, pd]
  refine rl_take (some 61) (.bool false) rfl (by kernel_rfl) (by kernel_rfl) ?_
  try simp only [pa, pn, pb, pc, pd]
  refine rl_take (some 62) (.bool false) rfl (by kernel_rfl) (by kernel_rfl) ?_
  try simp only [pa, pn, pb, pc, pd]
  refine rl_take (some 63) (.pointer (some ⟨r3, 0, none⟩)) rfl (by kernel_rfl) (by kernel_rfl) ?_
  try simp only [pa, pn, pb, pc, pd]
  refine rl_call (some 64) 33 #[.pointer (some ⟨r3, 0, none⟩)] rfl (by kernel_rfl) (by kernel_rfl) (text_any r3 _ _ hr3.at (by decide)) ?_
  rintro e w17 ⟨rfl, hL17⟩
  refine ⟨_, rfl, ?_⟩
  replace hT := hT.later hL17
  replace hB := hB.later hL17
  replace hzb := hzb.later hL17
  replace hr1 := hr1.later hL17
  replace hr2 := hr2.later hL17
  replace hr3 := hr3.later hL17
  have hz17 := hL17.size
  try simp only [pa, pn, pb, pc, pd]
  refine rl_take (some 65) (.bool false) rfl (by kernel_rfl) (by exact ex_ne_lit (a := hello.drop 2) (b := [169, 108, 108, 111]) (by kernel_rfl) rfl) ?_
  try simp only [pa, pn, pb, pc, pd]
  refine rl_take (some 66) (.bool false) rfl (by kernel_rfl) (by kernel_rfl) ?_
  try simp only [pa, pn, pb, pc, pd]
  refine rl_nil ?_
  refine hgo.out _ _ ?_
  clear hgo hgK
  refine hKK15 _ _ ?_
  refine wp_cond_false (by kernel_rfl) ?_
  refine wp_skip ?_
  refine hKK14 _ _ ?_
  refine wp_seq_k fun KK18 hKK18 => ?_
  refine rl_begin fun hgK hgo => ?_
  refine rl_take (some 68) (.pointer (some ⟨r2, 0, none⟩)) rfl (by kernel_rfl) (by kernel_rfl) ?_
  try simp only [pa, pn, pb, pc, pd]
  refine rl_take (some 69) (.pointer (some ⟨r3, 0, none⟩)) rfl (by kernel_rfl) (by kernel_rfl) ?_
  try simp only [pa, pn, pb, pc, pd]
  refine rl_call (some 70) 42 #[.pointer (some ⟨r2, 0, none⟩), .pointer (some ⟨r3, 0, none⟩)] rfl (by kernel_rfl) (by kernel_rfl) (RJoin_any r2 r3 _ _ _ hT hr2.at hr3.at (by decide)) ?_
  rintro e w19 ⟨r4, rfl, hL19, hr4, hn4⟩
  refine ⟨_, rfl, ?_⟩
  replace hT := hT.later hL19
  replace hB := hB.later hL19
  replace hzb := hzb.later hL19
  replace hr1 := hr1.later hL19
  replace hr2 := hr2.later hL19
  replace hr3 := hr3.later hL19
  have hz19 := hL19.size
  (obtain ⟨N4, v4, t4, hN4, hr4⟩ := hr4.nn)
  try simp only [pa, pn, pb, pc, pd]
  refine rl_take (some 67) (.tuple #[.pointer (some ⟨r4, 0, none⟩), .int .i64 0]) rfl (by kernel_rfl) (by kernel_rfl) ?_
  try simp only [pa, pn, pb, pc, pd]
  refine rl_take (some 71) (.pointer (some ⟨r4, 0, none⟩)) rfl (by kernel_rfl) (by kernel_rfl) ?_
  try simp only [pa, pn, pb, pc, pd]
  refine rl_take (some 72) (.int .i64 0) rfl (by kernel_rfl) (by kernel_rfl) ?_
  try simp only [pa, pn, pb, pc, pd]
  refine rl_take (some 6) (.pointer (some ⟨r4, 0, none⟩)) rfl (by kernel_rfl) (by kernel_rfl) ?_
  try simp only [pa, pn, pb, pc, pd]
  refine rl_take (some 7) (.int .i64 0) rfl (by kernel_rfl) (by kernel_rfl) ?_
  try simp only [pa, pn, pb, pc, pd]
  refine rl_nil ?_
  refine hgo.out _ _ ?_
  clear hgo hgK
  refine hKK18 _ _ ?_
  refine wp_seq_k fun KK20 hKK20 => ?_
  refine rl_begin fun hgK hgo => ?_
  refine rl_take (some 74) (.pointer (some ⟨r1, 0, none⟩)) rfl (by kernel_rfl) (by kernel_rfl) ?_
  try simp only [pa, pn, pb, pc, pd]
  refine rl_bslice (some 75) 5 #[.int .u8 10] 1 rfl (by kernel_rfl) (fun W => by kernel_rfl) fun y w21 hL21 hp21 hy => ?_
  replace hT := hT.later hL21
  replace hB := hB.later hL21
  replace hzb := hzb.later hL21
  replace hr1 := hr1.later hL21
  replace hr2 := hr2.later hL21
  replace hr3 := hr3.later hL21
  replace hr4 := hr4.later hL21
  have hz21 := hL21.size
  have hlt21 := hy.lt
  try simp only [pa, pn, pb, pc, pd]
  refine rl_new (some 76) rfl (by kernel_rfl) (ex_mark rfl [10] rfl hy rfl (by decide)) ?_
  rintro v22 w22 ⟨rfl, hU22, hyb⟩
  replace hT := hT.upd hU22 (by omega)
  replace hB := hB.upd hU22 (by omega)
  replace hr1 := hr1.upd hU22 (by omega)
  replace hr2 := hr2.upd hU22 (by omega)
  replace hr3 := hr3.upd hU22 (by omega)
  replace hr4 := hr4.upd hU22 (by omega)
  have hz22 := hU22.size
  try simp only [pa, pn, pb, pc, pd]
  refine rl_call (some 77) 37 #[.pointer (some ⟨r1, 0, none⟩), .int .i64 2, .int .i64 3, .slice (some ⟨y, 0, none⟩) 1 1] rfl (by kernel_rfl) (by kernel_rfl) (Replace_any r1 hello 2 3 (some ⟨y, 0, none⟩) 1 [10] _ hT hr1.at (by decide) (by decide) hyb (by decide) (by decide)) ?_
  rintro e w23 ⟨r5, rfl, hL23, hr5, hn5⟩
  refine ⟨_, rfl, ?_⟩
  replace hT := hT.later hL23
  replace hB := hB.later hL23
  replace hr1 := hr1.later hL23
  replace hr2 := hr2.later hL23
  replace hr3 := hr3.later hL23
  replace hr4 := hr4.later hL23
  replace hyb := hyb.later hL23
  have hz23 := hL23.size
  (obtain ⟨N5, v5, t5, hN5, hr5⟩ := hr5.nn)
  clear hyb
  try simp only [pa, pn, pb, pc, pd]
  refine rl_take (some 73) (.tuple #[.pointer (some ⟨r5, 0, none⟩), .int .i64 0]) rfl (by kernel_rfl) (by kernel_rfl) ?_
  try simp only [pa, pn, pb, pc, pd]
  refine rl_take (some 78) (.pointer (some ⟨r5, 0, none⟩)) rfl (by kernel_rfl) (by kernel_rfl) ?_
  try simp only [pa, pn, pb, pc, pd]
  refine rl_take (some 79) (.int .i64 0) rfl (by kernel_rfl) (by kernel_rfl) ?_
  try simp only [pa, pn, pb, pc, pd]
  refine rl_take (some 8) (.pointer (some ⟨r5, 0, none⟩)) rfl (by kernel_rfl) (by kernel_rfl) ?_
  try simp only [pa, pn, pb, pc, pd]
  refine rl_take (some 9) (.int .i64 0) rfl (by kernel_rfl) (by kernel_rfl) ?_
  try simp only [pa, pn, pb, pc, pd]
  refine rl_nil ?_
  refine hgo.out _ _ ?_
  clear hgo hgK
  refine hKK20 _ _ ?_
  refine wp_seq_k fun KK24 hKK24 => ?_
  refine rl_begin fun hgK hgo => ?_
  refine rl_take (some 81) (.pointer (some ⟨r1, 0, none⟩)) rfl (by kernel_rfl) (by kernel_rfl) ?_
  try simp only [pa, pn, pb, pc, pd]
  refine rl_call (some 82) 43 #[.pointer (some ⟨r1, 0, none⟩), .int .i64 2] rfl (by kernel_rfl) (by kernel_rfl) (Before_1 r1 hello 2 _ hT hr1.at (by decide) (by decide) (by decide)) ?_
  rintro e w25 ⟨rfl, hL25⟩
  refine ⟨_, rfl, ?_⟩
  replace hT := hT.later hL25
  replace hB := hB.later hL25
  replace hr1 := hr1.later hL25
  replace hr2 := hr2.later hL25
  replace hr3 := hr3.later hL25
  replace hr4 := hr4.later hL25
  replace hr5 := hr5.later hL25
  have hz25 := hL25.size
  try simp only [pa, pn, pb, pc, pd]
  refine rl_take (some 80) (.tuple #[.agg #[.int .i64 (hello.take 2).length, .int .i64 (runesN (hello.take 2)), .int .i64 (unitsN (hello.take 2)), .int .i64 (endsN (hello.take 2)), .string (bs (headOf (hello.take 2))), .string (bs (tailOf (hello.take 2)))], .int .i64 0]) rfl (by kernel_rfl) (by kernel_rfl) ?_
  try simp only [pa, pn, pb, pc, pd]
  refine rl_take (some 83) (.agg #[.int .i64 (hello.take 2).length, .int .i64 (runesN (hello.take 2)), .int .i64 (unitsN (hello.take 2)), .int .i64 (endsN (hello.take 2)), .string (bs (headOf (hello.take 2))), .string (bs (tailOf (hello.take 2)))]) rfl (by kernel_rfl) (by kernel_rfl) ?_
  try simp only [pa, pn, pb, pc, pd]
  refine rl_take (some 84) (.int .i64 0) rfl (by kernel_rfl) (by kernel_rfl) ?_
  try simp only [pa, pn, pb, pc, pd]
  refine rl_alloc (some 10) 36 #[.int .i64 0, .int .i64 0, .int .i64 0, .int .i64 0, .string ⟨#[]⟩, .string ⟨#[]⟩] rfl (by kernel_rfl) (fun W => by kernel_rfl) fun ww w26 hL26 hp26 hww => ?_
  replace hT := hT.later hL26
  replace hB := hB.later hL26
  replace hr1 := hr1.later hL26
  replace hr2 := hr2.later hL26
  replace hr3 := hr3.later hL26
  replace hr4 := hr4.later hL26
  replace hr5 := hr5.later hL26
  have hz26 := hL26.size
  have hlt26 := hww.lt
  try simp only [pa, pn, pb, pc, pd]
  refine rl_store ww #[.int .i64 (hello.take 2).length, .int .i64 (runesN (hello.take 2)), .int .i64 (unitsN (hello.take 2)), .int .i64 (endsN (hello.take 2)), .string (bs (headOf (hello.take 2))), .string (bs (tailOf (hello.take 2)))] rfl rfl (by kernel_rfl) rfl rfl (by kernel_rfl) hww rfl (by kernel_rfl) fun w27 hU27 hn27 => ?_
  have hz27 := hU27.size
  replace hT := hT.upd hU27 (by omega)
  replace hB := hB.upd hU27 (by omega)
  replace hr1 := hr1.upd hU27 (by omega)
  replace hr2 := hr2.upd hU27 (by omega)
  replace hr3 := hr3.upd hU27 (by omega)
  replace hr4 := hr4.upd hU27 (by omega)
  replace hr5 := hr5.upd hU27 (by omega)
  clear hww
  have hww := hn27
  clear hn27
  try simp only [pa, pn, pb, pc, pd]
  refine rl_take (some 11) (.int .i64 0) rfl (by kernel_rfl) (by kernel_rfl) ?_
  try simp only [pa, pn, pb, pc, pd]
  refine rl_nil ?_
  refine hgo.out _ _ ?_
  clear hgo hgK
  refine hKK24 _ _ ?_
  refine wp_seq_k fun KK28 hKK28 => ?_
  refine wp_seq_k fun KK29 hKK29 => ?_
  refine rl_begin fun hgK hgo => ?_
  refine rl_take (some 85) (.int .i64 0) rfl (by kernel_rfl) (by kernel_rfl) ?_
  try simp only [pa, pn, pb, pc, pd]
  refine rl_take (some 86) (.bool false) rfl (by kernel_rfl) (by exact ex_bne (x := 0) (y := 0) (by kernel_rfl) ⟨fun q => (by cases q), fun q => absurd q (by omega)⟩) ?_
  try simp only [pa, pn, pb, pc, pd]
  refine rl_take (some 87) (.bool false) rfl (by kernel_rfl) (by kernel_rfl) ?_
  try simp only [pa, pn, pb, pc, pd]
  refine rl_take (some 88) (.int .i64 0) rfl (by kernel_rfl) (by kernel_rfl) ?_
  try simp only [pa, pn, pb, pc, pd]
  refine rl_take (some 89) (.bool false) rfl (by kernel_rfl) (by exact ex_bne (x := 0) (y := 0) (by kernel_rfl) ⟨fun q => (by cases q), fun q => absurd q (by omega)⟩) ?_
  try simp only [pa, pn, pb, pc, pd]
  refine rl_take (some 90) (.bool false) rfl (by kernel_rfl) (by kernel_rfl) ?_
  try simp only [pa, pn, pb, pc, pd]
  refine rl_take (some 91) (.bool false) rfl (by kernel_rfl) (by kernel_rfl) ?_
  try simp only [pa, pn, pb, pc, pd]
  refine rl_take (some 92) (.int .i64 0) rfl (by kernel_rfl) (by kernel_rfl) ?_
  try simp only [pa, pn, pb, pc, pd]
  refine rl_take (some 93) (.bool false) rfl (by kernel_rfl) (by exact ex_bne (x := 0) (y := 0) (by kernel_rfl) ⟨fun q => (by cases q), fun q => absurd q (by omega)⟩) ?_
  try simp only [pa, pn, pb, pc, pd]
  refine rl_take (some 94) (.bool false) rfl (by kernel_rfl) (by kernel_rfl) ?_
  try simp only [pa, pn, pb, pc, pd]
  refine rl_take (some 95) (.bool false) rfl (by kernel_rfl) (by kernel_rfl) ?_
  try simp only [pa, pn, pb, pc, pd]
  refine rl_take (some 96) (.pointer (some ⟨r4, 0, none⟩)) rfl (by kernel_rfl) (by kernel_rfl) ?_
  try simp only [pa, pn, pb, pc, pd]
  refine rl_take (some 97) (.pointer (some ⟨r1, 0, none⟩)) rfl (by kernel_rfl) (by kernel_rfl) ?_
  try simp only [pa, pn, pb, pc, pd]
  refine rl_call (some 98) 38 #[.pointer (some ⟨r4, 0, none⟩), .pointer (some ⟨r1, 0, none⟩)] rfl (by kernel_rfl) (by kernel_rfl) (Same_any r4 r1 _ _ _ hr4.at hr1.at (by decide)) ?_
  rintro e w30 ⟨rfl, hL30⟩
  refine ⟨_, rfl, ?_⟩
  replace hT := hT.later hL30
  replace hB := hB.later hL30
  replace hr1 := hr1.later hL30
  replace hr2 := hr2.later hL30
  replace hr3 := hr3.later hL30
  replace hr4 := hr4.later hL30
  replace hr5 := hr5.later hL30
  replace hww := hww.later hL30
  have hz30 := hL30.size
  try simp only [pa, pn, pb, pc, pd]
  refine rl_take (some 99) (.bool false) rfl (by kernel_rfl) (by kernel_rfl) ?_
  try simp only [pa, pn, pb, pc, pd]
  refine rl_take (some 100) (.bool false) rfl (by kernel_rfl) (by kernel_rfl) ?_
  try simp only [pa, pn, pb, pc, pd]
  refine rl_take (some 101) (.bool false) rfl (by kernel_rfl) (by kernel_rfl) ?_
  try simp only [pa, pn, pb, pc, pd]
  refine rl_take (some 102) (.pointer (some ⟨r5, 0, none⟩)) rfl (by kernel_rfl) (by kernel_rfl) ?_
  try simp only [pa, pn, pb, pc, pd]
  refine rl_call (some 103) 33 #[.pointer (some ⟨r5, 0, none⟩)] rfl (by kernel_rfl) (by kernel_rfl) (text_any r5 _ _ hr5.at (by decide)) ?_
  rintro e w31 ⟨rfl, hL31⟩
  refine ⟨_, rfl, ?_⟩
  replace hT := hT.later hL31
  replace hB := hB.later hL31
  replace hr1 := hr1.later hL31
  replace hr2 := hr2.later hL31
  replace hr3 := hr3.later hL31
  replace hr4 := hr4.later hL31
  replace hr5 := hr5.later hL31
  replace hww := hww.later hL31
  have hz31 := hL31.size
  try simp only [pa, pn, pb, pc, pd]
  refine rl_take (some 104) (.bool false) rfl (by kernel_rfl) (by exact ex_ne_lit (a := hello.take 2 ++ [10] ++ hello.drop 3) (b := [104, 195, 10, 108, 108, 111]) (by kernel_rfl) rfl) ?_
  try simp only [pa, pn, pb, pc, pd]
  refine rl_take (some 105) (.bool false) rfl (by kernel_rfl) (by kernel_rfl) ?_
  try simp only [pa, pn, pb, pc, pd]
  refine rl_take (some 106) (.bool false) rfl (by kernel_rfl) (by kernel_rfl) ?_
  try simp only [pa, pn, pb, pc, pd]
  refine rl_take (some 107) (.pointer (some ⟨ww, 0, none⟩)) rfl (by kernel_rfl) (by kernel_rfl) ?_
  try simp only [pa, pn, pb, pc, pd]
  refine rl_take (some 108) (.pointer (some ⟨ww, 1, none⟩)) rfl (by kernel_rfl) (by kernel_rfl) ?_
  try simp only [pa, pn, pb, pc, pd]
  refine rl_take (some 109) (.int .i64 (runesN (hello.take 2))) rfl (by kernel_rfl) (by exact ld1 3 _ rfl ww 1 rfl (fun _ => by kernel_rfl) _ (hww.cell 1)) ?_
  try simp only [pa, pn, pb, pc, pd]
  refine rl_take (some 110) (.bool false) rfl (by kernel_rfl) (by kernel_rfl) ?_
  try simp only [pa, pn, pb, pc, pd]
  refine rl_take (some 111) (.bool false) rfl (by kernel_rfl) (by kernel_rfl) ?_
  try simp only [pa, pn, pb, pc, pd]
  refine rl_nil ?_
  refine hgo.out _ _ ?_
  clear hgo hgK
  refine hKK29 _ _ ?_
  refine wp_cond_false (by kernel_rfl) ?_
  refine wp_skip ?_
  refine hKK28 _ _ ?_
  refine wp_seq_k fun KK32 hKK32 => ?_
  refine rl_begin fun hgK hgo => ?_
  refine rl_alloc (some 12) 3 #[.int .i64 0] rfl (by kernel_rfl) (fun W => by kernel_rfl) fun nn w33 hL33 hp33 hnn => ?_
  replace hT := hT.later hL33
  replace hB := hB.later hL33
  replace hr1 := hr1.later hL33
  replace hr2 := hr2.later hL33
  replace hr3 := hr3.later hL33
  replace hr4 := hr4.later hL33
  replace hr5 := hr5.later hL33
  replace hww := hww.later hL33
  have hz33 := hL33.size
  have hlt33 := hnn.lt
  try simp only [pa, pn, pb, pc, pd]
  refine rl_store1 nn (.int .i64 0) rfl rfl (by kernel_rfl) rfl rfl (by kernel_rfl) hnn (by kernel_rfl) fun w34 hU34 hn34 => ?_
  have hz34 := hU34.size
  replace hT := hT.upd hU34 (by omega)
  replace hB := hB.upd hU34 (by omega)
  replace hr1 := hr1.upd hU34 (by omega)
  replace hr2 := hr2.upd hU34 (by omega)
  replace hr3 := hr3.upd hU34 (by omega)
  replace hr4 := hr4.upd hU34 (by omega)
  replace hr5 := hr5.upd hU34 (by omega)
  replace hww := hww.upd hU34 (by omega)
  clear hnn
  have hnn := hn34
  clear hn34
  try simp only [pa, pn, pb, pc, pd]
  refine rl_nil ?_
  refine hgo.out _ _ ?_
  clear hgo hgK
  refine hKK32 _ _ ?_
  refine wp_seq_k fun KK35 hKK35 => ?_
  refine rl_begin fun hgK hgo => ?_
  refine rl_take (some 112) (.pointer (some ⟨r1, 0, none⟩)) rfl (by kernel_rfl) (by kernel_rfl) ?_
  try simp only [pa, pn, pb, pc, pd]
  refine rl_call (some 113) 32 #[.pointer (some ⟨r1, 0, none⟩), .int .i64 3, .bool true] rfl (by kernel_rfl) (by kernel_rfl) (Pieces_any N1 r1 hello v1 t1 3 true (by decide) _ hr1) ?_
  rintro e w36 ⟨a3, b3, c3, rfl, hL36, hSeq⟩
  refine ⟨_, rfl, ?_⟩
  replace hT := hT.later hL36
  replace hB := hB.later hL36
  replace hr1 := hr1.later hL36
  replace hr2 := hr2.later hL36
  replace hr3 := hr3.later hL36
  replace hr4 := hr4.later hL36
  replace hr5 := hr5.later hL36
  replace hww := hww.later hL36
  replace hnn := hnn.later hL36
  have hz36 := hL36.size
  (have hflB := pcs_flatB hr1 3 (by decide))
  try simp only [pa, pn, pb, pc, pd]
  refine rl_take (some 13) (.func (.func 76) #[] #[.pointer (some ⟨a3, 0, none⟩), .pointer (some ⟨b3, 0, none⟩), .pointer (some ⟨c3, 0, none⟩)]) rfl (by kernel_rfl) (by kernel_rfl) ?_
  try simp only [pa, pn, pb, pc, pd]
  refine rl_nil ?_
  refine hgo.out _ _ ?_
  clear hgo hgK
  refine hKK35 _ _ ?_
  refine wp_seq_k fun KK37 hKK37 => ?_
  refine wp_seq_k fun KK38 hKK38 => ?_
  refine rl_begin fun hgK hgo => ?_
  refine rl_take (some 114) (.func (.func 76) #[] #[.pointer (some ⟨a3, 0, none⟩), .pointer (some ⟨b3, 0, none⟩), .pointer (some ⟨c3, 0, none⟩)]) rfl (by kernel_rfl) (by kernel_rfl) ?_
  try simp only [pa, pn, pb, pc, pd]
  refine rl_take (some 115) (.bool false) rfl (by kernel_rfl) (by kernel_rfl) ?_
  try simp only [pa, pn, pb, pc, pd]
  refine rl_nil ?_
  refine hgo.out _ _ ?_
  clear hgo hgK
  refine hKK38 _ _ ?_
  refine wp_cond_false (by kernel_rfl) ?_
  refine wp_skip ?_
  refine hKK37 _ _ ?_
  refine wp_seq_k fun KK39 hKK39 => ?_
  refine wp_seq_k fun KK40 hKK40 => ?_
  refine rl_begin fun hgK hgo => ?_
  refine rl_take (some 116) (.func (.func 76) #[] #[.pointer (some ⟨a3, 0, none⟩), .pointer (some ⟨b3, 0, none⟩), .pointer (some ⟨c3, 0, none⟩)]) rfl (by kernel_rfl) (by kernel_rfl) ?_
  try simp only [pa, pn, pb, pc, pd]
  refine rl_nil ?_
  refine hgo.out _ _ ?_
  clear hgo hgK
  refine hKK40 _ _ ?_
  refine wp_block ?_
  refine range_p (n₀ := N1) (P := Tryd.prog) rfl (enters_of Tryd.func76 (by kernel_rfl) rfl) (hSeq) (by omega) (fun (pre : List (Pc)) W => (Tabs W) ∧ (Ltr w W) ∧ (RopeN N1 W r1 hello v1 t1) ∧ (Blk W nn 3 #[.int .i64 ((pre.map pcB).flatten).length])) (fun _ _ _ => False) ?hI41 ?hIx41 ?h041 (fun (⟨A, c, p⟩ : Pc) a W => a = ⟨#[.bool false, .pointer (some ⟨r1, 0, none⟩), .int .i64 0, .pointer (some ⟨r2, 0, none⟩), .pointer (some ⟨r3, 0, none⟩), .int .i64 0, .pointer (some ⟨r4, 0, none⟩), .int .i64 0, .pointer (some ⟨r5, 0, none⟩), .int .i64 0, .pointer (some ⟨ww, 0, none⟩), .int .i64 0, .pointer (some ⟨nn, 0, none⟩), .func (.func 76) #[] #[.pointer (some ⟨a3, 0, none⟩), .pointer (some ⟨b3, 0, none⟩), .pointer (some ⟨c3, 0, none⟩)], .slice A p.length c, .tuple #[.pointer (some ⟨r1, 0, none⟩), .int .i64 0], .slice (some ⟨z, 0, none⟩) 6 6, .slice (some ⟨z, 0, none⟩) 6 6, .tuple #[.pointer (some ⟨r1, 0, none⟩), .int .i64 0], .pointer (some ⟨r1, 0, none⟩), .int .i64 0, .int .i64 0, .bool false, .bool false, .pointer (some ⟨r1, 0, none⟩), .bool false, .bool false, .bool false, .pointer (some ⟨r1, 0, none⟩), .int .i64 6, .bool false, .bool false, .bool false, .pointer (some ⟨r1, 0, none⟩), .agg #[.int .i64 6, .int .i64 5, .int .i64 5, .int .i64 0, .string (bs (headOf hello)), .string (bs (tailOf hello))], .agg #[.int .i64 6, .int .i64 5, .int .i64 5, .int .i64 0], .agg #[.int .i64 6, .int .i64 5, .int .i64 5, .int .i64 0], .bool false, .bool false, .bool false, .pointer (some ⟨r1, 0, none⟩), .string (bs hello), .bool false, .bool false, .bool false, .pointer (some ⟨r1, 0, none⟩), .int .i64 dd, .bool false, .bool false, .tuple #[.pointer (some ⟨r2, 0, none⟩), .pointer (some ⟨r3, 0, none⟩), .int .i64 0], .pointer (some ⟨r1, 0, none⟩), .tuple #[.pointer (some ⟨r2, 0, none⟩), .pointer (some ⟨r3, 0, none⟩), .int .i64 0], .pointer (some ⟨r2, 0, none⟩), .pointer (some ⟨r3, 0, none⟩), .int .i64 0, .int .i64 0, .bool false, .bool false, .pointer (some ⟨r2, 0, none⟩), .string (bs (hello.take 2)), .bool false, .bool false, .bool false, .pointer (some ⟨r3, 0, none⟩), .string (bs (hello.drop 2)), .bool false, .bool false, .tuple #[.pointer (some ⟨r4, 0, none⟩), .int .i64 0], .pointer (some ⟨r2, 0, none⟩), .pointer (some ⟨r3, 0, none⟩), .tuple #[.pointer (some ⟨r4, 0, none⟩), .int .i64 0], .pointer (some ⟨r4, 0, none⟩), .int .i64 0, .tuple #[.pointer (some ⟨r5, 0, none⟩), .int .i64 0], .pointer (some ⟨r1, 0, none⟩), .slice (some ⟨y, 0, none⟩) 1 1, .slice (some ⟨y, 0, none⟩) 1 1, .tuple #[.pointer (some ⟨r5, 0, none⟩), .int .i64 0], .pointer (some ⟨r5, 0, none⟩), .int .i64 0, .tuple #[.agg #[.int .i64 (hello.take 2).length, .int .i64 (runesN (hello.take 2)), .int .i64 (unitsN (hello.take 2)), .int .i64 (endsN (hello.take 2)), .string (bs (headOf (hello.take 2))), .string (bs (tailOf (hello.take 2)))], .int .i64 0], .pointer (some ⟨r1, 0, none⟩), .tuple #[.agg #[.int .i64 (hello.take 2).length, .int .i64 (runesN (hello.take 2)), .int .i64 (unitsN (hello.take 2)), .int .i64 (endsN (hello.take 2)), .string (bs (headOf (hello.take 2))), .string (bs (tailOf (hello.take 2)))], .int .i64 0], .agg #[.int .i64 (hello.take 2).length, .int .i64 (runesN (hello.take 2)), .int .i64 (unitsN (hello.take 2)), .int .i64 (endsN (hello.take 2)), .string (bs (headOf (hello.take 2))), .string (bs (tailOf (hello.take 2)))], .int .i64 0, .int .i64 0, .bool false, .bool false, .int .i64 0, .bool false, .bool false, .bool false, .int .i64 0, .bool false, .bool false, .bool false, .pointer (some ⟨r4, 0, none⟩), .pointer (some ⟨r1, 0, none⟩), .bool true, .bool false, .bool false, .bool false, .pointer (some ⟨r5, 0, none⟩), .string (bs (hello.take 2 ++ [10] ++ hello.drop 3)), .bool false, .bool false, .bool false, .pointer (some ⟨ww, 0, none⟩), .pointer (some ⟨ww, 1, none⟩), .int .i64 (runesN (hello.take 2)), .bool false, .bool false, .pointer (some ⟨r1, 0, none⟩), .func (.func 76) #[] #[.pointer (some ⟨a3, 0, none⟩), .pointer (some ⟨b3, 0, none⟩), .pointer (some ⟨c3, 0, none⟩)], .func (.func 76) #[] #[.pointer (some ⟨a3, 0, none⟩), .pointer (some ⟨b3, 0, none⟩), .pointer (some ⟨c3, 0, none⟩)], .bool false, .func (.func 76) #[] #[.pointer (some ⟨a3, 0, none⟩), .pointer (some ⟨b3, 0, none⟩), .pointer (some ⟨c3, 0, none⟩)], .slice A p.length c, undef, undef, undef, undef, undef, undef, undef, undef, undef, undef, undef], []⟩ ∧ (pcP N1 (A, c, p) W)) ?hAx41 ?ha41 ?hb41 ?hd41 ?hs41
  case hI41 =>
    rintro pre W W' row ⟨hT, hB, hr1, hnn⟩ hg hr
    exact ⟨hT.kc hg hr (by omega), hB.kc hg hr (by omega), hr1.kc hg hr (by omega), hnn.kc hg hr (by omega)⟩
  case hIx41 =>
    exact fun _ _ _ _ _ h _ _ => h
  case h041 =>
    exact ⟨by assumption, by assumption, by assumption, by assumption⟩
  case hAx41 =>
    rintro ⟨A, c, p⟩ a' _ W W' row ⟨rfl, hp⟩ hg hr
    exact ⟨rfl, hp.kc hg hr (by omega)⟩
  case ha41 =>
    skip
    rintro l41 pre ⟨A, c, p⟩ w41a hz41a hi41 hp hok41
    have hLa41 := Ltr.refl w41a
    clear hi41
    simp only [pcEnc, List.setIfInBounds_toArray, List.set_cons_zero, List.set_cons_succ]
    refine rj_begin fun hgK hgo => ?_
    refine rj_take (some 14) (.slice A p.length c) rfl (by kernel_rfl) (by kernel_rfl) ?_
    try simp only [pa, pn, pb, pc, pd]
    refine rj_nil ?_
    refine hgo.out _ _ ?_
    clear hgo hgK
    exact And.intro hLa41 (And.intro rfl hp)
  case hb41 =>
    rintro l41 pre ⟨A, c, p⟩ a41 w41b hTwo41 hi41 ⟨rfl, hp⟩ hok41
    obtain ⟨hT, hB, hr1, hnn⟩ := hi41
    have hz241 := hTwo41.size
    have hBel41 := Bel.refl N1 w41b (by omega)
    have hlt_hnn_41 := hnn.lt
    have hsn : (((pre ++ [(A, c, p)]).map pcB).flatten).length = ((pre.map pcB).flatten).length + p.length := (by simp [pcB]); have hb3 : (((pre ++ [(A, c, p)]).map pcB).flatten).length ≤ 3 := Nat.le_trans (pcok_len hok41) (Nat.le_of_eq (flat3 hflB.1))
    refine wpIn_block ?_
    refine rj_begin fun hgK hgo => ?_
    refine rj_take (some 118) (.int .i64 ((pre.map pcB).flatten).length) rfl (by kernel_rfl) (by exact ld1 3 _ rfl nn 0 rfl (fun _ => by kernel_rfl) _ (hnn.cell 0)) ?_
    try simp only [pa, pn, pb, pc, pd]
    refine rj_take (some 119) (.slice A p.length c) rfl (by kernel_rfl) (by kernel_rfl) ?_
    try simp only [pa, pn, pb, pc, pd]
    refine rj_take (some 120) (.int .i64 p.length) rfl (by kernel_rfl) (by kernel_rfl) ?_
    try simp only [pa, pn, pb, pc, pd]
    refine rj_take (some 121) (.int .i64 (((((pre ++ [(A, c, p)]).map pcB).flatten).length : Int))) rfl (by kernel_rfl) (by exact ex_arith (e := (((pre.map pcB).flatten).length : Int) + p.length) (r := ((((pre ++ [(A, c, p)]).map pcB).flatten).length : Int)) (by kernel_rfl) (by omega) (by omega)) ?_
    try simp only [pa, pn, pb, pc, pd]
    refine rj_store1 nn (.int .i64 (((((pre ++ [(A, c, p)]).map pcB).flatten).length : Int))) rfl rfl (by kernel_rfl) rfl rfl (by kernel_rfl) hnn (by kernel_rfl) fun w42 hU42 hn42 => ?_
    have hz42 := hU42.size
    replace hT := hT.upd hU42 (by omega)
    replace hB := hB.upd hU42 (by omega)
    replace hr1 := hr1.upd hU42 (by omega)
    replace hTwo41 := hTwo41.upd hU42 (by omega)
    replace hBel41 := hBel41.upd hU42 (by omega)
    clear hnn
    have hnn := hn42
    clear hn42
    try simp only [pa, pn, pb, pc, pd]
    refine rj_nil ?_
    refine hgo.out _ _ ?_
    clear hgo hgK
    try simp only [Exit.then, Exit.inBlock]
    exact ⟨hTwo41, hBel41, by assumption, by assumption, by assumption, by assumption⟩
  case hd41 =>
    rintro pre w41d hz41d hS41 hi41 hM41
    obtain ⟨hT, hB, hr1, hnn⟩ := hi41
    replace hM41 : Mark w36.heap.size w41d := hM41
    have hlt_hnn_41 := hnn.lt
    have hlen3 : ((pre.map pcB).flatten).length = 3 := by (rw [hS41]; exact flat3 hflB.1)
    refine hKK39 _ _ ?_
    refine wp_seq_k fun KK43 hKK43 => ?_
    refine rl_begin fun hgK hgo => ?_
    refine rl_take (some 122) (.int .i64 ((pre.map pcB).flatten).length) rfl (by kernel_rfl) (by exact ld1 3 _ rfl nn 0 rfl (fun _ => by kernel_rfl) _ (hnn.cell 0)) ?_
    try simp only [pa, pn, pb, pc, pd]
    refine rl_take (some 123) (.bool true) rfl (by kernel_rfl) (by exact ex_beq (x := ((pre.map pcB).flatten).length) (y := 3) (by kernel_rfl) ⟨fun _ => by omega, fun _ => rfl⟩) ?_
    try simp only [pa, pn, pb, pc, pd]
    refine rl_take (some 124) (.bool true) rfl (by kernel_rfl) (by kernel_rfl) ?_
    try simp only [pa, pn, pb, pc, pd]
    refine rl_take (some 125) (.pointer (some ⟨r1, 0, none⟩)) rfl (by kernel_rfl) (by kernel_rfl) ?_
    try simp only [pa, pn, pb, pc, pd]
    refine rl_call (some 126) 21 #[.pointer (some ⟨r1, 0, none⟩), .func (.func 57) #[] #[]] rfl (by kernel_rfl) (by kernel_rfl) (first3 N1 r1 v1 t1 _ hT (by omega) hr1) ?_
    rintro e w44 ⟨rfl, hL44⟩
    refine ⟨_, rfl, ?_⟩
    replace hT := hT.later hL44
    replace hB := hB.later hL44
    replace hr1 := hr1.later hL44
    replace hnn := hnn.later hL44
    replace hM41 := hM41.later hL44
    have hz44 := hL44.size
    try simp only [pa, pn, pb, pc, pd]
    refine rl_take (some 127) (.bool true) rfl (by kernel_rfl) (by exact ex_beq (x := 3) (y := 3) (by kernel_rfl) ⟨fun _ => by omega, fun _ => rfl⟩) ?_
    try simp only [pa, pn, pb, pc, pd]
    refine rl_take (some 128) (.bool true) rfl (by kernel_rfl) (by kernel_rfl) ?_
    try simp only [pa, pn, pb, pc, pd]
    refine rl_take (some 0) (.bool true) rfl (by kernel_rfl) (by kernel_rfl) ?_
    try simp only [pa, pn, pb, pc, pd]
    refine rl_nil ?_
    refine hgo.out _ _ ?_
    clear hgo hgK
    refine hKK43 _ _ ?_
    refine wp_ret ?_
    try simp only [Exit.then, Exit.inBlock]
    refine bm_mark hM41 ?_
    rintro w45 hG45 hZ45
    have hr45 := kcr hM41
    clear hM41
    replace hT := hT.kc hG45 hr45 (by omega)
    replace hB := hB.kc hG45 hr45 (by omega)
    replace hr1 := hr1.kc hG45 hr45 (by omega)
    replace hnn := hnn.kc hG45 hr45 (by omega)
    refine bm_ret (v := .bool true) (res1 rfl (res_tmp (by kernel_rfl))) ?_
    exact ⟨rfl, hB⟩
  case hs41 =>
    exact fun _ _ _ _ _ h _ => h.elim
end Go.Proofs.YtliphfgiaioebaaDoor
