/-
  Law 9: text, wakes.
  Law 9: the book of ropes, in plain and in memory; ropes stay when other kinds of blocks change; keep.
  Law 9: which; chapter 9's Span, Replaced; do.
-/
import Derived.Test.YtliphfgiaioebaaDoorB13
namespace Go.Proofs.YtliphfgiaioebaaDoor
set_option linter.unusedVariables false
set_option linter.unusedSimpArgs false
open Go.RowKit
theorem bytes_blk {w : World} {B : Nat} {l : List UInt8} (h : Blk w B 5 (bvals l).toArray) : BytesAt w (some ⟨B, 0, none⟩) l := by
  rw [bytesAt_iff]
  intro h0
  refine ⟨B, 0, rfl, fun i v hi => ?_⟩
  rw [h.cell, Nat.zero_add, List.getElem?_toArray]; exact hi
theorem RopeAt.nn {w : World} {b : Nat} {l : List UInt8} (h : RopeAt w b l) : ∃ N v ot, N = w.heap.size ∧ RopeN N w b l v ot := by
  obtain ⟨v, ot, h⟩ := h.n
  exact ⟨_, v, ot, rfl, h⟩
theorem Own.cap {n : Nat} {E : TypeId} {w : World} {A : Option Addr} {k c : Nat} {xs : List Value} (h : Own n E w (.slice A k c) xs) : xs.length ≤ c := by
  obtain ⟨A', c', e, -, h2⟩ := h.form
  simp only [Value.slice.injEq] at e
  omega
theorem own_empty {n B : Nat} {w : World} (h : Blk w B 5 #[]) (hn : n ≤ B) : Own n 5 w (.slice (some ⟨B, 0, none⟩) 0 0) [] :=
  ⟨by have := h.lt; omega, rfl, .inr ⟨B, 0, #[], rfl, hn, h, Nat.le_refl _, by unfold maxLen; omega, rfl, rfl⟩⟩
theorem res_cell1 {P : Program} {tmps : Array Value} {s : Tmp} {ty : TypeId} {w : World} {b : Nat} {t : TypeId} {v : Value} (h : tmps.getD s undef = .pointer (some ⟨b, 0, none⟩)) (hq : ∀ w, (isAgg ty).run P w = .ok false w)
    (hb : Blk w b t #[v]) : (resOne tmps (.cell s ty)).run P w = .ok v w := by
  have hc := hb.cell 0
  unfold resOne
  simp only [h, asAddr, Sem.run_bind, Sem.run_pure, Result.andThen_ok]
  simp only [loadVar, Sem.run_bind, hq w, Result.andThen_ok, Bool.false_eq_true, if_false]
  simp at hc
  simp [hc]
set_option maxRecDepth 100000 in
set_option maxHeartbeats 8000000 in
theorem text_any (b : Nat) (l : List UInt8) (w : World) (hr : RopeAt w b l) (hm : l.length ≤ 1000000000) :
    Calls Tryd.prog 33 #[.pointer (some ⟨b, 0, none⟩)] w fun e w' => e = .returned (.string (bs l)) ∧ Ltr w w' := by
  have hB := Ltr.refl w
  have hb' := fun W (h : RopeAt W b l) => Bytes_in b l 0 l.length W h (Nat.zero_le _) (Nat.le_refl _) hm
  simp only [List.drop_zero, List.take_length] at hb'
  go_enter Tryd.func33, Tryd.ntmps33
  refine wp_seq_k fun KK1 hKK1 => rl_begin fun hgK hgo => tk 2 (.string { data := #[] }) ?_
  simp only [pp]
  refine rl_end hgo <| hKK1 _ _ <| wp_seq_k fun KK2 hKK2 => rl_begin fun hgK hgo => tk 6 (.pointer (some ⟨b, 0, none⟩)) <| tk 7 (.pointer (some ⟨b, 0, none⟩)) ?_
  simp only [pp]
  refine rl_call (some 8) 45 #[.pointer (some ⟨b, 0, none⟩)] rfl (by kernel_rfl) (by kernel_rfl) (Len_any b l _ hr) ?_
  rintro e w3 ⟨rfl, hL3⟩
  refine ⟨_, rfl, ?_⟩
  have hz3 := hL3.size
  try simp only [pp]
  replace hr := hr.later hL3
  refine rl_call (some 9) 44 #[.pointer (some ⟨b, 0, none⟩), .int .i64 0, .int .i64 l.length] rfl (by kernel_rfl) (by kernel_rfl) (hb' _ hr) ?_
  rintro e w4 ⟨A1, c1, rfl, hL4, hx⟩
  refine ⟨_, rfl, ?_⟩
  have hz4 := hL4.size
  (have hx := hx.bytes)
  try simp only [pp]
  refine tk 5 (.tuple #[.slice A1 l.length c1, .int .i64 0]) <| tk 10 (.slice A1 l.length c1) <| tk 11 (.int .i64 0) <| tk 3 (.slice A1 l.length c1) <| tk 4 (.int .i64 0) ?_
  simp only [pp]
  refine rl_end hgo <| hKK2 _ _ <| wp_seq_k fun KK5 hKK5 => rl_begin fun hgK hgo => tk 12 (.slice A1 l.length c1) ?_
  simp only [pp]
  refine tx 13 (.string (bs l)) (by exact ex_conv_str _ rfl A1 c1 l rfl hx) <| tk 2 (.string (bs l)) ?_
  simp only [pp]
  refine rl_end hgo <| hKK5 _ _ ?_
  refine wp_ret ?_
  try simp only [Exit.then, Exit.inBlock]
  refine bp_ret (v := .string (bs l)) (res1 rfl (res_tmp (by kernel_rfl))) ?_
  replace hB := (hB.later hL3).later hL4
  exact ⟨rfl, hB⟩
set_option maxRecDepth 100000 in
set_option maxHeartbeats 8000000 in
theorem wakes1_any (q : List UInt8) (w : World) :
    Calls Tryd.prog 57 #[.agg #[.int .i64 q.length, .int .i64 (runesN q), .int .i64 (unitsN q), .int .i64 (endsN q), .string (bs (headOf q)), .string (bs (tailOf q))]] w fun e w' => e = .returned (.bool (decide (3 ≤ q.length))) ∧ Ltr w w' := by
  have hB := Ltr.refl w
  go_enter Tryd.func57, Tryd.ntmps57
  refine wp_seq_k fun KK1 hKK1 => rl_begin fun hgK hgo => ?_
  refine rl_alloc (some 1) 36 #[.int .i64 q.length, .int .i64 (runesN q), .int .i64 (unitsN q), .int .i64 (endsN q), .string (bs (headOf q)), .string (bs (tailOf q))] rfl (by kernel_rfl) (fun W => by kernel_rfl) fun p w2 hL2 hp2 hp => ?_
  have hz2 := hL2.size
  have hlt2 := hp.lt
  try simp only [pp]
  refine tk 2 (.bool false) ?_
  simp only [pp]
  refine rl_end hgo <| hKK1 _ _ <| wp_seq_k fun KK3 hKK3 => rl_begin fun hgK hgo => tk 3 (.pointer (some ⟨p, 0, none⟩)) <| tk 4 (.pointer (some ⟨p, 0, none⟩)) ?_
  simp only [pp]
  refine tx 5 (.int .i64 q.length) (by exact ld 3 p 0 (hp.cell 0)) ?_
  simp only [pp]
  replace hB := hB.later hL2
  by_cases h : (q.length : Int) ≥ 3
  ·refine tx 6 (.bool true) (by exact ebt (c := (q.length : Int) ≥ 3) (by omega)) <| tk 2 (.bool true) ?_
   simp only [pp]
   refine rl_end hgo <| hKK3 _ _ ?_
   refine wp_ret ?_
   try simp only [Exit.then, Exit.inBlock]
   refine bp_ret (v := .bool true) (res1 rfl (res_tmp (by kernel_rfl))) ?_
   exact ⟨by rw [decide_eq_true (by omega)], hB⟩
  ·refine tx 6 (.bool false) (by exact ebf (c := (q.length : Int) ≥ 3) (by omega)) <| tk 2 (.bool false) ?_
   simp only [pp]
   refine rl_end hgo <| hKK3 _ _ ?_
   refine wp_ret ?_
   try simp only [Exit.then, Exit.inBlock]
   refine bp_ret (v := .bool false) (res1 rfl (res_tmp (by kernel_rfl))) ?_
   exact ⟨by rw [decide_eq_false (by omega)], hB⟩
theorem wakes1_asks (n : Nat) (l : List UInt8) : Asks 57 #[] n n l (fun q => decide (3 ≤ q.length)) (fun _ => True) :=
  ⟨fun _ _ _ _ _ => trivial, enters_of Tryd.func57 (by kernel_rfl) rfl, fun q r W _ _ _ _ => (wakes1_any q W).mono fun e w' h => by
    obtain ⟨rfl, hl⟩ := h
    by_cases h3 : 3 ≤ q.length
    · exact .inl ⟨by rw [decide_eq_true h3], decide_eq_true h3, hl.toMid, trivial⟩
    · exact .inr ⟨by rw [decide_eq_false h3], decide_eq_false h3, hl.toMid, trivial⟩⟩
def hello : List UInt8 := [104, 195, 169, 108, 108, 111]
theorem first3 (n b : Nat) (v : Value) (ot : Option Tr) (w : World) (hT : Tabs w) (h4 : 4 ≤ n) (hr : RopeN n w b hello v ot) :
    Calls Tryd.prog 21 #[.pointer (some ⟨b, 0, none⟩), .func (.func 57) #[] #[]] w fun e w' => e = .returned (.int .i64 3) ∧ Ltr w w' :=
  (First_any _ #[] n n b hello v ot _ _ (wakes1_asks n hello) w hT h4 (Nat.le_refl _) hr.1 hr trivial (by decide)).mono fun e w' h => by
    obtain ⟨h1, h2, -⟩ := h
    refine ⟨?_, h2.ltr⟩
    rcases h1 with ⟨rfl, -, h3 | h3⟩ | ⟨q, r, hqr, rfl, hp, rfl | ⟨q', hq', -, hp'⟩⟩
    · cases h3
    · simp [hello] at h3
    · simp at hp
    · simp only [decide_eq_true_eq, decide_eq_false_iff_not] at hp hp'
      rw [show q.length = 3 by omega]; rfl
theorem ex_ne_lit {o : Oper} {ρ : Operand → Value} {w : World} {a b : List UInt8} (h : (execOp ρ o).run Tryd.prog w = .ok (.value (.bool (!((bs a).toList == (bs b).toList)))) w) (he : a = b) : (execOp ρ o).run Tryd.prog w = .ok (.value (.bool false)) w := by
  rw [ex_ne_bs h, he]; simp
theorem pcok_len {ps : List (List UInt8)} {pre : List Pc} (h : PcOk ps pre) : ((pre.map pcB).flatten).length ≤ ps.flatten.length := by
  obtain ⟨r, rfl⟩ := h
  rw [List.flatten_append, List.length_append]; omega
theorem flat3 {ps : List (List UInt8)} (h : ps.reverse.flatten = hello.take 3) : ps.flatten.length = 3 := by
  have h1 := congrArg List.length h
  rw [List.length_flatten, List.map_reverse, List.sum_reverse] at h1
  rw [List.length_flatten, h1]; rfl
/-- a string constant's bytes: the row is marked behind its end -/
theorem ex_mark {o : Oper} {ρ : Operand → Value} {x : Operand} {B n : Nat} (ho : o.op = .convert 41 41 x) (l : List UInt8) (hx : ρ x = .slice (some ⟨B, 0, none⟩) n n) {w : World} (hb : Blk w B 5 (bvals l).toArray) (hn : n = l.length) (h0 : 0 < n) :
    ∃ v w', (execOp ρ o).run Tryd.prog w = .ok (.value v) w' ∧ v = .slice (some ⟨B, 0, none⟩) n n ∧ Upd B w w' ∧ BytesAt w' (some ⟨B, 0, none⟩) l := by
  have hsh : w.shape? B = some (5, l.length) := by
    unfold World.shape?; rw [show w.heap[B]? = _ from hb]; simp [bvals]
  have hr : (convert 41 41 (.slice (some ⟨B, 0, none⟩) n n)).run Tryd.prog w = .ok (.slice (some ⟨B, 0, none⟩) n n) (w.freeze ⟨B, l.length, none⟩ 1) := by
    simp [convert, run_underlying (show Tryd.prog.underlying 41 = some (.slice 5) by kernel_rfl), run_underlying (show Tryd.prog.underlying 5 = some (.int .u8) by kernel_rfl), markStringish, hsh, Sem.run_bind, Result.andThen]
  refine ⟨_, w.freeze ⟨B, l.length, none⟩ 1, ?_, rfl, ?_, ?_⟩
  · unfold execOp
    simp only [ho, hx, Sem.run_bind, hr, Result.andThen_ok, Sem.run_pure]
  · refine ⟨rfl, rfl, rfl, by simp [World.freeze], fun k hk => ?_⟩
    simp [World.freeze, Array.getElem?_modify, Ne.symm hk]
  · intro _
    refine ⟨B, 0, rfl, fun i hi => ?_⟩
    have h1 : (w.freeze ⟨B, l.length, none⟩ 1).heap[B]? = some (.cells (bvals l).toArray 5 (l.length, l.length + 1)) := by
      have h2 : w.heap[B]? = some (.cells (bvals l).toArray 5) := hb
      simp [World.freeze, Array.getElem?_modify, h2]
    have h3 := bvals_get l i hi
    simp [World.cell?, h1, h3]
set_option maxRecDepth 100000 in
set_option maxHeartbeats 16000000 in
theorem wakes_any (w : World) (hT : Tabs w) : Calls Tryd.prog 17 #[] w fun e w' => e = .returned (.bool true) ∧ Ltr w w' := by
  have hB := Ltr.refl w
  have hdep : ∀ {d : Nat}, (0 < hello.length → ∃ t : Tr, t.ok ∧ t.bytes = hello ∧ t.h = d) → 1 ≤ d := fun h => by
    obtain ⟨t, -, -, rfl⟩ := h (by decide)
    exact t.h_pos
  refine (callsIn_wide (n := 0)).1 ?_
  refine callsIn_of_wp_marks Tryd.func17 rfl trivial ?_ rfl
  simp only [Tryd.ntmps17, List.size_toArray, List.length_cons, List.length_nil, Nat.reduceAdd, Nat.reduceSub, Array.replicate_succ, Array.replicate_zero, List.push_toArray, List.append_toArray, List.nil_append, List.cons_append]
  refine (wpIn_wide (n := 0)).2 ?_
  have h4 := hT.four
  refine wp_seq_k fun KK1 hKK1 => rl_begin fun hgK hgo => tk 0 (.bool false) ?_
  simp only [pp]
  refine rl_end hgo <| hKK1 _ _ <| wp_seq_k fun KK2 hKK2 => rl_begin fun hgK hgo => ?_
  refine rl_bslice (some 16) 5 #[.int .u8 104, .int .u8 195, .int .u8 169, .int .u8 108, .int .u8 108, .int .u8 111] 6 rfl (by kernel_rfl) (fun W => by kernel_rfl) fun z w3 hL3 hp3 hz => ?_
  have hz3 := hL3.size
  have hlt3 := hz.lt
  try simp only [pp]
  refine rl_new (some 17) rfl (by kernel_rfl) (ex_mark rfl hello rfl hz rfl (by decide)) ?_
  rintro v4 w4 ⟨rfl, hU4, hzb⟩
  replace hT := hT.later hL3
  replace hT := hT.upd hU4 (by omega)
  replace hB := hB.later hL3
  replace hB := hB.upd hU4 (by omega)
  have hz4 := hU4.size
  try simp only [pp]
  refine rl_call (some 18) 36 #[.slice (some ⟨z, 0, none⟩) 6 6] rfl (by kernel_rfl) (by kernel_rfl) (New_any (some ⟨z, 0, none⟩) 6 hello _ hT hzb (by decide) (by decide)) ?_
  rintro e w5 ⟨r1, rfl, hL5, hr1, hn1⟩
  refine ⟨_, rfl, ?_⟩
  have hz5 := hL5.size
  (obtain ⟨N1, v1, t1, hN1, hr1⟩ := hr1.nn)
  try simp only [pp]
  refine tk 15 (.tuple #[.pointer (some ⟨r1, 0, none⟩), .int .i64 0]) <| tk 19 (.pointer (some ⟨r1, 0, none⟩)) <| tk 20 (.int .i64 0) <| tk 1 (.pointer (some ⟨r1, 0, none⟩)) <| tk 2 (.int .i64 0) ?_
  simp only [pp]
  refine rl_end hgo <| hKK2 _ _ <| wp_seq_k fun KK6 hKK6 => wp_seq_k fun KK7 hKK7 => rl_begin fun hgK hgo => tk 21 (.int .i64 0) ?_
  simp only [pp]
  refine tx 22 (.bool false) (by exact nef (x := 0) (y := 0) (by omega)) <| tk 23 (.bool false) <| tk 24 (.pointer (some ⟨r1, 0, none⟩)) <| tk 25 (.bool false) <| tk 26 (.bool false) <| tk 27 (.bool false) <| tk 28 (.pointer (some ⟨r1, 0, none⟩)) ?_
  simp only [pp]
  refine rl_call (some 29) 45 #[.pointer (some ⟨r1, 0, none⟩)] rfl (by kernel_rfl) (by kernel_rfl) (Len_any r1 hello _ hr1.at) ?_
  rintro e w8 ⟨rfl, hL8⟩
  refine ⟨_, rfl, ?_⟩
  have hz8 := hL8.size
  try simp only [pp]
  refine tx 30 (.bool false) (by exact nef (x := 6) (y := 6) (by omega)) <| tk 31 (.bool false) <| tk 32 (.bool false) <| tk 33 (.pointer (some ⟨r1, 0, none⟩)) ?_
  simp only [pp]
  replace hT := (hT.later hL5).later hL8
  replace hr1 := hr1.later hL8
  refine rl_call (some 34) 41 #[.pointer (some ⟨r1, 0, none⟩)] rfl (by kernel_rfl) (by kernel_rfl) (RWeld_any r1 hello _ hT hr1.at) ?_
  rintro e w9 ⟨rfl, hL9⟩
  refine ⟨_, rfl, ?_⟩
  have hz9 := hL9.size
  try simp only [pp]
  refine tk 35 (.agg #[.int .i64 6, .int .i64 5, .int .i64 5, .int .i64 0]) <| tk 36 (.agg #[.int .i64 6, .int .i64 5, .int .i64 5, .int .i64 0]) <| tk 37 (.bool false) <| tk 38 (.bool false) <| tk 39 (.bool false) <| tk 40 (.pointer (some ⟨r1, 0, none⟩)) ?_
  simp only [pp]
  replace hr1 := hr1.later hL9
  refine rl_call (some 41) 33 #[.pointer (some ⟨r1, 0, none⟩)] rfl (by kernel_rfl) (by kernel_rfl) (text_any r1 hello _ hr1.at (by decide)) ?_
  rintro e w10 ⟨rfl, hL10⟩
  refine ⟨_, rfl, ?_⟩
  have hz10 := hL10.size
  try simp only [pp]
  refine tx 42 (.bool false) (by exact ex_ne_lit (a := hello) (b := hello) (by kernel_rfl) rfl) <| tk 43 (.bool false) <| tk 44 (.bool false) <| tk 45 (.pointer (some ⟨r1, 0, none⟩)) ?_
  simp only [pp]
  replace hr1 := hr1.later hL10
  refine rl_call (some 46) 34 #[.pointer (some ⟨r1, 0, none⟩)] rfl (by kernel_rfl) (by kernel_rfl) (Depth_any r1 hello _ hr1.at) ?_
  rintro e w11 ⟨dd, rfl, hL11, hd1, hd2⟩
  refine ⟨_, rfl, ?_⟩
  have hz11 := hL11.size
  (have hd3 := hdep hd2)
  try simp only [pp]
  refine tx 47 (.bool false) (by exact ebf (c := (dd : Int) < 1) (by omega)) <| tk 48 (.bool false) ?_
  simp only [pp]
  refine rl_end hgo <| hKK7 _ _ <| wp_cond_false (by kernel_rfl) <| wp_skip <| hKK6 _ _ <| wp_seq_k fun KK12 hKK12 => rl_begin fun hgK hgo => tk 50 (.pointer (some ⟨r1, 0, none⟩)) ?_
  simp only [pp]
  replace hT := ((hT.later hL9).later hL10).later hL11
  replace hr1 := hr1.later hL11
  refine rl_call (some 51) 39 #[.pointer (some ⟨r1, 0, none⟩), .int .i64 2] rfl (by kernel_rfl) (by kernel_rfl) (RSplit_any r1 hello 2 _ hT hr1.at (by decide) (by decide)) ?_
  rintro e w13 ⟨r2, r3, rfl, hL13, hr2, hr3, hn2, hn3⟩
  refine ⟨_, rfl, ?_⟩
  have hz13 := hL13.size
  (obtain ⟨N2, v2, t2, hN2, hr2⟩ := hr2.nn); (obtain ⟨N3, v3, t3, hN3, hr3⟩ := hr3.nn)
  try simp only [pp]
  refine tk 49 (.tuple #[.pointer (some ⟨r2, 0, none⟩), .pointer (some ⟨r3, 0, none⟩), .int .i64 0]) <| tk 52 (.pointer (some ⟨r2, 0, none⟩)) <| tk 53 (.pointer (some ⟨r3, 0, none⟩)) <| tk 54 (.int .i64 0) <| tk 3 (.pointer (some ⟨r2, 0, none⟩)) <| tk 4 (.pointer (some ⟨r3, 0, none⟩)) <| tk 5 (.int .i64 0) ?_
  simp only [pp]
  refine rl_end hgo <| hKK12 _ _ <| wp_seq_k fun KK14 hKK14 => wp_seq_k fun KK15 hKK15 => rl_begin fun hgK hgo => tk 55 (.int .i64 0) ?_
  simp only [pp]
  refine tx 56 (.bool false) (by exact nef (x := 0) (y := 0) (by omega)) <| tk 57 (.bool false) <| tk 58 (.pointer (some ⟨r2, 0, none⟩)) ?_
  simp only [pp]
  refine rl_call (some 59) 33 #[.pointer (some ⟨r2, 0, none⟩)] rfl (by kernel_rfl) (by kernel_rfl) (text_any r2 _ _ hr2.at (by decide)) ?_
  rintro e w16 ⟨rfl, hL16⟩
  refine ⟨_, rfl, ?_⟩
  have hz16 := hL16.size
  try simp only [pp]
  refine tx 60 (.bool false) (by exact ex_ne_lit (a := hello.take 2) (b := [104, 195]) (by kernel_rfl) rfl) <| tk 61 (.bool false) <| tk 62 (.bool false) <| tk 63 (.pointer (some ⟨r3, 0, none⟩)) ?_
  simp only [pp]
  replace hr3 := hr3.later hL16
  refine rl_call (some 64) 33 #[.pointer (some ⟨r3, 0, none⟩)] rfl (by kernel_rfl) (by kernel_rfl) (text_any r3 _ _ hr3.at (by decide)) ?_
  rintro e w17 ⟨rfl, hL17⟩
  refine ⟨_, rfl, ?_⟩
  have hz17 := hL17.size
  try simp only [pp]
  refine tx 65 (.bool false) (by exact ex_ne_lit (a := hello.drop 2) (b := [169, 108, 108, 111]) (by kernel_rfl) rfl) <| tk 66 (.bool false) ?_
  simp only [pp]
  refine rl_end hgo <| hKK15 _ _ <| wp_cond_false (by kernel_rfl) <| wp_skip <| hKK14 _ _ <| wp_seq_k fun KK18 hKK18 => rl_begin fun hgK hgo => tk 68 (.pointer (some ⟨r2, 0, none⟩)) <| tk 69 (.pointer (some ⟨r3, 0, none⟩)) ?_
  simp only [pp]
  replace hT := ((hT.later hL13).later hL16).later hL17
  replace hr2 := (hr2.later hL16).later hL17
  replace hr3 := hr3.later hL17
  refine rl_call (some 70) 42 #[.pointer (some ⟨r2, 0, none⟩), .pointer (some ⟨r3, 0, none⟩)] rfl (by kernel_rfl) (by kernel_rfl) (RJoin_any r2 r3 _ _ _ hT hr2.at hr3.at (by decide)) ?_
  rintro e w19 ⟨r4, rfl, hL19, hr4, hn4⟩
  refine ⟨_, rfl, ?_⟩
  have hz19 := hL19.size
  (obtain ⟨N4, v4, t4, hN4, hr4⟩ := hr4.nn)
  try simp only [pp]
  refine tk 67 (.tuple #[.pointer (some ⟨r4, 0, none⟩), .int .i64 0]) <| tk 71 (.pointer (some ⟨r4, 0, none⟩)) <| tk 72 (.int .i64 0) <| tk 6 (.pointer (some ⟨r4, 0, none⟩)) <| tk 7 (.int .i64 0) ?_
  simp only [pp]
  refine rl_end hgo <| hKK18 _ _ <| wp_seq_k fun KK20 hKK20 => rl_begin fun hgK hgo => tk 74 (.pointer (some ⟨r1, 0, none⟩)) ?_
  simp only [pp]
  refine rl_bslice (some 75) 5 #[.int .u8 10] 1 rfl (by kernel_rfl) (fun W => by kernel_rfl) fun y w21 hL21 hp21 hy => ?_
  have hz21 := hL21.size
  have hlt21 := hy.lt
  try simp only [pp]
  refine rl_new (some 76) rfl (by kernel_rfl) (ex_mark rfl [10] rfl hy rfl (by decide)) ?_
  rintro v22 w22 ⟨rfl, hU22, hyb⟩
  replace hT := (hT.later hL19).later hL21
  replace hT := hT.upd hU22 (by omega)
  replace hB := (((((((((hB.later hL5).later hL8).later hL9).later hL10).later hL11).later hL13).later hL16).later hL17).later hL19).later hL21
  replace hB := hB.upd hU22 (by omega)
  replace hr1 := ((((hr1.later hL13).later hL16).later hL17).later hL19).later hL21
  replace hr1 := hr1.upd hU22 (by omega)
  replace hr2 := (hr2.later hL19).later hL21
  replace hr2 := hr2.upd hU22 (by omega)
  replace hr3 := (hr3.later hL19).later hL21
  replace hr3 := hr3.upd hU22 (by omega)
  replace hr4 := hr4.later hL21
  replace hr4 := hr4.upd hU22 (by omega)
  have hz22 := hU22.size
  try simp only [pp]
  refine rl_call (some 77) 37 #[.pointer (some ⟨r1, 0, none⟩), .int .i64 2, .int .i64 3, .slice (some ⟨y, 0, none⟩) 1 1] rfl (by kernel_rfl) (by kernel_rfl) (Replace_any r1 hello 2 3 (some ⟨y, 0, none⟩) 1 [10] _ hT hr1.at (by decide) (by decide) hyb (by decide) (by decide)) ?_
  rintro e w23 ⟨r5, rfl, hL23, hr5, hn5⟩
  refine ⟨_, rfl, ?_⟩
  have hz23 := hL23.size
  (obtain ⟨N5, v5, t5, hN5, hr5⟩ := hr5.nn)
  clear hyb
  try simp only [pp]
  refine tk 73 (.tuple #[.pointer (some ⟨r5, 0, none⟩), .int .i64 0]) <| tk 78 (.pointer (some ⟨r5, 0, none⟩)) <| tk 79 (.int .i64 0) <| tk 8 (.pointer (some ⟨r5, 0, none⟩)) <| tk 9 (.int .i64 0) ?_
  simp only [pp]
  refine rl_end hgo <| hKK20 _ _ <| wp_seq_k fun KK24 hKK24 => rl_begin fun hgK hgo => tk 81 (.pointer (some ⟨r1, 0, none⟩)) ?_
  simp only [pp]
  replace hT := hT.later hL23
  replace hr1 := hr1.later hL23
  refine rl_call (some 82) 43 #[.pointer (some ⟨r1, 0, none⟩), .int .i64 2] rfl (by kernel_rfl) (by kernel_rfl) (Before_1 r1 hello 2 _ hT hr1.at (by decide) (by decide) (by decide)) ?_
  rintro e w25 ⟨rfl, hL25⟩
  refine ⟨_, rfl, ?_⟩
  have hz25 := hL25.size
  try simp only [pp]
  refine tk 80 (.tuple #[.agg #[.int .i64 (hello.take 2).length, .int .i64 (runesN (hello.take 2)), .int .i64 (unitsN (hello.take 2)), .int .i64 (endsN (hello.take 2)), .string (bs (headOf (hello.take 2))), .string (bs (tailOf (hello.take 2)))], .int .i64 0]) <| tk 83 (.agg #[.int .i64 (hello.take 2).length, .int .i64 (runesN (hello.take 2)), .int .i64 (unitsN (hello.take 2)), .int .i64 (endsN (hello.take 2)), .string (bs (headOf (hello.take 2))), .string (bs (tailOf (hello.take 2)))]) <| tk 84 (.int .i64 0) ?_
  simp only [pp]
  refine rl_alloc (some 10) 36 #[.int .i64 0, .int .i64 0, .int .i64 0, .int .i64 0, .string ⟨#[]⟩, .string ⟨#[]⟩] rfl (by kernel_rfl) (fun W => by kernel_rfl) fun ww w26 hL26 hp26 hww => ?_
  have hz26 := hL26.size
  have hlt26 := hww.lt
  try simp only [pp]
  refine rl_store ww #[.int .i64 (hello.take 2).length, .int .i64 (runesN (hello.take 2)), .int .i64 (unitsN (hello.take 2)), .int .i64 (endsN (hello.take 2)), .string (bs (headOf (hello.take 2))), .string (bs (tailOf (hello.take 2)))] rfl rfl (by kernel_rfl) rfl rfl (by kernel_rfl) hww rfl (by kernel_rfl) fun w27 hU27 hn27 => ?_
  have hz27 := hU27.size
  replace hT := (hT.later hL25).later hL26
  replace hT := hT.upd hU27 (by omega)
  replace hB := ((hB.later hL23).later hL25).later hL26
  replace hB := hB.upd hU27 (by omega)
  replace hr1 := (hr1.later hL25).later hL26
  replace hr1 := hr1.upd hU27 (by omega)
  replace hr2 := ((hr2.later hL23).later hL25).later hL26
  replace hr2 := hr2.upd hU27 (by omega)
  replace hr3 := ((hr3.later hL23).later hL25).later hL26
  replace hr3 := hr3.upd hU27 (by omega)
  replace hr4 := ((hr4.later hL23).later hL25).later hL26
  replace hr4 := hr4.upd hU27 (by omega)
  replace hr5 := (hr5.later hL25).later hL26
  replace hr5 := hr5.upd hU27 (by omega)
  clear hww
  have hww := hn27
  clear hn27
  try simp only [pp]
  refine tk 11 (.int .i64 0) ?_
  simp only [pp]
  refine rl_end hgo <| hKK24 _ _ <| wp_seq_k fun KK28 hKK28 => wp_seq_k fun KK29 hKK29 => rl_begin fun hgK hgo => tk 85 (.int .i64 0) ?_
  simp only [pp]
  refine tx 86 (.bool false) (by exact nef (x := 0) (y := 0) (by omega)) <| tk 87 (.bool false) <| tk 88 (.int .i64 0) ?_
  simp only [pp]
  refine tx 89 (.bool false) (by exact nef (x := 0) (y := 0) (by omega)) <| tk 90 (.bool false) <| tk 91 (.bool false) <| tk 92 (.int .i64 0) ?_
  simp only [pp]
  refine tx 93 (.bool false) (by exact nef (x := 0) (y := 0) (by omega)) <| tk 94 (.bool false) <| tk 95 (.bool false) <| tk 96 (.pointer (some ⟨r4, 0, none⟩)) <| tk 97 (.pointer (some ⟨r1, 0, none⟩)) ?_
  simp only [pp]
  refine rl_call (some 98) 38 #[.pointer (some ⟨r4, 0, none⟩), .pointer (some ⟨r1, 0, none⟩)] rfl (by kernel_rfl) (by kernel_rfl) (Same_any r4 r1 _ _ _ hr4.at hr1.at (by decide)) ?_
  rintro e w30 ⟨rfl, hL30⟩
  refine ⟨_, rfl, ?_⟩
  have hz30 := hL30.size
  try simp only [pp]
  refine tk 99 (.bool false) <| tk 100 (.bool false) <| tk 101 (.bool false) <| tk 102 (.pointer (some ⟨r5, 0, none⟩)) ?_
  simp only [pp]
  replace hr5 := hr5.later hL30
  refine rl_call (some 103) 33 #[.pointer (some ⟨r5, 0, none⟩)] rfl (by kernel_rfl) (by kernel_rfl) (text_any r5 _ _ hr5.at (by decide)) ?_
  rintro e w31 ⟨rfl, hL31⟩
  refine ⟨_, rfl, ?_⟩
  have hz31 := hL31.size
  try simp only [pp]
  refine tx 104 (.bool false) (by exact ex_ne_lit (a := hello.take 2 ++ [10] ++ hello.drop 3) (b := [104, 195, 10, 108, 108, 111]) (by kernel_rfl) rfl) <| tk 105 (.bool false) <| tk 106 (.bool false) <| tk 107 (.pointer (some ⟨ww, 0, none⟩)) <| tk 108 (.pointer (some ⟨ww, 1, none⟩)) ?_
  simp only [pp]
  replace hww := (hww.later hL30).later hL31
  refine tx 109 (.int .i64 (runesN (hello.take 2))) (by exact ld 3 ww 1 (hww.cell 1)) <| tk 110 (.bool false) <| tk 111 (.bool false) ?_
  simp only [pp]
  refine rl_end hgo <| hKK29 _ _ <| wp_cond_false (by kernel_rfl) <| wp_skip <| hKK28 _ _ <| wp_seq_k fun KK32 hKK32 => rl_begin fun hgK hgo => ?_
  refine rl_alloc (some 12) 3 #[.int .i64 0] rfl (by kernel_rfl) (fun W => by kernel_rfl) fun nn w33 hL33 hp33 hnn => ?_
  have hz33 := hL33.size
  have hlt33 := hnn.lt
  try simp only [pp]
  refine rl_store1 nn (.int .i64 0) rfl rfl (by kernel_rfl) rfl rfl (by kernel_rfl) hnn (by kernel_rfl) fun w34 hU34 hn34 => ?_
  have hz34 := hU34.size
  replace hT := ((hT.later hL30).later hL31).later hL33
  replace hT := hT.upd hU34 (by omega)
  replace hB := ((hB.later hL30).later hL31).later hL33
  replace hB := hB.upd hU34 (by omega)
  replace hr1 := ((hr1.later hL30).later hL31).later hL33
  replace hr1 := hr1.upd hU34 (by omega)
  replace hr2 := ((hr2.later hL30).later hL31).later hL33
  replace hr2 := hr2.upd hU34 (by omega)
  replace hr3 := ((hr3.later hL30).later hL31).later hL33
  replace hr3 := hr3.upd hU34 (by omega)
  replace hr4 := ((hr4.later hL30).later hL31).later hL33
  replace hr4 := hr4.upd hU34 (by omega)
  replace hr5 := (hr5.later hL31).later hL33
  replace hr5 := hr5.upd hU34 (by omega)
  replace hww := hww.later hL33
  replace hww := hww.upd hU34 (by omega)
  clear hnn
  have hnn := hn34
  clear hn34
  try simp only [pp]
  refine rl_end hgo <| hKK32 _ _ <| wp_seq_k fun KK35 hKK35 => rl_begin fun hgK hgo => tk 112 (.pointer (some ⟨r1, 0, none⟩)) ?_
  simp only [pp]
  refine rl_call (some 113) 32 #[.pointer (some ⟨r1, 0, none⟩), .int .i64 3, .bool true] rfl (by kernel_rfl) (by kernel_rfl) (Pieces_any N1 r1 hello v1 t1 3 true (by decide) _ hr1) ?_
  rintro e w36 ⟨a3, b3, c3, rfl, hL36, hSeq⟩
  refine ⟨_, rfl, ?_⟩
  have hz36 := hL36.size
  replace hr1 := hr1.later hL36
  (have hflB := pcs_flatB hr1 3 (by decide))
  try simp only [pp]
  refine tk 13 (.func (.func 76) #[] #[.pointer (some ⟨a3, 0, none⟩), .pointer (some ⟨b3, 0, none⟩), .pointer (some ⟨c3, 0, none⟩)]) ?_
  simp only [pp]
  refine rl_end hgo <| hKK35 _ _ <| wp_seq_k fun KK37 hKK37 => wp_seq_k fun KK38 hKK38 => rl_begin fun hgK hgo => tk 114 (.func (.func 76) #[] #[.pointer (some ⟨a3, 0, none⟩), .pointer (some ⟨b3, 0, none⟩), .pointer (some ⟨c3, 0, none⟩)]) <| tk 115 (.bool false) ?_
  simp only [pp]
  refine rl_end hgo <| hKK38 _ _ <| wp_cond_false (by kernel_rfl) <| wp_skip <| hKK37 _ _ <| wp_seq_k fun KK39 hKK39 => wp_seq_k fun KK40 hKK40 => rl_begin fun hgK hgo => tk 116 (.func (.func 76) #[] #[.pointer (some ⟨a3, 0, none⟩), .pointer (some ⟨b3, 0, none⟩), .pointer (some ⟨c3, 0, none⟩)]) ?_
  simp only [pp]
  refine rl_end hgo <| hKK40 _ _ <| wp_block ?_
  replace hzb := (((((((((hzb.later hL5).later hL8).later hL9).later hL10).later hL11).later hL13).later hL16).later hL17).later hL19).later hL21
  replace hT := hT.later hL36
  replace hB := hB.later hL36
  replace hr2 := hr2.later hL36
  replace hr3 := hr3.later hL36
  replace hr4 := hr4.later hL36
  replace hr5 := hr5.later hL36
  replace hww := hww.later hL36
  replace hnn := hnn.later hL36
  refine range_p (n₀ := N1) (P := Tryd.prog) rfl (enters_of Tryd.func76 (by kernel_rfl) rfl) (hSeq) (by omega) (fun (pre : List (Pc)) W => (Tabs W) ∧ (Ltr w W) ∧ (RopeN N1 W r1 hello v1 t1) ∧ (Blk W nn 3 #[.int .i64 ((pre.map pcB).flatten).length])) (fun _ _ _ => False) ?hI41 ?hIx41 ?h041 (fun (⟨A, c, p⟩ : Pc) a W => a = ⟨#[.bool false, .pointer (some ⟨r1, 0, none⟩), .int .i64 0, .pointer (some ⟨r2, 0, none⟩), .pointer (some ⟨r3, 0, none⟩), .int .i64 0, .pointer (some ⟨r4, 0, none⟩), .int .i64 0, .pointer (some ⟨r5, 0, none⟩), .int .i64 0, .pointer (some ⟨ww, 0, none⟩), .int .i64 0, .pointer (some ⟨nn, 0, none⟩), .func (.func 76) #[] #[.pointer (some ⟨a3, 0, none⟩), .pointer (some ⟨b3, 0, none⟩), .pointer (some ⟨c3, 0, none⟩)], .slice A p.length c, .tuple #[.pointer (some ⟨r1, 0, none⟩), .int .i64 0], .slice (some ⟨z, 0, none⟩) 6 6, .slice (some ⟨z, 0, none⟩) 6 6, .tuple #[.pointer (some ⟨r1, 0, none⟩), .int .i64 0], .pointer (some ⟨r1, 0, none⟩), .int .i64 0, .int .i64 0, .bool false, .bool false, .pointer (some ⟨r1, 0, none⟩), .bool false, .bool false, .bool false, .pointer (some ⟨r1, 0, none⟩), .int .i64 6, .bool false, .bool false, .bool false, .pointer (some ⟨r1, 0, none⟩), .agg #[.int .i64 6, .int .i64 5, .int .i64 5, .int .i64 0, .string (bs (headOf hello)), .string (bs (tailOf hello))], .agg #[.int .i64 6, .int .i64 5, .int .i64 5, .int .i64 0], .agg #[.int .i64 6, .int .i64 5, .int .i64 5, .int .i64 0], .bool false, .bool false, .bool false, .pointer (some ⟨r1, 0, none⟩), .string (bs hello), .bool false, .bool false, .bool false, .pointer (some ⟨r1, 0, none⟩), .int .i64 dd, .bool false, .bool false, .tuple #[.pointer (some ⟨r2, 0, none⟩), .pointer (some ⟨r3, 0, none⟩), .int .i64 0], .pointer (some ⟨r1, 0, none⟩), .tuple #[.pointer (some ⟨r2, 0, none⟩), .pointer (some ⟨r3, 0, none⟩), .int .i64 0], .pointer (some ⟨r2, 0, none⟩), .pointer (some ⟨r3, 0, none⟩), .int .i64 0, .int .i64 0, .bool false, .bool false, .pointer (some ⟨r2, 0, none⟩), .string (bs (hello.take 2)), .bool false, .bool false, .bool false, .pointer (some ⟨r3, 0, none⟩), .string (bs (hello.drop 2)), .bool false, .bool false, .tuple #[.pointer (some ⟨r4, 0, none⟩), .int .i64 0], .pointer (some ⟨r2, 0, none⟩), .pointer (some ⟨r3, 0, none⟩), .tuple #[.pointer (some ⟨r4, 0, none⟩), .int .i64 0], .pointer (some ⟨r4, 0, none⟩), .int .i64 0, .tuple #[.pointer (some ⟨r5, 0, none⟩), .int .i64 0], .pointer (some ⟨r1, 0, none⟩), .slice (some ⟨y, 0, none⟩) 1 1, .slice (some ⟨y, 0, none⟩) 1 1, .tuple #[.pointer (some ⟨r5, 0, none⟩), .int .i64 0], .pointer (some ⟨r5, 0, none⟩), .int .i64 0, .tuple #[.agg #[.int .i64 (hello.take 2).length, .int .i64 (runesN (hello.take 2)), .int .i64 (unitsN (hello.take 2)), .int .i64 (endsN (hello.take 2)), .string (bs (headOf (hello.take 2))), .string (bs (tailOf (hello.take 2)))], .int .i64 0], .pointer (some ⟨r1, 0, none⟩), .tuple #[.agg #[.int .i64 (hello.take 2).length, .int .i64 (runesN (hello.take 2)), .int .i64 (unitsN (hello.take 2)), .int .i64 (endsN (hello.take 2)), .string (bs (headOf (hello.take 2))), .string (bs (tailOf (hello.take 2)))], .int .i64 0], .agg #[.int .i64 (hello.take 2).length, .int .i64 (runesN (hello.take 2)), .int .i64 (unitsN (hello.take 2)), .int .i64 (endsN (hello.take 2)), .string (bs (headOf (hello.take 2))), .string (bs (tailOf (hello.take 2)))], .int .i64 0, .int .i64 0, .bool false, .bool false, .int .i64 0, .bool false, .bool false, .bool false, .int .i64 0, .bool false, .bool false, .bool false, .pointer (some ⟨r4, 0, none⟩), .pointer (some ⟨r1, 0, none⟩), .bool true, .bool false, .bool false, .bool false, .pointer (some ⟨r5, 0, none⟩), .string (bs (hello.take 2 ++ [10] ++ hello.drop 3)), .bool false, .bool false, .bool false, .pointer (some ⟨ww, 0, none⟩), .pointer (some ⟨ww, 1, none⟩), .int .i64 (runesN (hello.take 2)), .bool false, .bool false, .pointer (some ⟨r1, 0, none⟩), .func (.func 76) #[] #[.pointer (some ⟨a3, 0, none⟩), .pointer (some ⟨b3, 0, none⟩), .pointer (some ⟨c3, 0, none⟩)], .func (.func 76) #[] #[.pointer (some ⟨a3, 0, none⟩), .pointer (some ⟨b3, 0, none⟩), .pointer (some ⟨c3, 0, none⟩)], .bool false, .func (.func 76) #[] #[.pointer (some ⟨a3, 0, none⟩), .pointer (some ⟨b3, 0, none⟩), .pointer (some ⟨c3, 0, none⟩)], .slice A p.length c, undef, undef, undef, undef, undef, undef, undef, undef, undef, undef, undef], []⟩ ∧ (pcP N1 (A, c, p) W)) ?hAx41 ?ha41 ?hb41 ?hd41 ?hs41
  case hI41 =>
   rintro pre W W' row ⟨hT, hB, hr1, hnn⟩ hg hr
   exact ⟨hT.kc hg hr (by omega), hB.kc hg hr (by omega), hr1.kc hg hr (by omega), hnn.kc hg hr (by omega)⟩
  case hIx41 =>
   exact fun _ _ _ _ _ h _ _ => h
  case h041 =>
   exact ⟨by assumption, by assumption, by assumption, by assumption⟩
  case hAx41 =>
   rintro ⟨A, c, p⟩ a' _ W W' row ⟨rfl, hp⟩ hg hr
   exact ⟨rfl, hp.kc hg hr (by omega)⟩
  case ha41 =>
   skip
   rintro l41 pre ⟨A, c, p⟩ w41a hz41a hi41 hp hok41
   have hLa41 := Ltr.refl w41a
   clear hi41
   simp only [pcEnc, List.setIfInBounds_toArray, List.set_cons_zero, List.set_cons_succ]
   refine rj_begin fun hgK hgo => sk 14 (.slice A p.length c) ?_
   simp only [pp]
   refine rj_end hgo ?_
   exact And.intro hLa41 (And.intro rfl hp)
  case hb41 =>
   rintro l41 pre ⟨A, c, p⟩ a41 w41b hTwo41 hi41 ⟨rfl, hp⟩ hok41
   obtain ⟨hT, hB, hr1, hnn⟩ := hi41
   have hz241 := hTwo41.size
   have hBel41 := Bel.refl N1 w41b (by omega)
   have hlt_hnn_41 := hnn.lt
   have hsn : (((pre ++ [(A, c, p)]).map pcB).flatten).length = ((pre.map pcB).flatten).length + p.length := (by simp [pcB]); have hb3 : (((pre ++ [(A, c, p)]).map pcB).flatten).length ≤ 3 := Nat.le_trans (pcok_len hok41) (Nat.le_of_eq (flat3 hflB.1))
   refine wpIn_block <| rj_begin fun hgK hgo => ?_
   refine sx 118 (.int .i64 ((pre.map pcB).flatten).length) (by exact ld 3 nn 0 (hnn.cell 0)) <| sk 119 (.slice A p.length c) <| sk 120 (.int .i64 p.length) ?_
   simp only [pp]
   refine sx 121 (.int .i64 (((((pre ++ [(A, c, p)]).map pcB).flatten).length : Int))) (by exact ex_arith (e := (((pre.map pcB).flatten).length : Int) + p.length) (r := ((((pre ++ [(A, c, p)]).map pcB).flatten).length : Int)) (by kernel_rfl) (by omega) (by omega)) ?_
   simp only [pp]
   refine rj_store1 nn (.int .i64 (((((pre ++ [(A, c, p)]).map pcB).flatten).length : Int))) rfl rfl (by kernel_rfl) rfl rfl (by kernel_rfl) hnn (by kernel_rfl) fun w42 hU42 hn42 => ?_
   have hz42 := hU42.size
   replace hT := hT.upd hU42 (by omega)
   replace hB := hB.upd hU42 (by omega)
   replace hr1 := hr1.upd hU42 (by omega)
   replace hTwo41 := hTwo41.upd hU42 (by omega)
   replace hBel41 := hBel41.upd hU42 (by omega)
   clear hnn
   have hnn := hn42
   clear hn42
   try simp only [pp]
   refine rj_end hgo ?_
   try simp only [Exit.then, Exit.inBlock]
   exact ⟨hTwo41, hBel41, by assumption, by assumption, by assumption, by assumption⟩
  case hd41 =>
   rintro pre w41d hz41d hS41 hi41 hM41
   obtain ⟨hT, hB, hr1, hnn⟩ := hi41
   replace hM41 : Mark w36.heap.size w41d := hM41
   have hlt_hnn_41 := hnn.lt
   have hlen3 : ((pre.map pcB).flatten).length = 3 := by (rw [hS41]; exact flat3 hflB.1)
   refine hKK39 _ _ <| wp_seq_k fun KK43 hKK43 => rl_begin fun hgK hgo => ?_
   refine tx 122 (.int .i64 ((pre.map pcB).flatten).length) (by exact ld 3 nn 0 (hnn.cell 0)) ?_
   simp only [pp]
   refine tx 123 (.bool true) (by exact eqt (x := ((pre.map pcB).flatten).length) (y := 3) (by omega)) <| tk 124 (.bool true) <| tk 125 (.pointer (some ⟨r1, 0, none⟩)) ?_
   simp only [pp]
   refine rl_call (some 126) 21 #[.pointer (some ⟨r1, 0, none⟩), .func (.func 57) #[] #[]] rfl (by kernel_rfl) (by kernel_rfl) (first3 N1 r1 v1 t1 _ hT (by omega) hr1) ?_
   rintro e w44 ⟨rfl, hL44⟩
   refine ⟨_, rfl, ?_⟩
   have hz44 := hL44.size
   try simp only [pp]
   refine tx 127 (.bool true) (by exact eqt (x := 3) (y := 3) (by omega)) <| tk 128 (.bool true) <| tk 0 (.bool true) ?_
   simp only [pp]
   refine rl_end hgo <| hKK43 _ _ ?_
   refine wp_ret ?_
   try simp only [Exit.then, Exit.inBlock]
   replace hM41 := hM41.later hL44
   refine bm_mark hM41 ?_
   rintro w45 hG45 hZ45
   have hr45 := kcr hM41
   clear hM41
   replace hT := hT.later hL44
   replace hT := hT.kc hG45 hr45 (by omega)
   replace hB := hB.later hL44
   replace hB := hB.kc hG45 hr45 (by omega)
   replace hr1 := hr1.later hL44
   replace hr1 := hr1.kc hG45 hr45 (by omega)
   replace hnn := hnn.later hL44
   replace hnn := hnn.kc hG45 hr45 (by omega)
   refine bm_ret (v := .bool true) (res1 rfl (res_tmp (by kernel_rfl))) ?_
   exact ⟨rfl, hB⟩
  case hs41 =>
   exact fun _ _ _ _ _ h _ => h.elim
def nodeT (t : TypeId) : Bool := !(t == 31 || t == 9 || t == 27)
/-- all stays but rows of ropes, rows of strings, and books -/
structure Tl (w w' : World) : Prop where
  size : w.heap.size ≤ w'.heap.size
  keep : ∀ B t cs, Blk w B t cs → nodeT t = true → Blk w' B t cs
theorem Tl.refl (w : World) : Tl w w := ⟨Nat.le_refl _, fun _ _ _ h _ => h⟩
theorem Tl.trans {a b c : World} (h : Tl a b) (k : Tl b c) : Tl a c := ⟨Nat.le_trans h.size k.size, fun B t cs hb ht => k.keep B t cs (h.keep B t cs hb ht) ht⟩
theorem Ltr.tl {w w' : World} (h : Ltr w w') : Tl w w' := ⟨h.size, fun B t cs hb _ => hb.later h⟩
theorem Tl.later {a w w' : World} (h : Tl a w) (hl : Ltr w w') : Tl a w' := h.trans hl.tl
theorem Upd.tl {w w' : World} {g : Nat} {t : TypeId} {cs : Array Value} (hu : Upd g w w') (hg : Blk w g t cs) (ht : nodeT t = false) : Tl w w' := ⟨by rw [hu.size]; exact Nat.le_refl _, fun B t' cs' hb ht' => hb.upd hu fun e => by
  subst e
  have h1 := hb.symm.trans hg
  cases h1
  rw [ht] at ht'; cases ht'⟩
theorem grown_tl {n : Nat} {E : TypeId} {w w' : World} {v : Value} {xs : List Value} (ho : Own n E w v xs) (hE : nodeT E = false) (hg : w.grownBy w' v.ownBlock) : Tl w w' :=
  ⟨hg.size, fun B t cs hb ht => hb.gr hg (blk_ne ho hb fun e => by rw [e, hE] at ht; cases ht)⟩
theorem Tl.gr {n : Nat} {E : TypeId} {a w w' : World} {v : Value} {xs : List Value} (h : Tl a w) (hg : w.grownBy w' v.ownBlock) (ho : Own n E w v xs ∧ nodeT E = false) : Tl a w' := h.trans (grown_tl ho.1 ho.2 hg)
theorem TreeIn.tl {n m : Nat} {w w' : World} (hm : n ≤ m) (h : Tl w w') : ∀ {t : Tr} {v : Value}, TreeIn n w t v → TreeIn m w' t v
  | .tip l, v, ⟨b, e, h1, h2⟩ => ⟨b, e, by omega, h.keep _ _ _ h2 rfl⟩
  | .fork x y, v, ⟨b, vx, vy, e, h1, h2, h3, h4⟩ => ⟨b, vx, vy, e, by omega, h.keep _ _ _ h2 rfl, h3.tl hm h, h4.tl hm h⟩
theorem RopeAt.tl {w w' : World} {b : Nat} {l : List UInt8} (hr : RopeAt w b l) (h : Tl w w') : RopeAt w' b l := by
  obtain ⟨v, h1, h2⟩ := hr
  refine ⟨v, h.keep _ _ _ h1 rfl, h2.imp id fun ⟨t, h3, h4, h5⟩ => ⟨t, h3, h4, TreeIn.tl h.size h h5⟩⟩
theorem Own.mono {n m : Nat} {E : TypeId} {w : World} {v : Value} {xs : List Value} (h : Own n E w v xs) (hm : m ≤ n) : Own m E w v xs := by
  refine ⟨Nat.le_trans hm h.1, h.2.1, h.2.2.imp id fun ⟨g, cap, cur, h1, h2, h3⟩ => ⟨g, cap, cur, h1, Nat.le_trans hm h2, h3⟩⟩
theorem own_ne {n m : Nat} {E F : TypeId} {w : World} {v u : Value} {xs ys : List Value} (h : Own n E w v xs) (k : Own m F w u ys) (hne : E ≠ F) : u.ownBlock = none ∨ v.ownBlock ≠ u.ownBlock := by
  rcases k.2.2 with ⟨rfl, -⟩ | ⟨g, cap, cur, rfl, -, hg, -⟩
  · exact .inl rfl
  · exact .inr (blk_ne (B := g) (cs := cur) h hg (fun e => hne e.symm))
theorem Own.gr {n m : Nat} {E F : TypeId} {w w' : World} {v u : Value} {xs ys : List Value} (k : Own m F w u ys) (hg : w.grownBy w' v.ownBlock) (h : Own n E w v xs ∧ E ≠ F) : Own m F w' u ys := by
  refine ⟨Nat.le_trans k.1 hg.size, k.2.kept hg ?_⟩
  rcases k.2.2 with ⟨rfl, -⟩ | ⟨g, cap, cur, rfl, -, hb, -⟩
  · cases hv : v.ownBlock with
    | none => exact .inl rfl
    | some k => exact .inr (by simp [Value.ownBlock])
  · exact .inr fun e => blk_ne (B := g) (cs := cur) h.1 hb (fun e => h.2 e.symm) (by rw [← e]; rfl)
theorem cells_blk {w : World} {B : Nat} {t : TypeId} {cs : List Value} (h : Blk w B t cs.toArray) : CellsAt w (some ⟨B, 0, none⟩) cs := fun _ =>
  ⟨B, 0, rfl, fun i v hi => by rw [h.cell, Nat.zero_add, List.getElem?_toArray]; exact hi⟩
/-- append([]byte{}, x...): new memory, or none -/
theorem ex_app0 {o : Oper} {ρ : Operand → Value} {s x : Operand} (ho : o.op = .call { callee := .builtin .append, args := #[s, x], argTypes := #[41, 41] }) (p : Nat) (hs : ρ s = .slice (some ⟨p, 0, none⟩) 0 0) (A : Option Addr) (c : Nat) (l : List UInt8) (hx : ρ x = .slice A l.length c)
    {w : World} (hA : BytesAt w A l) (hAc : A = none → c = 0) (hm : l.length ≤ 140737488355328) :
    ∃ v w', (execOp ρ o).run Tryd.prog w = .ok (.value v) w' ∧ Ltr w w' ∧ ∃ A' c', v = .slice A' l.length c' ∧ BytesAt w' A' l ∧ l.length ≤ c' ∧ (A' = none → c' = 0) := by
  obtain ⟨i, hi', hz0, hsz, hby⟩ := info_parts (show (Tryd.prog.info? 5).map (fun i => (i.zero, i.size, i.bytes)) = some (some (.int .u8 0), 1, 1) by kernel_rfl)
  have go : ∀ v w', (Builtin.append_ #[41, 41] o.type #[.slice (some ⟨p, 0, none⟩) 0 0, .slice A l.length c]).run Tryd.prog w = .ok v w' → (execOp ρ o).run Tryd.prog w = .ok (.value v) w' := fun v w' hr => by
    unfold execOp
    simp only [ho, resolve, invoke, builtin, Sem.run_bind, Sem.run_pure, Result.andThen_ok, List.map_toArray, List.map_cons, List.map_nil, hs, hx, hr]
  have ht : Tryd.prog.underlying 41 = some (.slice 5) := by kernel_rfl
  by_cases h0 : l.length = 0
  · obtain rfl : l = [] := List.length_eq_zero_iff.1 h0
    refine ⟨_, w, go _ _ (?_ : _ = Result.ok (.slice (some ⟨p, 0, none⟩) 0 0) w), Ltr.refl w, _, 0, rfl, BytesAt.nil _ _, Nat.le_refl _, fun _ => rfl⟩
    cases A with
    | none => rw [hAc rfl]; simp [Builtin.append_, run_underlying ht, sizeOf, typeInfo, hi', Builtin.lenOf, storeCells, Builtin.firstCells]
    | some ad =>
      have hl := run_loadCells_list (P := Tryd.prog) w ad [] (by intro j v hj; simp at hj)
      simp only [List.length_nil] at hl
      simp [Builtin.append_, run_underlying ht, sizeOf, typeInfo, hi', Builtin.lenOf, storeCells, Builtin.firstCells, hl]
  · obtain ⟨b, off, rfl, hc⟩ := hA (by omega)
    have hr := run_append_grow (P := Tryd.prog) w 41 o.type 5 i (.int .u8 0) ht hi' hz0 ⟨p, 0, none⟩ 0 0 [] (by simp) (by intro j v hj; simp at hj) ⟨b, off, none⟩ l.length c (bvals l) (by rw [bvals_len, hsz, Nat.mul_one])
      (fun j v hj => by
        have hj' : j < l.length := by have := (List.getElem?_eq_some_iff.1 hj).1; rwa [bvals_len] at this
        rw [bvals_get l j hj'] at hj; cases hj
        rw [add_none]; exact hc j hj') (by omega) (by omega) (growslice_fits (by omega) (by rw [hby]; omega))
    simp only [Nat.zero_add] at hr
    have hge := grownCap_ge w l.length 0 5
    refine ⟨_, _, go _ _ hr, bl_alloc (bl_drew (bl_refl _)), some ⟨w.heap.size, 0, none⟩, _, rfl, ?_, hge, fun e => by cases e⟩
    refine fun _ => ⟨w.heap.size, 0, rfl, fun j hj => ?_⟩
    have hb : Blk (w.drew.alloc (.cells (([] : List Value).toArray ++ (bvals l).toArray ++ Builtin.zeroCells (Value.int IntKind.u8 0).cells (grownCap w l.length 0 5 - l.length)) 5)) w.heap.size 5 _ := Blk.new _ _ _ rfl
    rw [hb.cell, Nat.zero_add, Array.getElem?_append_left (by simp [bvals_len]; omega)]
    have := bvals_get l j hj
    simpa using this
/-- a store of one cell of several -/
theorem rl_storeP {ops : Array Oper} {K : Act → World → Prop} {o : Oper} {rest : List Oper} {a : Act} {w : World} (g i : Nat) (v : Value) (cs : Array Value) {ty : TypeId} {x y : Operand} {t : TypeId} {old : Array Value} (hd : o.dst = none) (ho : o.op = .store ty x y) (hw : Region.wanted o (yielded ops a.tmps) = true)
    (hx : a.eval x = .pointer (some ⟨g, i, none⟩)) (hy : a.eval y = v) (hn : (Tryd.prog.info? ty).map (·.size) = some 1) (hg : Blk w g t old) (hi : i < old.size) (h1 : v.oneCell' = true) (hcs : old.setIfInBounds i v = cs)
    (h : ∀ w', Upd g w w' → Blk w' g t cs → wpL Tryd.prog ops K rest (a.put none undef) w') : wpL Tryd.prog ops K (o :: rest) a w := by
  subst hcs
  have hc : v.cells = #[v] := by cases v <;> first | rfl | (simp [Value.oneCell'] at h1)
  have hcell : w.cell? ⟨g, i, none⟩ = some old[i] := by rw [hg.cell]; simp [hi]
  have hfro : w.frozen? ⟨g, i, none⟩ = false := by
    have hg' : w.heap[g]? = some (.cells old t (0, 0)) := hg
    simp [World.frozen?, hg']
  have hst : (store (⟨g, i, none⟩ : Addr) v).run Tryd.prog w = .ok () (w.setRow g (old.setIfInBounds i v)) := by
    rw [run_store Tryd.prog w _ v _ h1, hcell]
    simp [hfro, setCell_eq_setRow w g i old t (0, 0) v hg]
  have hs : (storeVar ty ⟨g, i, none⟩ v).run Tryd.prog w = .ok () (w.setRow g (old.setIfInBounds i v)) := by
    cases hi' : Tryd.prog.info? ty with
    | none => simp [hi'] at hn
    | some f =>
      have hs : f.size = 1 := by simpa [hi'] using hn
      have ha : (⟨g, i, none⟩ : Addr).add 0 = ⟨g, i, none⟩ := by rw [add_none]; rfl
      simp [storeVar, sizeOf, typeInfo, hi', hs, hc, storeCells, ha, hst]
  have hr : (execOp a.eval o).run Tryd.prog w = .ok .skip (w.setRow g (old.setIfInBounds i v)) := by
    unfold execOp
    simp only [ho, hx, hy, Instr.storeAt, Instr.sureAddr, Sem.run_bind, Sem.run_pure, Result.andThen_ok, hs]
  unfold wpL; rw [if_pos hw]
  exact upon_step hr (.inr ⟨rfl, rfl⟩) (hd ▸ h _ (setRow_upd _ _ _) (setRow_blk _ hg))
theorem Tl.upd {a w w' : World} {g : Nat} (h : Tl a w) (hu : Upd g w w') (hg : ∃ t cs, Blk w g t cs ∧ nodeT t = false) : Tl a w' := by
  obtain ⟨t, cs, h1, h2⟩ := hg
  exact h.trans (hu.tl h1 h2)
/-- ropes, and what they should hold -/
structure Book (n : Nat) (w : World) (vr vt : Value) (rs : List (Nat × List UInt8)) : Prop where
  rope : Own n 31 w vr (rs.map fun p => .pointer (some ⟨p.1, 0, none⟩))
  text : Own n 9 w vt (rs.map fun p => .string (bs p.2))
  each : ∀ p ∈ rs, RopeAt w p.1 p.2
theorem Book.later {n : Nat} {w w' : World} {vr vt : Value} {rs : List (Nat × List UInt8)} (h : Book n w vr vt rs) (hl : Ltr w w') : Book n w' vr vt rs :=
  ⟨h.rope.later hl, h.text.later hl, fun p hp => (h.each p hp).later hl⟩
theorem ropes_snoc {w w' : World} {rs : List (Nat × List UInt8)} {b : Nat} {l : List UInt8} (h : ∀ p ∈ rs, RopeAt w p.1 p.2) (hr : RopeAt w b l) (ht : Tl w w') : ∀ p ∈ rs ++ [(b, l)], RopeAt w' p.1 p.2 := fun p hp => by
  rcases List.mem_append.1 hp with hp | hp
  · exact (h p hp).tl ht
  · rw [List.mem_singleton] at hp; subst hp; exact hr.tl ht
/-- a book one rope longer -/
def KeepP (n B : Nat) (rs : List (Nat × List UInt8)) (w : World) (e : Ending) (w' : World) : Prop :=
  e = .returned (.bool true) ∧ ∃ vr vt, Blk w' B 27 #[vr, vt] ∧ Book n w' vr vt rs ∧ Bel n w w' ∧ Tl w w'
set_option maxRecDepth 100000 in
set_option maxHeartbeats 8000000 in
theorem keep_any (n B b : Nat) (l : List UInt8) (vr vt : Value) (rs : List (Nat × List UInt8)) (w : World) (hx : Blk w B 27 #[vr, vt]) (hk : Book n w vr vt rs) (hnB : n ≤ B) (hr : RopeAt w b l) (hm : rs.length ≤ 4000000) :
    Calls Tryd.prog 90 #[.pointer (some ⟨B, 0, none⟩), .pointer (some ⟨b, 0, none⟩), .string (bs l)] w (KeepP n B (rs ++ [(b, l)]) w) := by
  have hTl := Tl.refl w
  have hBl := Bel.refl n w hk.rope.1
  have hO := hk.rope
  have hP := hk.text
  go_enter Tryd.func90, Tryd.ntmps90
  have hlt_hx := hx.lt
  refine wp_seq_k fun KK1 hKK1 => rl_begin fun hgK hgo => tk 6 (.bool false) ?_
  simp only [pp]
  refine rl_end hgo <| hKK1 _ _ <| wp_seq_k fun KK2 hKK2 => rl_begin fun hgK hgo => tk 7 (.pointer (some ⟨B, 0, none⟩)) <| tk 8 (.pointer (some ⟨B, 0, none⟩)) <| tk 9 (.pointer (some ⟨B, 0, none⟩)) <| tk 10 (.pointer (some ⟨B, 0, none⟩)) ?_
  simp only [pp]
  refine tx 11 vr (by exact ld 24 B 0 (hx.cell 0)) <| tk 12 (.pointer (some ⟨b, 0, none⟩)) ?_
  simp only [pp]
  refine rl_bslice (some 13) 31 #[.pointer (some ⟨b, 0, none⟩)] 1 rfl (by kernel_rfl) (fun W => by kernel_rfl) fun z w3 hL3 hp3 hz => ?_
  have hz3 := hL3.size
  have hlt3 := hz.lt
  try simp only [pp]
  replace hO := hO.later hL3
  have hrow4 := hO.row
  refine rl_appendF (z := .pointer none) (bytes := 8) (ys := [.pointer (some ⟨b, 0, none⟩)]) (zs := ((rs ++ [(b, l)]).map fun p => .pointer (some ⟨p.1, 0, none⟩))) (k := 1) (n' := (rs.length + 1)) (some 14) rfl (by kernel_rfl) rfl rfl rfl (by kernel_rfl) (by kernel_rfl) (by kernel_rfl) hO (cells_one hz) (by rfl) (by simp) (by simp) (fun h => by cases h) ((by simp [Value.oneCell'])) (by (simp only [List.length_map, List.length_cons, List.length_nil]; omega)) (by (simp only [List.length_map, List.length_cons, List.length_nil]; omega)) fun A5 c5 w4 ho4 hG4 => ?_
  replace hTl := hTl.later hL3
  replace hTl := hTl.gr hG4 (⟨hO, rfl⟩)
  replace hBl := hBl.later hL3
  replace hBl := hBl.gr hG4 (fun k hk => by have := hrow4 k hk; omega)
  replace hP := hP.later hL3
  replace hP := hP.gr hG4 (⟨hO, by decide⟩)
  replace hx := hx.later hL3
  replace hx := hx.gr hG4 (blk_ne hO hx (by decide))
  clear hz
  clear hO
  have hO := ho4
  clear ho4
  have hz4 := hG4.size
  try simp only [pp]
  refine tk 15 (.pointer (some ⟨B, 0, none⟩)) <| tk 16 (.pointer (some ⟨B, 0, none⟩)) ?_
  simp only [pp]
  refine rl_storeP B 0 (.slice A5 (rs.length + 1) c5) #[.slice A5 (rs.length + 1) c5, vt] rfl rfl (by kernel_rfl) rfl rfl (by kernel_rfl) hx (by simp) (by kernel_rfl) rfl fun w5 hU5 hn5 => ?_
  have hz5 := hU5.size
  replace hTl := hTl.upd hU5 (⟨_, _, hx, rfl⟩)
  replace hBl := hBl.upd hU5 (by omega)
  replace hO := hO.upd hU5 (blk_ne hO hx (by decide))
  replace hP := hP.upd hU5 (blk_ne hP hx (by decide))
  clear hx
  have hx := hn5
  clear hn5
  try simp only [pp]
  refine rl_end hgo <| hKK2 _ _ <| wp_seq_k fun KK6 hKK6 => rl_begin fun hgK hgo => tk 17 (.pointer (some ⟨B, 0, none⟩)) <| tk 18 (.pointer (some ⟨B, 0, none⟩)) <| tk 19 (.pointer (some ⟨B, 0, none⟩)) <| tk 20 (.pointer (some ⟨B, 1, none⟩)) ?_
  simp only [pp]
  refine tx 21 vt (by exact ld 25 B 1 (hx.cell 1)) <| tk 22 (.string (bs l)) ?_
  simp only [pp]
  refine rl_bslice (some 23) 9 #[.string (bs l)] 1 rfl (by kernel_rfl) (fun W => by kernel_rfl) fun y w7 hL7 hp7 hy => ?_
  have hz7 := hL7.size
  have hlt7 := hy.lt
  try simp only [pp]
  replace hP := hP.later hL7
  have hrow8 := hP.row
  refine rl_appendF (z := .string ⟨#[]⟩) (bytes := 16) (ys := [.string (bs l)]) (zs := ((rs ++ [(b, l)]).map fun p => .string (bs p.2))) (k := 1) (n' := (rs.length + 1)) (some 24) rfl (by kernel_rfl) rfl rfl rfl (by kernel_rfl) (by kernel_rfl) (by kernel_rfl) hP (cells_one hy) (by rfl) (by simp) (by simp) (fun h => by cases h) ((by simp [Value.oneCell'])) (by (simp only [List.length_map, List.length_cons, List.length_nil]; omega)) (by (simp only [List.length_map, List.length_cons, List.length_nil]; omega)) fun A6 c6 w8 ho8 hG8 => ?_
  replace hTl := hTl.later hL7
  replace hTl := hTl.gr hG8 (⟨hP, rfl⟩)
  replace hBl := hBl.later hL7
  replace hBl := hBl.gr hG8 (fun k hk => by have := hrow8 k hk; omega)
  replace hO := hO.later hL7
  replace hO := hO.gr hG8 (⟨hP, by decide⟩)
  replace hx := hx.later hL7
  replace hx := hx.gr hG8 (blk_ne hP hx (by decide))
  clear hy
  clear hP
  have hP := ho8
  clear ho8
  have hz8 := hG8.size
  try simp only [pp]
  refine tk 25 (.pointer (some ⟨B, 0, none⟩)) <| tk 26 (.pointer (some ⟨B, 1, none⟩)) ?_
  simp only [pp]
  refine rl_storeP B 1 (.slice A6 (rs.length + 1) c6) #[.slice A5 (rs.length + 1) c5, .slice A6 (rs.length + 1) c6] rfl rfl (by kernel_rfl) rfl rfl (by kernel_rfl) hx (by simp) (by kernel_rfl) rfl fun w9 hU9 hn9 => ?_
  have hz9 := hU9.size
  replace hTl := hTl.upd hU9 (⟨_, _, hx, rfl⟩)
  replace hBl := hBl.upd hU9 (by omega)
  replace hO := hO.upd hU9 (blk_ne hO hx (by decide))
  replace hP := hP.upd hU9 (blk_ne hP hx (by decide))
  clear hx
  have hx := hn9
  clear hn9
  try simp only [pp]
  refine rl_end hgo <| hKK6 _ _ <| wp_seq_k fun KK10 hKK10 => rl_begin fun hgK hgo => tk 27 (.pointer (some ⟨b, 0, none⟩)) <| tk 28 (.bool true) <| tk 6 (.bool true) ?_
  simp only [pp]
  refine rl_end hgo <| hKK10 _ _ ?_
  refine wp_ret ?_
  try simp only [Exit.then, Exit.inBlock]
  refine bp_ret (v := .bool true) (res1 rfl (res_tmp (by kernel_rfl))) ?_
  exact ⟨rfl, _, _, hx, ⟨hO, hP, ropes_snoc hk.each hr hTl⟩, hBl, hTl⟩
theorem ex_rem {o : Oper} {ρ : Operand → Value} {ty ty2 : TypeId} {x y : Operand} (k : Int) (n : Nat) (ho : o.op = .binOp .rem ty x y ty2) (hx : ρ x = .int .i64 k) (hy : ρ y = .int .i64 (n : Int)) (hu : Tryd.prog.underlying ty = some (.int .i64)) (h0 : 0 < n) (w : World) :
    (execOp ρ o).run Tryd.prog w = .ok (.value (.int .i64 (Int.tmod k n))) w := by
  have h1 : ¬ (n = 0) := by omega
  unfold execOp
  simp only [ho, hx, hy]
  go_simp
def whichV (k : Int) (n : Nat) : Nat := (Int.tmod k n).natAbs
theorem whichV_lt (k : Int) (n : Nat) (h : 0 < n) : whichV k n < n := by
  unfold whichV
  rw [Int.natAbs_tmod]
  exact Nat.mod_lt _ (by omega)
set_option maxRecDepth 100000 in
set_option maxHeartbeats 8000000 in
theorem which_any (k : Int) (n : Nat) (h : 0 < n) (hm : n ≤ 1000000000) (w : World) :
    Calls Tryd.prog 25 #[.int .i64 k, .int .i64 n] w fun e w' => e = .returned (.int .i64 (whichV k n)) ∧ Ltr w w' := by
  have hB := Ltr.refl w
  have hv := whichV_lt k n h
  have hd : whichV k n = (Int.tmod k n).natAbs := rfl
  go_enter Tryd.func25, Tryd.ntmps25
  refine wp_seq_k fun KK1 hKK1 => rl_begin fun hgK hgo => tk 4 (.int .i64 0) ?_
  simp only [pp]
  refine rl_end hgo <| hKK1 _ _ <| wp_seq_k fun KK2 hKK2 => rl_begin fun hgK hgo => tk 5 (.int .i64 k) <| tk 6 (.int .i64 n) ?_
  simp only [pp]
  refine tx 7 (.int .i64 (Int.tmod k n)) (by exact ex_rem k n rfl rfl rfl (by kernel_rfl) h _) <| tk 0 (.int .i64 (Int.tmod k n)) ?_
  simp only [pp]
  refine rl_end hgo <| hKK2 _ _ <| wp_seq_k fun KK3 hKK3 => wp_seq_k fun KK4 hKK4 => rl_begin fun hgK hgo => tk 8 (.int .i64 (Int.tmod k n)) ?_
  simp only [pp]
  by_cases h1 : Int.tmod k n < 0
  ·refine tx 9 (.bool true) (by exact ebt (c := (Int.tmod k n : Int) < 0) (by omega)) ?_
   simp only [pp]
   refine rl_end hgo <| hKK4 _ _ <| wp_cond_true (by kernel_rfl) <| rl_begin fun hgK hgo => tk 10 (.int .i64 (Int.tmod k n)) ?_
   simp only [pp]
   refine tx 11 (.int .i64 (-(Int.tmod k n))) (by exact ex_arith (e := 0 - Int.tmod k n) (r := -(Int.tmod k n)) (by kernel_rfl) (by omega) (by omega)) <| tk 0 (.int .i64 (-(Int.tmod k n))) ?_
   simp only [pp]
   refine rl_end hgo <| hKK3 _ _ <| wp_seq_k fun KK5 hKK5 => rl_begin fun hgK hgo => tk 12 (.int .i64 (-(Int.tmod k n))) <| tk 4 (.int .i64 (-(Int.tmod k n))) ?_
   simp only [pp]
   refine rl_end hgo <| hKK5 _ _ ?_
   refine wp_ret ?_
   try simp only [Exit.then, Exit.inBlock]
   refine bp_ret (v := .int .i64 (-(Int.tmod k n))) (res1 rfl (res_tmp (by kernel_rfl))) ?_
   exact ⟨ret_int (by omega), hB⟩
  ·refine tx 9 (.bool false) (by exact ebf (c := (Int.tmod k n : Int) < 0) (by omega)) ?_
   simp only [pp]
   refine rl_end hgo <| hKK4 _ _ <| wp_cond_false (by kernel_rfl) <| wp_skip <| hKK3 _ _ <| wp_seq_k fun KK6 hKK6 => rl_begin fun hgK hgo => tk 12 (.int .i64 (Int.tmod k n)) <| tk 4 (.int .i64 (Int.tmod k n)) ?_
   simp only [pp]
   refine rl_end hgo <| hKK6 _ _ ?_
   refine wp_ret ?_
   try simp only [Exit.then, Exit.inBlock]
   refine bp_ret (v := .int .i64 (Int.tmod k n)) (res1 rfl (res_tmp (by kernel_rfl))) ?_
   exact ⟨ret_int (by omega), hB⟩
def spanB (n lo hi : Int) : Bool := decide (0 ≤ lo ∧ lo ≤ hi ∧ hi ≤ n)
set_option maxRecDepth 100000 in
set_option maxHeartbeats 8000000 in
theorem Span_any (n lo hi : Int) (w : World) : Calls Tryd.prog 59 #[.int .i64 n, .int .i64 lo, .int .i64 hi] w fun e w' => e = .returned (.bool (spanB n lo hi)) ∧ Ltr w w' := by
  have hB := Ltr.refl w
  go_enter Tryd.func59, Tryd.ntmps59
  refine wp_seq_k fun KK1 hKK1 => rl_begin fun hgK hgo => tk 6 (.bool false) ?_
  simp only [pp]
  refine rl_end hgo <| hKK1 _ _ <| wp_seq_k fun KK2 hKK2 => rl_begin fun hgK hgo => tk 7 (.int .i64 lo) ?_
  simp only [pp]
  by_cases h1 : lo ≥ 0
  ·refine tx 8 (.bool true) (by exact ebt (c := (lo : Int) ≥ 0) (by omega)) <| tk 9 (.bool true) <| tk 10 (.int .i64 lo) <| tk 11 (.int .i64 hi) ?_
   simp only [pp]
   by_cases h2 : lo ≤ hi
   ·refine tx 12 (.bool true) (by exact ebt (c := (lo : Int) ≤ hi) (by omega)) <| tk 13 (.bool true) <| tk 14 (.bool true) <| tk 15 (.int .i64 hi) <| tk 16 (.int .i64 n) ?_
    simp only [pp]
    by_cases h3 : hi ≤ n
    ·refine tx 17 (.bool true) (by exact ebt (c := (hi : Int) ≤ n) (by omega)) <| tk 18 (.bool true) <| tk 6 (.bool true) ?_
     simp only [pp]
     refine rl_end hgo <| hKK2 _ _ ?_
     refine wp_ret ?_
     try simp only [Exit.then, Exit.inBlock]
     refine bp_ret (v := .bool true) (res1 rfl (res_tmp (by kernel_rfl))) ?_
     exact ⟨by rw [spanB, decide_eq_true (by omega)], hB⟩
    ·refine tx 17 (.bool false) (by exact ebf (c := (hi : Int) ≤ n) (by omega)) <| tk 18 (.bool false) <| tk 6 (.bool false) ?_
     simp only [pp]
     refine rl_end hgo <| hKK2 _ _ ?_
     refine wp_ret ?_
     try simp only [Exit.then, Exit.inBlock]
     refine bp_ret (v := .bool false) (res1 rfl (res_tmp (by kernel_rfl))) ?_
     exact ⟨by rw [spanB, decide_eq_false (by omega)], hB⟩
   ·refine tx 12 (.bool false) (by exact ebf (c := (lo : Int) ≤ hi) (by omega)) <| tk 13 (.bool false) <| tk 14 (.bool false) ?_
    simp only [pp]
    refine rl_pass (some 15) rfl (by kernel_rfl) ?_
    try simp only [pp]
    refine rl_pass (some 16) rfl (by kernel_rfl) ?_
    try simp only [pp]
    refine rl_pass (some 17) rfl (by kernel_rfl) ?_
    try simp only [pp]
    refine tk 18 (.bool false) <| tk 6 (.bool false) ?_
    simp only [pp]
    refine rl_end hgo <| hKK2 _ _ ?_
    refine wp_ret ?_
    try simp only [Exit.then, Exit.inBlock]
    refine bp_ret (v := .bool false) (res1 rfl (res_tmp (by kernel_rfl))) ?_
    exact ⟨by rw [spanB, decide_eq_false (by omega)], hB⟩
  ·refine tx 8 (.bool false) (by exact ebf (c := (lo : Int) ≥ 0) (by omega)) <| tk 9 (.bool false) ?_
   simp only [pp]
   refine rl_pass (some 10) rfl (by kernel_rfl) ?_
   try simp only [pp]
   refine rl_pass (some 11) rfl (by kernel_rfl) ?_
   try simp only [pp]
   refine rl_pass (some 12) rfl (by kernel_rfl) ?_
   try simp only [pp]
   refine tk 13 (.bool false) <| tk 14 (.bool false) ?_
   simp only [pp]
   refine rl_pass (some 15) rfl (by kernel_rfl) ?_
   try simp only [pp]
   refine rl_pass (some 16) rfl (by kernel_rfl) ?_
   try simp only [pp]
   refine rl_pass (some 17) rfl (by kernel_rfl) ?_
   try simp only [pp]
   refine tk 18 (.bool false) <| tk 6 (.bool false) ?_
   simp only [pp]
   refine rl_end hgo <| hKK2 _ _ ?_
   refine wp_ret ?_
   try simp only [Exit.then, Exit.inBlock]
   refine bp_ret (v := .bool false) (res1 rfl (res_tmp (by kernel_rfl))) ?_
   exact ⟨by rw [spanB, decide_eq_false (by omega)], hB⟩
theorem Span_true (n lo hi : Int) (h : 0 ≤ lo ∧ lo ≤ hi ∧ hi ≤ n) (w : World) : Calls Tryd.prog 59 #[.int .i64 n, .int .i64 lo, .int .i64 hi] w fun e w' => e = .returned (.bool true) ∧ Ltr w w' := by
  have := Span_any n lo hi w
  rwa [spanB, decide_eq_true h] at this
theorem Span_false (n lo hi : Int) (h : ¬ (0 ≤ lo ∧ lo ≤ hi ∧ hi ≤ n)) (w : World) : Calls Tryd.prog 59 #[.int .i64 n, .int .i64 lo, .int .i64 hi] w fun e w' => e = .returned (.bool false) ∧ Ltr w w' := by
  have := Span_any n lo hi w
  rwa [spanB, decide_eq_false h] at this
def repl (b : List UInt8) (lo hi : Nat) (t : List UInt8) : List UInt8 := b.take lo ++ t ++ b.drop hi
theorem cutA_none {A : Option Addr} {c : Nat} (h : A = none → c = 0) (lo : Nat) : cutA A c lo = none → c - lo = 0 := fun e => by
  unfold cutA at e
  split at e
  · have := h e; omega
  · cases A with
    | none => have := h rfl; omega
    | some a => cases e
def RowP (l : List UInt8) (w : World) (e : Ending) (w' : World) : Prop := ∃ A c, e = .returned (.slice A l.length c) ∧ Ltr w w' ∧ BytesAt w' A l ∧ l.length ≤ c ∧ (A = none → c = 0)
theorem Own.none {n : Nat} {E : TypeId} {w : World} {A : Option Addr} {k c : Nat} {xs : List Value} (h : Own n E w (.slice A k c) xs) : A = none → c = 0 := fun e => by
  rcases h.2.2 with ⟨h1, -⟩ | ⟨g, cap, cur, h1, -⟩
  · cases h1; rfl
  · cases h1; cases e
set_option maxRecDepth 100000 in
set_option maxHeartbeats 8000000 in
theorem Replaced_any (A T : Option Addr) (c d lo hi : Nat) (b t : List UInt8) (w : World) (h1 : lo ≤ hi) (h2 : hi ≤ b.length) (hA : BytesAt w A b) (hc : b.length ≤ c) (hAc : A = none → c = 0) (hU : BytesAt w T t) (hd : t.length ≤ d) (hTd : T = none → d = 0) (hm : b.length + t.length ≤ 200000000) :
    Calls Tryd.prog 48 #[.slice A b.length c, .int .i64 lo, .int .i64 hi, .slice T t.length d] w (RowP (repl b lo hi t) w) := by
  have hB := Ltr.refl w
  replace hA := hA.n
  replace hU := hU.n
  have hO := Own.nil w.heap.size 5 w (Nat.le_refl _)
  have l1 : (b.take lo).length = lo := by rw [List.length_take]; omega
  have l2 : (b.take lo ++ t).length = lo + t.length := by rw [List.length_append, l1]
  have l3 : (repl b lo hi t).length = lo + t.length + (b.length - hi) := by unfold repl; rw [List.length_append, l2, List.length_drop]
  go_enter Tryd.func48, Tryd.ntmps48
  refine wp_seq_k fun KK1 hKK1 => rl_begin fun hgK hgo => tk 8 (.slice none 0 0) ?_
  simp only [pp]
  refine rl_end hgo <| hKK1 _ _ <| wp_seq_k fun KK2 hKK2 => rl_begin fun hgK hgo => tk 9 (.slice none 0 0) ?_
  simp only [pp]
  refine rl_end hgo <| hKK2 _ _ <| wp_seq_k fun KK3 hKK3 => rl_begin fun hgK hgo => tk 10 (.slice none 0 0) <| tk 11 (.slice A b.length c) <| tk 12 (.int .i64 lo) ?_
  simp only [pp]
  refine tx 13 (.slice (cutA A c 0) lo (c - 0)) (by exact ex_cutN 0 lo lo (by omega) rfl rfl (.inr ⟨rfl, rfl⟩) (.inl rfl) (by kernel_rfl) (fun _ => by kernel_rfl) (by omega) (by omega) (by omega) _) ?_
  simp only [pp]
  have hrow4 := hO.row
  refine rl_appendF (z := .int .u8 0) (bytes := 1) (ys := bvals ((b.take lo).drop 0)) (zs := bvals (b.take lo)) (k := lo) (n' := lo) (some 14) rfl (by kernel_rfl) rfl rfl rfl (by kernel_rfl) (by kernel_rfl) (by kernel_rfl) hO (bytesAt_iff.1 (hA.at.cut c 0 lo (by omega) (by omega) hc)) (by rw [bvals_len, List.drop_zero, l1]) (by rfl) (by rw [bvals_len, l1]) (cutA_none hAc 0) (one_bvals) (by (simp only [bvals_len, List.length_nil, List.drop_zero]; omega)) (by (simp only [bvals_len, List.length_nil, List.drop_zero]; omega)) fun A5 c5 w4 ho4 hG4 => ?_
  replace hB := hB.gr hG4 (fun k hk => by have := hrow4 k hk; omega)
  replace hA := hA.gr hG4 (fun k hk => by have := hrow4 k hk; omega)
  replace hU := hU.gr hG4 (fun k hk => by have := hrow4 k hk; omega)
  clear hO
  have hO := ho4
  clear ho4
  have hz4 := hG4.size
  try simp only [pp]
  refine tk 9 (.slice A5 lo c5) ?_
  simp only [pp]
  refine rl_end hgo <| hKK3 _ _ <| wp_seq_k fun KK5 hKK5 => rl_begin fun hgK hgo => tk 15 (.slice A5 lo c5) <| tk 16 (.slice T t.length d) ?_
  simp only [pp]
  have hrow6 := hO.row
  refine rl_appendF (z := .int .u8 0) (bytes := 1) (ys := bvals t) (zs := bvals (b.take lo ++ t)) (k := t.length) (n' := (lo + t.length)) (some 17) rfl (by kernel_rfl) rfl rfl rfl (by kernel_rfl) (by kernel_rfl) (by kernel_rfl) hO (bytesAt_iff.1 hU.at) (by rw [bvals_len]) (by rw [bvals_append]) (by rw [bvals_len, l2]) (hTd) (one_bvals) (by (simp only [bvals_len]; omega)) (by (simp only [bvals_len]; omega)) fun A6 c6 w6 ho6 hG6 => ?_
  replace hB := hB.gr hG6 (fun k hk => by have := hrow6 k hk; omega)
  replace hA := hA.gr hG6 (fun k hk => by have := hrow6 k hk; omega)
  replace hU := hU.gr hG6 (fun k hk => by have := hrow6 k hk; omega)
  clear hO
  have hO := ho6
  clear ho6
  have hz6 := hG6.size
  try simp only [pp]
  refine tk 9 (.slice A6 (lo + t.length) c6) ?_
  simp only [pp]
  refine rl_end hgo <| hKK5 _ _ <| wp_seq_k fun KK7 hKK7 => rl_begin fun hgK hgo => tk 18 (.slice A6 (lo + t.length) c6) <| tk 19 (.slice A b.length c) <| tk 20 (.int .i64 hi) ?_
  simp only [pp]
  refine tx 21 (.slice (cutA A c hi) (b.length - hi) (c - hi)) (by exact ex_cutN hi b.length (b.length - hi) (by omega) rfl rfl (.inl rfl) (.inr ⟨rfl, rfl⟩) (by kernel_rfl) (fun _ => by kernel_rfl) (by omega) (by omega) (by omega) _) ?_
  simp only [pp]
  have hrow8 := hO.row
  refine rl_appendF (z := .int .u8 0) (bytes := 1) (ys := bvals ((b.take b.length).drop hi)) (zs := bvals (repl b lo hi t)) (k := (b.length - hi)) (n' := (repl b lo hi t).length) (some 22) rfl (by kernel_rfl) rfl rfl rfl (by kernel_rfl) (by kernel_rfl) (by kernel_rfl) hO (bytesAt_iff.1 (hA.at.cut c hi b.length (by omega) (by omega) hc)) (by rw [bvals_len, List.take_length, List.length_drop]) (by rw [← bvals_append, List.take_length]; rfl) (by rw [bvals_len]) (cutA_none hAc hi) (one_bvals) (by (simp only [bvals_len, List.length_drop, List.length_take]; omega)) (by (simp only [bvals_len, List.length_drop, List.length_take]; omega)) fun A7 c7 w8 ho8 hG8 => ?_
  replace hB := hB.gr hG8 (fun k hk => by have := hrow8 k hk; omega)
  replace hA := hA.gr hG8 (fun k hk => by have := hrow8 k hk; omega)
  replace hU := hU.gr hG8 (fun k hk => by have := hrow8 k hk; omega)
  clear hO
  have hO := ho8
  clear ho8
  have hz8 := hG8.size
  try simp only [pp]
  refine tk 8 (.slice A7 ((repl b lo hi t).length) c7) ?_
  simp only [pp]
  refine rl_end hgo <| hKK7 _ _ ?_
  refine wp_ret ?_
  try simp only [Exit.then, Exit.inBlock]
  refine bp_ret (v := .slice A7 ((repl b lo hi t).length) c7) (res1 rfl (res_tmp (by kernel_rfl))) ?_
  exact ⟨A7, c7, rfl, hB, hO.bytes, by have := hO.cap; rwa [bvals_len] at this, hO.none⟩
end Go.Proofs.YtliphfgiaioebaaDoor
