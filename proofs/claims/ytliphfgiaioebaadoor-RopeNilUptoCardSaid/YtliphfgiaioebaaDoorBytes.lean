/-
  Package rope: Bytes.
-/
import Derived.Test.YtliphfgiaioebaaDoorIter
import Derived.Laws.MakeOwn
namespace Go.Proofs.YtliphfgiaioebaaDoor
set_option linter.unusedVariables false
set_option linter.unusedSimpArgs false
open Go.RowKit
theorem blk_ne {n : Nat} {E t : TypeId} {w : World} {v : Value} {xs : List Value} {B : Nat} {cs : Array Value} (ho : Own n E w v xs) (hb : Blk w B t cs) (h : t ≠ E) : v.ownBlock ≠ some B := by
  rcases ho.2.2 with ⟨rfl, _⟩ | ⟨g, cap, cur, rfl, _, hgb, _⟩
  · simp [Value.ownBlock]
  · intro e
    obtain rfl : g = B := by simpa [Value.ownBlock] using e
    rw [hb] at hgb; cases hgb; exact h rfl
theorem one_bvals {l : List UInt8} : ∀ u ∈ bvals l, u.oneCell' = true := by
  intro u hu
  obtain ⟨x, -, rfl⟩ := List.mem_map.1 hu
  rfl
theorem rj_appendF {r : Option Nat} {ops : Array Oper} {K : Act → World → Prop} {o : Oper} {rest : List Oper} {a : Act} {w : World} (d : Option Tmp) {n k n' : Nat} {E t : TypeId} {bytes : Nat} {z : Value} {s x : Operand} {v : Value} {xs ys zs : List Value} {A : Option Addr} {c : Nat}
    (hd : o.dst = d) (hw : Region.wanted o (yielded ops a.tmps) = true) (ho : o.op = .call { callee := .builtin .append, args := #[s, x], argTypes := #[t, t] }) (hs : a.eval s = v) (hx : a.eval x = .slice A k c)
    (ht : Tryd.prog.underlying t = some (.slice E)) (hi : (Tryd.prog.info? E).map (fun i => (i.zero, i.size, i.bytes)) = some (some z, 1, bytes)) (hz : z.cells.size = 1)
    (hown : Own n E w v xs) (hA : CellsAt w A ys) (hlen : ys.length = k) (hzs : xs ++ ys = zs) (hn : zs.length = n') (hc0 : A = none → c = 0) (h1 : ∀ u ∈ ys, u.oneCell' = true) (hb : (xs.length + ys.length) * bytes ≤ 140737488355328) (hm : xs.length + ys.length ≤ 140737488355328)
    (h : ∀ A' c' w', Own n E w' (.slice A' n' c') zs → w.grownBy w' v.ownBlock → wpJ r Tryd.prog ops K rest (a.put d (.slice A' n' c')) w') : wpJ r Tryd.prog ops K (o :: rest) a w := by
  subst hlen hzs hn
  refine rj_append d hd hw ho hs hx ht hi hz hown hA hc0 h1 hb hm fun v' w' ho' hg hv => ?_
  obtain ⟨A', c', rfl, -, -⟩ := ho'.form
  exact h A' c' w' ho' hg
theorem rl_appendF {ops : Array Oper} {K : Act → World → Prop} {o : Oper} {rest : List Oper} {a : Act} {w : World} (d : Option Tmp) {n k n' : Nat} {E t : TypeId} {bytes : Nat} {z : Value} {s x : Operand} {v : Value} {xs ys zs : List Value} {A : Option Addr} {c : Nat}
    (hd : o.dst = d) (hw : Region.wanted o (yielded ops a.tmps) = true) (ho : o.op = .call { callee := .builtin .append, args := #[s, x], argTypes := #[t, t] }) (hs : a.eval s = v) (hx : a.eval x = .slice A k c)
    (ht : Tryd.prog.underlying t = some (.slice E)) (hi : (Tryd.prog.info? E).map (fun i => (i.zero, i.size, i.bytes)) = some (some z, 1, bytes)) (hz : z.cells.size = 1)
    (hown : Own n E w v xs) (hA : CellsAt w A ys) (hlen : ys.length = k) (hzs : xs ++ ys = zs) (hn : zs.length = n') (hc0 : A = none → c = 0) (h1 : ∀ u ∈ ys, u.oneCell' = true) (hb : (xs.length + ys.length) * bytes ≤ 140737488355328) (hm : xs.length + ys.length ≤ 140737488355328)
    (h : ∀ A' c' w', Own n E w' (.slice A' n' c') zs → w.grownBy w' v.ownBlock → wpL Tryd.prog ops K rest (a.put d (.slice A' n' c')) w') : wpL Tryd.prog ops K (o :: rest) a w := by
  subst hlen hzs hn
  refine rl_append d hd hw ho hs hx ht hi hz hown hA hc0 h1 hb hm fun v' w' ho' hg hv => ?_
  obtain ⟨A', c', rfl, -, -⟩ := ho'.form
  exact h A' c' w' ho' hg
theorem BRow.some {n : Nat} {w : World} {A : Option Addr} {c : Nat} {l : List UInt8} (h : BRow n w A c l) (e : A = none) : c = 0 := by
  obtain ⟨_, _, g, off, e', _⟩ := h; rw [e'] at e; cases e
theorem pcP.later {n : Nat} {x : Pc} {w w' : World} (h : pcP n x w) (hl : Ltr w w') : pcP n x w' := BRow.later h hl
theorem pcP.upd {n g : Nat} {x : Pc} {w w' : World} (h : pcP n x w) (hu : Upd g w w') (hg : ∀ a, x.1 = some a → a.block ≠ g) : pcP n x w' := by
  obtain ⟨h1, h2, g', off, e, h3, h4, h5⟩ := h
  have hne : g' ≠ g := hg _ e
  refine ⟨by rw [hu.size]; exact h1, h2, g', off, e, h3, by rw [hu.size]; exact h4, fun i hi => ⟨?_, ?_⟩⟩
  · rw [← (h5 i hi).1]; exact World.cell?_of_block (w := w) (a := ⟨g', off + i, none⟩) (hu.block g' hne)
  · rw [← (h5 i hi).2]; exact World.frozen?_of_block (w := w) (a := ⟨g', off + i, none⟩) (hu.block g' hne)
theorem pcP.kc {n D : Nat} {x : Pc} {w w' : World} {row : Option Nat} (h : pcP n x w) (hg : w.grownBy w' row) (hr : ∀ r, row = some r → D ≤ r ∧ ∃ o : Obj, w.heap[r]? = some o ∧ o.isCells = false) (hD : 0 ≤ 0) : pcP n x w' := BRow.kc h hg hr hD
theorem ex_make {o : Oper} {ρ : Operand → Value} {x y : Operand} (n c : Nat) (ho : o.op = .makeSlice 41 x y) (hx : ρ x = .int .i64 0) (hy : ρ y = .int .i64 (c : Int)) (hc : c ≤ 140737488355328) (w : World) (hn : n ≤ w.heap.size) :
    ∃ v w', (execOp ρ o).run Tryd.prog w = .ok (.value v) w' ∧ ∃ g, v = .slice (some ⟨g, 0, none⟩) 0 c ∧ Ltr w w' ∧ Own n 5 w' (.slice (some ⟨g, 0, none⟩) 0 c) [] := by
  obtain ⟨i, hi', hz0, hs, hby⟩ := info_parts (show (Tryd.prog.info? 5).map (fun i => (i.zero, i.size, i.bytes)) = some (some (.int .u8 0), 1, 1) by kernel_rfl)
  obtain ⟨w', hr, ho', hg⟩ := run_make_own (P := Tryd.prog) w n 41 5 i (.int .u8 0) 1 (by kernel_rfl) hi' hz0 hs .i64 .i64 c (by rw [hby]; omega) (by unfold maxLen; omega) hn
  refine ⟨_, w', ?_, w.heap.size, rfl, ⟨hg.os, hg.tape, hg.output, hg.size, fun k hk => hg.block k hk (by simp)⟩, Nat.le_trans hn hg.size, ho'⟩
  unfold execOp
  simp only [ho, hx, hy, Sem.run_bind, hr, Result.andThen_ok, Sem.run_pure]
def accB (m : Nat) (pre : List Pc) : List UInt8 := ((pre.map pcB).flatten).take m
theorem accB_snoc (m : Nat) (pre : List Pc) (x : Pc) : accB m (pre ++ [x]) = accB m pre ++ (pcB x).take (min (pcB x).length (m - (accB m pre).length)) := by
  unfold accB
  rw [List.map_append, List.flatten_append, List.take_append]
  congr 1
  simp only [List.map_cons, List.map_nil, List.flatten_cons, List.flatten_nil, List.append_nil, List.length_take]
  rw [List.take_eq_take_iff]
  omega
theorem accB_nil (m : Nat) : accB m [] = [] := by simp [accB]
theorem accB_le (m : Nat) (pre : List Pc) : (accB m pre).length ≤ m := by unfold accB; rw [List.length_take]; omega
theorem accB_done {m : Nat} {ps : List (List UInt8)} {xs : List Pc} (h : xs.map pcB = ps) : accB m xs = ps.flatten.take m := by unfold accB; rw [h]
theorem accB_stop {m : Nat} {ps : List (List UInt8)} {pre : List Pc} (h : PcOk ps pre) (hm : (accB m pre).length = m) : accB m pre = ps.flatten.take m := by
  obtain ⟨r, rfl⟩ := h
  unfold accB at *
  rw [List.length_take] at hm
  rw [List.flatten_append, List.take_append_of_le_length (by omega)]
def BytesP (l : List UInt8) (w : World) (e : Ending) (w' : World) : Prop :=
  ∃ A c, e = .returned (.tuple #[.slice A l.length c, .int .i64 0]) ∧ Ltr w w' ∧ Own w.heap.size 5 w' (.slice A l.length c) (bvals l)
set_option maxRecDepth 100000 in
set_option maxHeartbeats 8000000 in
theorem Bytes_in (b : Nat) (l : List UInt8) (lo hi : Nat) (w : World) (hr : RopeAt w b l) (h1 : lo ≤ hi) (h2 : hi ≤ l.length) (hm : l.length ≤ 1000000000) :
    Calls Tryd.prog 44 #[.pointer (some ⟨b, 0, none⟩), .int .i64 lo, .int .i64 hi] w (BytesP ((l.take hi).drop lo) w) := by
  have hB := Ltr.refl w
  obtain ⟨v, ot, hr⟩ := hr.n
  have hfl := (pcs_flatF hr lo (by omega)).1
  obtain ⟨m, hm0⟩ : ∃ m, m = hi - lo := ⟨_, rfl⟩
  have hfin : (pcsOf ot l lo false).flatten.take m = (l.take hi).drop lo := by rw [hfl, hm0, List.drop_take]
  refine (callsIn_wide (n := 0)).1 ?_
  refine callsIn_of_wp_marks Tryd.func44 rfl trivial ?_ rfl
  simp only [Tryd.ntmps44, List.size_toArray, List.length_cons, List.length_nil, Nat.reduceAdd, Nat.reduceSub, Array.replicate_succ, Array.replicate_zero, List.push_toArray, List.append_toArray, List.nil_append, List.cons_append]
  refine (wpIn_wide (n := 0)).2 ?_
  refine wp_seq_k fun KK1 hKK1 => ?_
  refine rl_begin fun hgK hgo => ?_
  refine rl_alloc (some 4) 3 #[.int .i64 lo] rfl (by kernel_rfl) (fun W => by kernel_rfl) fun pl w2 hL2 hp2 hpl => ?_
  replace hB := hB.later hL2
  replace hr := hr.later hL2
  have hz2 := hL2.size
  have hlt2 := hpl.lt
  try simp only [pa, pn, pb, pc, pd]
  refine rl_alloc (some 5) 3 #[.int .i64 hi] rfl (by kernel_rfl) (fun W => by kernel_rfl) fun ph w3 hL3 hp3 hph => ?_
  replace hB := hB.later hL3
  replace hr := hr.later hL3
  replace hpl := hpl.later hL3
  have hz3 := hL3.size
  have hlt3 := hph.lt
  try simp only [pa, pn, pb, pc, pd]
  refine rl_take (some 6) (.slice none 0 0) rfl (by kernel_rfl) (by kernel_rfl) ?_
  try simp only [pa, pn, pb, pc, pd]
  refine rl_take (some 7) (.int .i64 0) rfl (by kernel_rfl) (by kernel_rfl) ?_
  try simp only [pa, pn, pb, pc, pd]
  refine rl_nil ?_
  refine hgo.out _ _ ?_
  clear hgo hgK
  refine hKK1 _ _ ?_
  refine wp_seq_k fun KK4 hKK4 => ?_
  refine wp_seq_k fun KK5 hKK5 => ?_
  refine rl_begin fun hgK hgo => ?_
  refine rl_take (some 11) (.pointer (some ⟨b, 0, none⟩)) rfl (by kernel_rfl) (by kernel_rfl) ?_
  try simp only [pa, pn, pb, pc, pd]
  refine rl_take (some 12) (.int .i64 hi) rfl (by kernel_rfl) (by exact ld1 3 _ rfl ph 0 rfl (fun _ => by kernel_rfl) _ (hph.cell 0)) ?_
  try simp only [pa, pn, pb, pc, pd]
  refine rl_call (some 13) 77 #[.pointer (some ⟨b, 0, none⟩), .int .i64 hi] rfl (by kernel_rfl) (by kernel_rfl) (place_in b l hi h2 _ hr.at) ?_
  rintro e w6 ⟨rfl, hL6⟩
  refine ⟨_, rfl, ?_⟩
  replace hB := hB.later hL6
  replace hr := hr.later hL6
  replace hpl := hpl.later hL6
  replace hph := hph.later hL6
  have hz6 := hL6.size
  try simp only [pa, pn, pb, pc, pd]
  refine rl_take (some 8) (.int .i64 0) rfl (by kernel_rfl) (by kernel_rfl) ?_
  try simp only [pa, pn, pb, pc, pd]
  refine rl_nil ?_
  refine hgo.out _ _ ?_
  clear hgo hgK
  refine hKK5 _ _ ?_
  refine wp_seq_k fun KK7 hKK7 => ?_
  refine rl_begin fun hgK hgo => ?_
  refine rl_take (some 14) (.int .i64 0) rfl (by kernel_rfl) (by kernel_rfl) ?_
  try simp only [pa, pn, pb, pc, pd]
  refine rl_take (some 15) (.bool false) rfl (by kernel_rfl) (by exact ex_bne (x := 0) (y := 0) (by kernel_rfl) ⟨fun q => (by cases q), fun q => absurd q (by omega)⟩) ?_
  try simp only [pa, pn, pb, pc, pd]
  refine rl_nil ?_
  refine hgo.out _ _ ?_
  clear hgo hgK
  refine hKK7 _ _ ?_
  refine wp_cond_false (by kernel_rfl) ?_
  refine wp_skip ?_
  refine hKK4 _ _ ?_
  refine wp_seq_k fun KK8 hKK8 => ?_
  refine wp_seq_k fun KK9 hKK9 => ?_
  refine rl_begin fun hgK hgo => ?_
  refine rl_take (some 17) (.int .i64 lo) rfl (by kernel_rfl) (by exact ld1 3 _ rfl pl 0 rfl (fun _ => by kernel_rfl) _ (hpl.cell 0)) ?_
  try simp only [pa, pn, pb, pc, pd]
  refine rl_take (some 18) (.bool false) rfl (by kernel_rfl) (by exact ex_bool (c := (lo : Int) < 0) (by kernel_rfl) ⟨fun q => (by cases q), fun q => absurd q (by omega)⟩) ?_
  try simp only [pa, pn, pb, pc, pd]
  refine rl_take (some 19) (.bool false) rfl (by kernel_rfl) (by kernel_rfl) ?_
  try simp only [pa, pn, pb, pc, pd]
  refine rl_take (some 20) (.int .i64 lo) rfl (by kernel_rfl) (by exact ld1 3 _ rfl pl 0 rfl (fun _ => by kernel_rfl) _ (hpl.cell 0)) ?_
  try simp only [pa, pn, pb, pc, pd]
  refine rl_take (some 21) (.int .i64 hi) rfl (by kernel_rfl) (by exact ld1 3 _ rfl ph 0 rfl (fun _ => by kernel_rfl) _ (hph.cell 0)) ?_
  try simp only [pa, pn, pb, pc, pd]
  refine rl_take (some 22) (.bool false) rfl (by kernel_rfl) (by exact ex_bool (c := (lo : Int) > hi) (by kernel_rfl) ⟨fun q => (by cases q), fun q => absurd q (by omega)⟩) ?_
  try simp only [pa, pn, pb, pc, pd]
  refine rl_take (some 23) (.bool false) rfl (by kernel_rfl) (by kernel_rfl) ?_
  try simp only [pa, pn, pb, pc, pd]
  refine rl_nil ?_
  refine hgo.out _ _ ?_
  clear hgo hgK
  refine hKK9 _ _ ?_
  refine wp_cond_false (by kernel_rfl) ?_
  refine wp_skip ?_
  refine hKK8 _ _ ?_
  refine wp_seq_k fun KK10 hKK10 => ?_
  refine rl_begin fun hgK hgo => ?_
  refine rl_take (some 24) (.int .i64 hi) rfl (by kernel_rfl) (by exact ld1 3 _ rfl ph 0 rfl (fun _ => by kernel_rfl) _ (hph.cell 0)) ?_
  try simp only [pa, pn, pb, pc, pd]
  refine rl_take (some 25) (.int .i64 lo) rfl (by kernel_rfl) (by exact ld1 3 _ rfl pl 0 rfl (fun _ => by kernel_rfl) _ (hpl.cell 0)) ?_
  try simp only [pa, pn, pb, pc, pd]
  refine rl_take (some 26) (.int .i64 ((m : Int))) rfl (by kernel_rfl) (by exact ex_arith (e := (hi : Int) - lo) (r := (m : Int)) (by kernel_rfl) (by omega) (by omega)) ?_
  try simp only [pa, pn, pb, pc, pd]
  refine rl_new (some 27) rfl (by kernel_rfl) (ex_make w.heap.size m rfl rfl rfl (by omega) _ (by omega)) ?_
  rintro v11 w11 ⟨gm, rfl, hL11, hO⟩
  replace hB := hB.later hL11
  replace hr := hr.later hL11
  replace hpl := hpl.later hL11
  replace hph := hph.later hL11
  have hz11 := hL11.size
  try simp only [pa, pn, pb, pc, pd]
  refine rl_alloc (some 9) 41 #[.slice none 0 0] rfl (by kernel_rfl) (fun W => by kernel_rfl) fun po w12 hL12 hp12 hpo => ?_
  replace hB := hB.later hL12
  replace hr := hr.later hL12
  replace hpl := hpl.later hL12
  replace hph := hph.later hL12
  replace hO := hO.later hL12
  have hz12 := hL12.size
  have hlt12 := hpo.lt
  try simp only [pa, pn, pb, pc, pd]
  refine rl_store1 po (.slice (some ⟨gm, 0, none⟩) 0 m) rfl rfl (by kernel_rfl) rfl rfl (by kernel_rfl) hpo (by kernel_rfl) fun w13 hU13 hn13 => ?_
  have hz13 := hU13.size
  replace hB := hB.upd hU13 (by omega)
  replace hr := hr.upd hU13 (by omega)
  replace hpl := hpl.upd hU13 (by omega)
  replace hph := hph.upd hU13 (by omega)
  replace hO := hO.upd hU13 (blk_ne hO hpo (by decide))
  clear hpo
  have hpo := hn13
  clear hn13
  try simp only [pa, pn, pb, pc, pd]
  refine rl_nil ?_
  refine hgo.out _ _ ?_
  clear hgo hgK
  refine hKK10 _ _ ?_
  refine wp_seq_k fun KK14 hKK14 => ?_
  refine wp_seq_k fun KK15 hKK15 => ?_
  refine rl_begin fun hgK hgo => ?_
  refine rl_take (some 28) (.pointer (some ⟨b, 0, none⟩)) rfl (by kernel_rfl) (by kernel_rfl) ?_
  try simp only [pa, pn, pb, pc, pd]
  refine rl_take (some 29) (.int .i64 lo) rfl (by kernel_rfl) (by exact ld1 3 _ rfl pl 0 rfl (fun _ => by kernel_rfl) _ (hpl.cell 0)) ?_
  try simp only [pa, pn, pb, pc, pd]
  refine rl_call (some 30) 32 #[.pointer (some ⟨b, 0, none⟩), .int .i64 lo, .bool false] rfl (by kernel_rfl) (by kernel_rfl) (Pieces_any w.heap.size b l v ot lo false hm _ hr) ?_
  rintro e w16 ⟨a3, b3, c3, rfl, hL16, hSeq⟩
  refine ⟨_, rfl, ?_⟩
  replace hB := hB.later hL16
  replace hr := hr.later hL16
  replace hpl := hpl.later hL16
  replace hph := hph.later hL16
  replace hO := hO.later hL16
  replace hpo := hpo.later hL16
  have hz16 := hL16.size
  try simp only [pa, pn, pb, pc, pd]
  refine rl_nil ?_
  refine hgo.out _ _ ?_
  clear hgo hgK
  refine hKK15 _ _ ?_
  refine wp_block ?_
  refine range_p (n₀ := w.heap.size) (P := Tryd.prog) rfl (enters_of Tryd.func76 (by kernel_rfl) rfl) (hSeq) (by omega) (fun (pre : List (Pc)) W => ∃ (A0 : Option Addr) (c0 : Nat), (Ltr w W) ∧ (Own w.heap.size 5 W (.slice A0 (accB m pre).length c0) (bvals (accB m pre))) ∧ (Blk W pl 3 #[.int .i64 lo]) ∧ (Blk W ph 3 #[.int .i64 hi]) ∧ (Blk W po 41 #[.slice A0 (accB m pre).length c0])) (fun c (pre : List (Pc)) W => ∃ (A0 : Option Addr) (c0 : Nat), c = Code.exit 0 ∧ (Ltr w W) ∧ (Own w.heap.size 5 W (.slice A0 (accB m pre).length c0) (bvals (accB m pre))) ∧ (Blk W po 41 #[.slice A0 (accB m pre).length c0]) ∧ ((accB m pre).length = m)) ?hI17 ?hIx17 ?h017 (fun (⟨A, c, p⟩ : Pc) a W => a = ⟨#[.pointer (some ⟨b, 0, none⟩), .int .i64 lo, .int .i64 hi, undef, .pointer (some ⟨pl, 0, none⟩), .pointer (some ⟨ph, 0, none⟩), .slice none 0 0, .int .i64 0, .int .i64 0, .pointer (some ⟨po, 0, none⟩), .slice A p.length c, .pointer (some ⟨b, 0, none⟩), .int .i64 hi, .int .i64 0, .int .i64 0, .bool false, undef, .int .i64 lo, .bool false, .bool false, .int .i64 lo, .int .i64 hi, .bool false, .bool false, .int .i64 hi, .int .i64 lo, .int .i64 ((m : Int)), .slice (some ⟨gm, 0, none⟩) 0 m, .pointer (some ⟨b, 0, none⟩), .int .i64 lo, .func (.func 76) #[] #[.pointer (some ⟨a3, 0, none⟩), .pointer (some ⟨b3, 0, none⟩), .pointer (some ⟨c3, 0, none⟩)], .slice A p.length c, undef, undef, undef, undef, undef, undef, undef, undef, undef, undef, undef, undef, undef, undef, undef, undef, undef, undef, undef, undef, undef], []⟩ ∧ (pcP w.heap.size (A, c, p) W)) ?hAx17 ?ha17 ?hb17 ?hd17 ?hs17
  case hI17 =>
    rintro pre W W' row ⟨A0, c0, hB, hO, hpl, hph, hpo⟩ hg hr
    exact ⟨A0, c0, hB.kc hg hr (by omega), hO.kc hg hr (by omega), hpl.kc hg hr (by omega), hph.kc hg hr (by omega), hpo.kc hg hr (by omega)⟩
  case hIx17 =>
    rintro c pre W W' row ⟨A0, c0, rfl, hB, hO, hpo, hlen⟩ hg hr
    exact ⟨A0, c0, rfl, hB.kc hg hr (by omega), hO.kc hg hr (by omega), hpo.kc hg hr (by omega), hlen⟩
  case h017 =>
    exact ⟨some ⟨gm, 0, none⟩, m, by assumption, (by rw [accB_nil]; exact hO), by assumption, by assumption, (by rw [accB_nil]; exact hpo)⟩
  case hAx17 =>
    rintro ⟨A, c, p⟩ a' _ W W' row ⟨rfl, hp⟩ hg hr
    exact ⟨rfl, hp.kc hg hr (by omega)⟩
  case ha17 =>
    skip
    rintro l17 pre ⟨A, c, p⟩ w17a hz17a hi17 hp hok17
    have hLa17 := Ltr.refl w17a
    clear hi17
    simp only [pcEnc, List.setIfInBounds_toArray, List.set_cons_zero, List.set_cons_succ]
    refine rj_begin fun hgK hgo => ?_
    refine rj_take (some 10) (.slice A p.length c) rfl (by kernel_rfl) (by kernel_rfl) ?_
    try simp only [pa, pn, pb, pc, pd]
    refine rj_nil ?_
    refine hgo.out _ _ ?_
    clear hgo hgK
    exact And.intro hLa17 (And.intro rfl hp)
  case hb17 =>
    rintro l17 pre ⟨A, c, p⟩ a17 w17b hTwo17 hi17 ⟨rfl, hp⟩ hok17
    obtain ⟨A0, c0, hB, hO, hpl, hph, hpo⟩ := hi17
    have hz217 := hTwo17.size
    have hBel17 := Bel.refl w.heap.size w17b (by omega)
    have hlt_hpl_17 := hpl.lt
    have hlt_hph_17 := hph.lt
    have hlt_hpo_17 := hpo.lt
    have hal := accB_le m pre; have hsn := accB_snoc m pre (A, c, p); obtain ⟨k, hk⟩ : ∃ k, k = min p.length (m - (accB m pre).length) := ⟨_, rfl⟩; rw [show min (pcB (A, c, p)).length (m - (accB m pre).length) = k from hk.symm] at hsn; have hcc : p.length ≤ c := hp.2.1
    refine wpIn_block ?_
    refine wpIn_seq_k fun KK18 hKK18 => ?_
    refine rj_begin fun hgK hgo => ?_
    refine rj_take (some 32) (.slice A p.length c) rfl (by kernel_rfl) (by kernel_rfl) ?_
    try simp only [pa, pn, pb, pc, pd]
    refine rj_take (some 33) (.slice A p.length c) rfl (by kernel_rfl) (by kernel_rfl) ?_
    try simp only [pa, pn, pb, pc, pd]
    refine rj_take (some 34) (.int .i64 p.length) rfl (by kernel_rfl) (by kernel_rfl) ?_
    try simp only [pa, pn, pb, pc, pd]
    refine rj_take (some 35) (.int .i64 hi) rfl (by kernel_rfl) (by exact ld1 3 _ rfl ph 0 rfl (fun _ => by kernel_rfl) _ (hph.cell 0)) ?_
    try simp only [pa, pn, pb, pc, pd]
    refine rj_take (some 36) (.int .i64 lo) rfl (by kernel_rfl) (by exact ld1 3 _ rfl pl 0 rfl (fun _ => by kernel_rfl) _ (hpl.cell 0)) ?_
    try simp only [pa, pn, pb, pc, pd]
    refine rj_take (some 37) (.int .i64 ((m : Int))) rfl (by kernel_rfl) (by exact ex_arith (e := (hi : Int) - lo) (r := (m : Int)) (by kernel_rfl) (by omega) (by omega)) ?_
    try simp only [pa, pn, pb, pc, pd]
    refine rj_take (some 38) (.slice A0 (accB m pre).length c0) rfl (by kernel_rfl) (by exact ld1 41 _ rfl po 0 rfl (fun _ => by kernel_rfl) _ (hpo.cell 0)) ?_
    try simp only [pa, pn, pb, pc, pd]
    refine rj_take (some 39) (.int .i64 (accB m pre).length) rfl (by kernel_rfl) (by kernel_rfl) ?_
    try simp only [pa, pn, pb, pc, pd]
    refine rj_take (some 40) (.int .i64 (((m - (accB m pre).length : Nat) : Int))) rfl (by kernel_rfl) (by exact ex_arith (e := ((m : Int) : Int) - ((accB m pre).length)) (r := ((m - (accB m pre).length : Nat) : Int)) (by kernel_rfl) (by omega) (by omega)) ?_
    try simp only [pa, pn, pb, pc, pd]
    refine rj_take (some 41) (.int .i64 ((k : Int))) rfl (by kernel_rfl) (by exact ex_min2 (a := p.length) (b := ((m - (accB m pre).length : Nat) : Int)) rfl rfl rfl (r := (k : Int)) (by omega)) ?_
    try simp only [pa, pn, pb, pc, pd]
    refine rj_take (some 42) (.slice (cutA A c 0) k (c - 0)) rfl (by kernel_rfl) (by exact ex_cutN 0 k k (by omega) rfl rfl (.inr ⟨rfl, rfl⟩) (.inl rfl) (by kernel_rfl) (fun _ => by kernel_rfl) (by omega) (by omega) (by omega) _) ?_
    try simp only [pa, pn, pb, pc, pd]
    refine rj_take (some 10) (.slice (cutA A c 0) k (c - 0)) rfl (by kernel_rfl) (by kernel_rfl) ?_
    try simp only [pa, pn, pb, pc, pd]
    refine rj_nil ?_
    refine hgo.out _ _ ?_
    clear hgo hgK
    refine hKK18 _ _ ?_
    refine wpIn_seq_k fun KK19 hKK19 => ?_
    refine rj_begin fun hgK hgo => ?_
    refine rj_take (some 43) (.slice A0 (accB m pre).length c0) rfl (by kernel_rfl) (by exact ld1 41 _ rfl po 0 rfl (fun _ => by kernel_rfl) _ (hpo.cell 0)) ?_
    try simp only [pa, pn, pb, pc, pd]
    refine rj_take (some 44) (.slice (cutA A c 0) k (c - 0)) rfl (by kernel_rfl) (by kernel_rfl) ?_
    try simp only [pa, pn, pb, pc, pd]
    have hrow20 := hO.row
    refine rj_appendF (z := .int .u8 0) (bytes := 1) (ys := bvals ((p.take k).drop 0)) (zs := bvals (accB m (pre ++ [(A, c, p)]))) (k := k) (n' := (accB m (pre ++ [(A, c, p)])).length) (some 45) rfl (by kernel_rfl) rfl rfl rfl (by kernel_rfl) (by kernel_rfl) (by kernel_rfl) hO (bytesAt_iff.1 (BRow.bytes (BRow.cut (A := A) (c := c) (l := p) hp 0 k (c - 0) (by omega) (by omega) (by omega)))) (by rw [bvals_len, List.length_drop, List.length_take]; omega) (by rw [hsn, bvals_append]; rfl) (by rw [bvals_len]) (BRow.some (BRow.cut (A := A) (c := c) (l := p) hp 0 k (c - 0) (by omega) (by omega) (by omega))) (one_bvals) (by (simp only [bvals_len, List.length_drop, List.length_take]; omega)) (by (simp only [bvals_len, List.length_drop, List.length_take]; omega)) fun A5 c5 w20 ho20 hG20 => ?_
    replace hB := hB.gr hG20 (fun k hk => by have := hrow20 k hk; omega)
    replace hpl := hpl.gr hG20 (blk_ne hO hpl (by decide))
    replace hph := hph.gr hG20 (blk_ne hO hph (by decide))
    replace hpo := hpo.gr hG20 (blk_ne hO hpo (by decide))
    replace hTwo17 := hTwo17.gr hG20 (hTwo17.row hO)
    replace hBel17 := hBel17.gr hG20 (fun k hk => by have := hrow20 k hk; omega)
    clear hp
    clear hO
    have hO := ho20
    clear ho20
    have hz20 := hG20.size
    try simp only [pa, pn, pb, pc, pd]
    refine rj_store1 po (.slice A5 ((accB m (pre ++ [(A, c, p)])).length) c5) rfl rfl (by kernel_rfl) rfl rfl (by kernel_rfl) hpo (by kernel_rfl) fun w21 hU21 hn21 => ?_
    have hz21 := hU21.size
    replace hB := hB.upd hU21 (by omega)
    replace hO := hO.upd hU21 (blk_ne hO hpo (by decide))
    replace hpl := hpl.upd hU21 (by omega)
    replace hph := hph.upd hU21 (by omega)
    replace hTwo17 := hTwo17.upd hU21 (by omega)
    replace hBel17 := hBel17.upd hU21 (by omega)
    clear hpo
    have hpo := hn21
    clear hn21
    try simp only [pa, pn, pb, pc, pd]
    refine rj_nil ?_
    refine hgo.out _ _ ?_
    clear hgo hgK
    refine hKK19 _ _ ?_
    refine wpIn_seq_k fun KK22 hKK22 => ?_
    refine rj_begin fun hgK hgo => ?_
    refine rj_take (some 46) (.slice A5 ((accB m (pre ++ [(A, c, p)])).length) c5) rfl (by kernel_rfl) (by exact ld1 41 _ rfl po 0 rfl (fun _ => by kernel_rfl) _ (hpo.cell 0)) ?_
    try simp only [pa, pn, pb, pc, pd]
    refine rj_take (some 47) (.int .i64 ((accB m (pre ++ [(A, c, p)])).length)) rfl (by kernel_rfl) (by kernel_rfl) ?_
    try simp only [pa, pn, pb, pc, pd]
    refine rj_take (some 48) (.int .i64 hi) rfl (by kernel_rfl) (by exact ld1 3 _ rfl ph 0 rfl (fun _ => by kernel_rfl) _ (hph.cell 0)) ?_
    try simp only [pa, pn, pb, pc, pd]
    refine rj_take (some 49) (.int .i64 lo) rfl (by kernel_rfl) (by exact ld1 3 _ rfl pl 0 rfl (fun _ => by kernel_rfl) _ (hpl.cell 0)) ?_
    try simp only [pa, pn, pb, pc, pd]
    refine rj_take (some 50) (.int .i64 ((m : Int))) rfl (by kernel_rfl) (by exact ex_arith (e := (hi : Int) - lo) (r := (m : Int)) (by kernel_rfl) (by omega) (by omega)) ?_
    try simp only [pa, pn, pb, pc, pd]
    by_cases hbr : ((accB m (pre ++ [(A, c, p)])).length : Int) = m
    · refine rj_take (some 51) (.bool true) rfl (by kernel_rfl) (by exact ex_beq (x := (accB m (pre ++ [(A, c, p)])).length) (y := (m : Int)) (by kernel_rfl) ⟨fun _ => by omega, fun _ => rfl⟩) ?_
      try simp only [pa, pn, pb, pc, pd]
      refine rj_nil ?_
      refine hgo.out _ _ ?_
      clear hgo hgK
      refine hKK22 _ _ ?_
      refine wpIn_cond_true (by kernel_rfl) ?_
      refine wpIn_exit ?_
      try simp only [Exit.then, Exit.inBlock]
      skip
      exact ⟨hTwo17, A5, c5, rfl, by assumption, by assumption, by assumption, (by omega)⟩
    · refine rj_take (some 51) (.bool false) rfl (by kernel_rfl) (by exact ex_beq (x := (accB m (pre ++ [(A, c, p)])).length) (y := (m : Int)) (by kernel_rfl) ⟨fun q => (by cases q), fun q => absurd q (by omega)⟩) ?_
      try simp only [pa, pn, pb, pc, pd]
      refine rj_nil ?_
      refine hgo.out _ _ ?_
      clear hgo hgK
      refine hKK22 _ _ ?_
      refine wpIn_cond_false (by kernel_rfl) ?_
      refine wpIn_skip ?_
      try simp only [Exit.then, Exit.inBlock]
      skip
      exact ⟨hTwo17, hBel17, A5, c5, by assumption, by assumption, by assumption, by assumption, by assumption⟩
  case hd17 =>
    rintro pre w17d hz17d hS17 hi17 hM17
    obtain ⟨A0, c0, hB, hO, hpl, hph, hpo⟩ := hi17
    replace hM17 : Mark w16.heap.size w17d := hM17
    have hlt_hpl_17 := hpl.lt
    have hlt_hph_17 := hph.lt
    have hlt_hpo_17 := hpo.lt
    have hacc : accB m pre = (l.take hi).drop lo := (accB_done hS17).trans hfin
    refine hKK14 _ _ ?_
    refine wp_seq_k fun KK23 hKK23 => ?_
    refine rl_begin fun hgK hgo => ?_
    refine rl_take (some 52) (.slice A0 (accB m pre).length c0) rfl (by kernel_rfl) (by exact ld1 41 _ rfl po 0 rfl (fun _ => by kernel_rfl) _ (hpo.cell 0)) ?_
    try simp only [pa, pn, pb, pc, pd]
    refine rl_take (some 6) (.slice A0 (accB m pre).length c0) rfl (by kernel_rfl) (by kernel_rfl) ?_
    try simp only [pa, pn, pb, pc, pd]
    refine rl_take (some 7) (.int .i64 0) rfl (by kernel_rfl) (by kernel_rfl) ?_
    try simp only [pa, pn, pb, pc, pd]
    refine rl_nil ?_
    refine hgo.out _ _ ?_
    clear hgo hgK
    refine hKK23 _ _ ?_
    refine wp_ret ?_
    try simp only [Exit.then, Exit.inBlock]
    refine bm_mark hM17 ?_
    rintro w24 hG24 hZ24
    have hr24 := kcr hM17
    clear hM17
    replace hB := hB.kc hG24 hr24 (by omega)
    replace hO := hO.kc hG24 hr24 (by omega)
    replace hpl := hpl.kc hG24 hr24 (by omega)
    replace hph := hph.kc hG24 hr24 (by omega)
    replace hpo := hpo.kc hG24 hr24 (by omega)
    refine bm_ret (v := .tuple #[.slice A0 (accB m pre).length c0, .int .i64 0]) (res2 rfl (res_tmp (by kernel_rfl)) (res_tmp (by kernel_rfl))) ?_
    (rw [hacc] at hO; exact ⟨A0, c0, by rw [hacc], hB, hO⟩)
  case hs17 =>
    rintro _ pre w17s hz17s hok17 ⟨A0, c0, rfl, hB, hO, hpo, hlen⟩ hM17
    replace hM17 : Mark w16.heap.size w17s := hM17
    have hlt_hpo_17 := hpo.lt
    have hacc : accB m pre = (l.take hi).drop lo := (accB_stop hok17 hlen).trans hfin
    refine wp_exit ?_
    refine hKK14 _ _ ?_
    refine wp_seq_k fun KK25 hKK25 => ?_
    refine rl_begin fun hgK hgo => ?_
    refine rl_take (some 52) (.slice A0 (accB m pre).length c0) rfl (by kernel_rfl) (by exact ld1 41 _ rfl po 0 rfl (fun _ => by kernel_rfl) _ (hpo.cell 0)) ?_
    try simp only [pa, pn, pb, pc, pd]
    refine rl_take (some 6) (.slice A0 (accB m pre).length c0) rfl (by kernel_rfl) (by kernel_rfl) ?_
    try simp only [pa, pn, pb, pc, pd]
    refine rl_take (some 7) (.int .i64 0) rfl (by kernel_rfl) (by kernel_rfl) ?_
    try simp only [pa, pn, pb, pc, pd]
    refine rl_nil ?_
    refine hgo.out _ _ ?_
    clear hgo hgK
    refine hKK25 _ _ ?_
    refine wp_ret ?_
    try simp only [Exit.then, Exit.inBlock]
    refine bm_mark hM17 ?_
    rintro w26 hG26 hZ26
    have hr26 := kcr hM17
    clear hM17
    replace hB := hB.kc hG26 hr26 (by omega)
    replace hO := hO.kc hG26 hr26 (by omega)
    replace hpo := hpo.kc hG26 hr26 (by omega)
    refine bm_ret (v := .tuple #[.slice A0 (accB m pre).length c0, .int .i64 0]) (res2 rfl (res_tmp (by kernel_rfl)) (res_tmp (by kernel_rfl))) ?_
    (rw [hacc] at hO; exact ⟨A0, c0, by rw [hacc], hB, hO⟩)
end Go.Proofs.YtliphfgiaioebaaDoor
