/-
  Package rope: Bytes.
  Package rope: Same.
-/
import Derived.Test.YtliphfgiaioebaaDoorB11
import Derived.Laws.MakeOwn
namespace Go.Proofs.YtliphfgiaioebaaDoor
set_option linter.unusedVariables false
set_option linter.unusedSimpArgs false
open Go.RowKit
theorem blk_ne {n : Nat} {E t : TypeId} {w : World} {v : Value} {xs : List Value} {B : Nat} {cs : Array Value} (ho : Own n E w v xs) (hb : Blk w B t cs) (h : t ≠ E) : v.ownBlock ≠ some B := by
  rcases ho.2.2 with ⟨rfl, _⟩ | ⟨g, cap, cur, rfl, _, hgb, _⟩
  · simp [Value.ownBlock]
  · intro e
    obtain rfl : g = B := by simpa [Value.ownBlock] using e
    rw [hb] at hgb; cases hgb; exact h rfl
theorem one_bvals {l : List UInt8} : ∀ u ∈ bvals l, u.oneCell' = true := by
  intro u hu
  obtain ⟨x, -, rfl⟩ := List.mem_map.1 hu
  rfl
theorem rj_appendF {r : Option Nat} {ops : Array Oper} {K : Act → World → Prop} {o : Oper} {rest : List Oper} {a : Act} {w : World} (d : Option Tmp) {n k n' : Nat} {E t : TypeId} {bytes : Nat} {z : Value} {s x : Operand} {v : Value} {xs ys zs : List Value} {A : Option Addr} {c : Nat}
    (hd : o.dst = d) (hw : Region.wanted o (yielded ops a.tmps) = true) (ho : o.op = .call { callee := .builtin .append, args := #[s, x], argTypes := #[t, t] }) (hs : a.eval s = v) (hx : a.eval x = .slice A k c)
    (ht : Tryd.prog.underlying t = some (.slice E)) (hi : (Tryd.prog.info? E).map (fun i => (i.zero, i.size, i.bytes)) = some (some z, 1, bytes)) (hz : z.cells.size = 1)
    (hown : Own n E w v xs) (hA : CellsAt w A ys) (hlen : ys.length = k) (hzs : xs ++ ys = zs) (hn : zs.length = n') (hc0 : A = none → c = 0) (h1 : ∀ u ∈ ys, u.oneCell' = true) (hb : (xs.length + ys.length) * bytes ≤ 140737488355328) (hm : xs.length + ys.length ≤ 140737488355328)
    (h : ∀ A' c' w', Own n E w' (.slice A' n' c') zs → w.grownBy w' v.ownBlock → wpJ r Tryd.prog ops K rest (a.put d (.slice A' n' c')) w') : wpJ r Tryd.prog ops K (o :: rest) a w := by
  subst hlen hzs hn
  refine rj_append d hd hw ho hs hx ht hi hz hown hA hc0 h1 hb hm fun v' w' ho' hg hv => ?_
  obtain ⟨A', c', rfl, -, -⟩ := ho'.form
  exact h A' c' w' ho' hg
theorem rl_appendF {ops : Array Oper} {K : Act → World → Prop} {o : Oper} {rest : List Oper} {a : Act} {w : World} (d : Option Tmp) {n k n' : Nat} {E t : TypeId} {bytes : Nat} {z : Value} {s x : Operand} {v : Value} {xs ys zs : List Value} {A : Option Addr} {c : Nat}
    (hd : o.dst = d) (hw : Region.wanted o (yielded ops a.tmps) = true) (ho : o.op = .call { callee := .builtin .append, args := #[s, x], argTypes := #[t, t] }) (hs : a.eval s = v) (hx : a.eval x = .slice A k c)
    (ht : Tryd.prog.underlying t = some (.slice E)) (hi : (Tryd.prog.info? E).map (fun i => (i.zero, i.size, i.bytes)) = some (some z, 1, bytes)) (hz : z.cells.size = 1)
    (hown : Own n E w v xs) (hA : CellsAt w A ys) (hlen : ys.length = k) (hzs : xs ++ ys = zs) (hn : zs.length = n') (hc0 : A = none → c = 0) (h1 : ∀ u ∈ ys, u.oneCell' = true) (hb : (xs.length + ys.length) * bytes ≤ 140737488355328) (hm : xs.length + ys.length ≤ 140737488355328)
    (h : ∀ A' c' w', Own n E w' (.slice A' n' c') zs → w.grownBy w' v.ownBlock → wpL Tryd.prog ops K rest (a.put d (.slice A' n' c')) w') : wpL Tryd.prog ops K (o :: rest) a w := by
  subst hlen hzs hn
  refine rl_append d hd hw ho hs hx ht hi hz hown hA hc0 h1 hb hm fun v' w' ho' hg hv => ?_
  obtain ⟨A', c', rfl, -, -⟩ := ho'.form
  exact h A' c' w' ho' hg
theorem BRow.some {n : Nat} {w : World} {A : Option Addr} {c : Nat} {l : List UInt8} (h : BRow n w A c l) (e : A = none) : c = 0 := by
  obtain ⟨_, _, g, off, e', _⟩ := h; rw [e'] at e; cases e
theorem pcP.later {n : Nat} {x : Pc} {w w' : World} (h : pcP n x w) (hl : Ltr w w') : pcP n x w' := BRow.later h hl
theorem pcP.upd {n g : Nat} {x : Pc} {w w' : World} (h : pcP n x w) (hu : Upd g w w') (hg : ∀ a, x.1 = some a → a.block ≠ g) : pcP n x w' := by
  obtain ⟨h1, h2, g', off, e, h3, h4, h5⟩ := h
  have hne : g' ≠ g := hg _ e
  refine ⟨by rw [hu.size]; exact h1, h2, g', off, e, h3, by rw [hu.size]; exact h4, fun i hi => ⟨?_, ?_⟩⟩
  · rw [← (h5 i hi).1]; exact World.cell?_of_block (w := w) (a := ⟨g', off + i, none⟩) (hu.block g' hne)
  · rw [← (h5 i hi).2]; exact World.frozen?_of_block (w := w) (a := ⟨g', off + i, none⟩) (hu.block g' hne)
theorem pcP.kc {n D : Nat} {x : Pc} {w w' : World} {row : Option Nat} (h : pcP n x w) (hg : w.grownBy w' row) (hr : ∀ r, row = some r → D ≤ r ∧ ∃ o : Obj, w.heap[r]? = some o ∧ o.isCells = false) (hD : 0 ≤ 0) : pcP n x w' := BRow.kc h hg hr hD
theorem ex_make {o : Oper} {ρ : Operand → Value} {x y : Operand} (n c : Nat) (ho : o.op = .makeSlice 41 x y) (hx : ρ x = .int .i64 0) (hy : ρ y = .int .i64 (c : Int)) (hc : c ≤ 140737488355328) (w : World) (hn : n ≤ w.heap.size) :
    ∃ v w', (execOp ρ o).run Tryd.prog w = .ok (.value v) w' ∧ ∃ g, v = .slice (some ⟨g, 0, none⟩) 0 c ∧ Ltr w w' ∧ Own n 5 w' (.slice (some ⟨g, 0, none⟩) 0 c) [] := by
  obtain ⟨i, hi', hz0, hs, hby⟩ := info_parts (show (Tryd.prog.info? 5).map (fun i => (i.zero, i.size, i.bytes)) = some (some (.int .u8 0), 1, 1) by kernel_rfl)
  obtain ⟨w', hr, ho', hg⟩ := run_make_own (P := Tryd.prog) w n 41 5 i (.int .u8 0) 1 (by kernel_rfl) hi' hz0 hs .i64 .i64 c (by rw [hby]; omega) (by unfold maxLen; omega) hn
  refine ⟨_, w', ?_, w.heap.size, rfl, ⟨hg.os, hg.tape, hg.output, hg.size, fun k hk => hg.block k hk (by simp)⟩, Nat.le_trans hn hg.size, ho'⟩
  unfold execOp
  simp only [ho, hx, hy, Sem.run_bind, hr, Result.andThen_ok, Sem.run_pure]
def accB (m : Nat) (pre : List Pc) : List UInt8 := ((pre.map pcB).flatten).take m
theorem accB_snoc (m : Nat) (pre : List Pc) (x : Pc) : accB m (pre ++ [x]) = accB m pre ++ (pcB x).take (min (pcB x).length (m - (accB m pre).length)) := by
  unfold accB
  rw [List.map_append, List.flatten_append, List.take_append]
  congr 1
  simp only [List.map_cons, List.map_nil, List.flatten_cons, List.flatten_nil, List.append_nil, List.length_take]
  rw [List.take_eq_take_iff]
  omega
theorem accB_nil (m : Nat) : accB m [] = [] := by simp [accB]
theorem accB_le (m : Nat) (pre : List Pc) : (accB m pre).length ≤ m := by unfold accB; rw [List.length_take]; omega
theorem accB_done {m : Nat} {ps : List (List UInt8)} {xs : List Pc} (h : xs.map pcB = ps) : accB m xs = ps.flatten.take m := by unfold accB; rw [h]
theorem accB_stop {m : Nat} {ps : List (List UInt8)} {pre : List Pc} (h : PcOk ps pre) (hm : (accB m pre).length = m) : accB m pre = ps.flatten.take m := by
  obtain ⟨r, rfl⟩ := h
  unfold accB at *
  rw [List.length_take] at hm
  rw [List.flatten_append, List.take_append_of_le_length (by omega)]
def BytesP (l : List UInt8) (w : World) (e : Ending) (w' : World) : Prop :=
  ∃ A c, e = .returned (.tuple #[.slice A l.length c, .int .i64 0]) ∧ Ltr w w' ∧ Own w.heap.size 5 w' (.slice A l.length c) (bvals l)
set_option maxRecDepth 100000 in
set_option maxHeartbeats 8000000 in
theorem Bytes_in (b : Nat) (l : List UInt8) (lo hi : Nat) (w : World) (hr : RopeAt w b l) (h1 : lo ≤ hi) (h2 : hi ≤ l.length) (hm : l.length ≤ 1000000000) :
    Calls Tryd.prog 44 #[.pointer (some ⟨b, 0, none⟩), .int .i64 lo, .int .i64 hi] w (BytesP ((l.take hi).drop lo) w) := by
  have hB := Ltr.refl w
  obtain ⟨v, ot, hr⟩ := hr.n
  have hfl := (pcs_flatF hr lo (by omega)).1
  obtain ⟨m, hm0⟩ : ∃ m, m = hi - lo := ⟨_, rfl⟩
  have hfin : (pcsOf ot l lo false).flatten.take m = (l.take hi).drop lo := by rw [hfl, hm0, List.drop_take]
  refine (callsIn_wide (n := 0)).1 ?_
  refine callsIn_of_wp_marks Tryd.func44 rfl trivial ?_ rfl
  simp only [Tryd.ntmps44, List.size_toArray, List.length_cons, List.length_nil, Nat.reduceAdd, Nat.reduceSub, Array.replicate_succ, Array.replicate_zero, List.push_toArray, List.append_toArray, List.nil_append, List.cons_append]
  refine (wpIn_wide (n := 0)).2 ?_
  refine wp_seq_k fun KK1 hKK1 => rl_begin fun hgK hgo => ?_
  refine rl_alloc (some 4) 3 #[.int .i64 lo] rfl (by kernel_rfl) (fun W => by kernel_rfl) fun pl w2 hL2 hp2 hpl => ?_
  have hz2 := hL2.size
  have hlt2 := hpl.lt
  try simp only [pp]
  refine rl_alloc (some 5) 3 #[.int .i64 hi] rfl (by kernel_rfl) (fun W => by kernel_rfl) fun ph w3 hL3 hp3 hph => ?_
  have hz3 := hL3.size
  have hlt3 := hph.lt
  try simp only [pp]
  refine tk 6 (.slice none 0 0) <| tk 7 (.int .i64 0) ?_
  simp only [pp]
  refine rl_end hgo <| hKK1 _ _ <| wp_seq_k fun KK4 hKK4 => wp_seq_k fun KK5 hKK5 => rl_begin fun hgK hgo => tk 11 (.pointer (some ⟨b, 0, none⟩)) ?_
  simp only [pp]
  refine tx 12 (.int .i64 hi) (by exact ld 3 ph 0 (hph.cell 0)) ?_
  simp only [pp]
  replace hr := (hr.later hL2).later hL3
  refine rl_call (some 13) 77 #[.pointer (some ⟨b, 0, none⟩), .int .i64 hi] rfl (by kernel_rfl) (by kernel_rfl) (place_in b l hi h2 _ hr.at) ?_
  rintro e w6 ⟨rfl, hL6⟩
  refine ⟨_, rfl, ?_⟩
  have hz6 := hL6.size
  try simp only [pp]
  refine tk 8 (.int .i64 0) ?_
  simp only [pp]
  refine rl_end hgo <| hKK5 _ _ <| wp_seq_k fun KK7 hKK7 => rl_begin fun hgK hgo => tk 14 (.int .i64 0) ?_
  simp only [pp]
  refine tx 15 (.bool false) (by exact nef (x := 0) (y := 0) (by omega)) ?_
  simp only [pp]
  refine rl_end hgo <| hKK7 _ _ <| wp_cond_false (by kernel_rfl) <| wp_skip <| hKK4 _ _ <| wp_seq_k fun KK8 hKK8 => wp_seq_k fun KK9 hKK9 => rl_begin fun hgK hgo => ?_
  replace hpl := (hpl.later hL3).later hL6
  refine tx 17 (.int .i64 lo) (by exact ld 3 pl 0 (hpl.cell 0)) ?_
  simp only [pp]
  refine tx 18 (.bool false) (by exact ebf (c := (lo : Int) < 0) (by omega)) <| tk 19 (.bool false) ?_
  simp only [pp]
  refine tx 20 (.int .i64 lo) (by exact ld 3 pl 0 (hpl.cell 0)) ?_
  simp only [pp]
  replace hph := hph.later hL6
  refine tx 21 (.int .i64 hi) (by exact ld 3 ph 0 (hph.cell 0)) ?_
  simp only [pp]
  refine tx 22 (.bool false) (by exact ebf (c := (lo : Int) > hi) (by omega)) <| tk 23 (.bool false) ?_
  simp only [pp]
  refine rl_end hgo <| hKK9 _ _ <| wp_cond_false (by kernel_rfl) <| wp_skip <| hKK8 _ _ <| wp_seq_k fun KK10 hKK10 => rl_begin fun hgK hgo => ?_
  refine tx 24 (.int .i64 hi) (by exact ld 3 ph 0 (hph.cell 0)) ?_
  simp only [pp]
  refine tx 25 (.int .i64 lo) (by exact ld 3 pl 0 (hpl.cell 0)) ?_
  simp only [pp]
  refine tx 26 (.int .i64 ((m : Int))) (by exact ex_arith (e := (hi : Int) - lo) (r := (m : Int)) (by kernel_rfl) (by omega) (by omega)) ?_
  simp only [pp]
  refine rl_new (some 27) rfl (by kernel_rfl) (ex_make w.heap.size m rfl rfl rfl (by omega) _ (by omega)) ?_
  rintro v11 w11 ⟨gm, rfl, hL11, hO⟩
  have hz11 := hL11.size
  try simp only [pp]
  refine rl_alloc (some 9) 41 #[.slice none 0 0] rfl (by kernel_rfl) (fun W => by kernel_rfl) fun po w12 hL12 hp12 hpo => ?_
  have hz12 := hL12.size
  have hlt12 := hpo.lt
  try simp only [pp]
  refine rl_store1 po (.slice (some ⟨gm, 0, none⟩) 0 m) rfl rfl (by kernel_rfl) rfl rfl (by kernel_rfl) hpo (by kernel_rfl) fun w13 hU13 hn13 => ?_
  have hz13 := hU13.size
  replace hB := ((((hB.later hL2).later hL3).later hL6).later hL11).later hL12
  replace hB := hB.upd hU13 (by omega)
  replace hr := ((hr.later hL6).later hL11).later hL12
  replace hr := hr.upd hU13 (by omega)
  replace hpl := (hpl.later hL11).later hL12
  replace hpl := hpl.upd hU13 (by omega)
  replace hph := (hph.later hL11).later hL12
  replace hph := hph.upd hU13 (by omega)
  replace hO := hO.later hL12
  replace hO := hO.upd hU13 (blk_ne hO hpo (by decide))
  clear hpo
  have hpo := hn13
  clear hn13
  try simp only [pp]
  refine rl_end hgo <| hKK10 _ _ <| wp_seq_k fun KK14 hKK14 => wp_seq_k fun KK15 hKK15 => rl_begin fun hgK hgo => tk 28 (.pointer (some ⟨b, 0, none⟩)) ?_
  simp only [pp]
  refine tx 29 (.int .i64 lo) (by exact ld 3 pl 0 (hpl.cell 0)) ?_
  simp only [pp]
  refine rl_call (some 30) 32 #[.pointer (some ⟨b, 0, none⟩), .int .i64 lo, .bool false] rfl (by kernel_rfl) (by kernel_rfl) (Pieces_any w.heap.size b l v ot lo false hm _ hr) ?_
  rintro e w16 ⟨a3, b3, c3, rfl, hL16, hSeq⟩
  refine ⟨_, rfl, ?_⟩
  have hz16 := hL16.size
  try simp only [pp]
  refine rl_end hgo <| hKK15 _ _ <| wp_block ?_
  replace hB := hB.later hL16
  replace hr := hr.later hL16
  replace hpl := hpl.later hL16
  replace hph := hph.later hL16
  replace hO := hO.later hL16
  replace hpo := hpo.later hL16
  refine range_p (n₀ := w.heap.size) (P := Tryd.prog) rfl (enters_of Tryd.func76 (by kernel_rfl) rfl) (hSeq) (by omega) (fun (pre : List (Pc)) W => ∃ (A0 : Option Addr) (c0 : Nat), (Ltr w W) ∧ (Own w.heap.size 5 W (.slice A0 (accB m pre).length c0) (bvals (accB m pre))) ∧ (Blk W pl 3 #[.int .i64 lo]) ∧ (Blk W ph 3 #[.int .i64 hi]) ∧ (Blk W po 41 #[.slice A0 (accB m pre).length c0])) (fun c (pre : List (Pc)) W => ∃ (A0 : Option Addr) (c0 : Nat), c = Code.exit 0 ∧ (Ltr w W) ∧ (Own w.heap.size 5 W (.slice A0 (accB m pre).length c0) (bvals (accB m pre))) ∧ (Blk W po 41 #[.slice A0 (accB m pre).length c0]) ∧ ((accB m pre).length = m)) ?hI17 ?hIx17 ?h017 (fun (⟨A, c, p⟩ : Pc) a W => a = ⟨#[.pointer (some ⟨b, 0, none⟩), .int .i64 lo, .int .i64 hi, undef, .pointer (some ⟨pl, 0, none⟩), .pointer (some ⟨ph, 0, none⟩), .slice none 0 0, .int .i64 0, .int .i64 0, .pointer (some ⟨po, 0, none⟩), .slice A p.length c, .pointer (some ⟨b, 0, none⟩), .int .i64 hi, .int .i64 0, .int .i64 0, .bool false, undef, .int .i64 lo, .bool false, .bool false, .int .i64 lo, .int .i64 hi, .bool false, .bool false, .int .i64 hi, .int .i64 lo, .int .i64 ((m : Int)), .slice (some ⟨gm, 0, none⟩) 0 m, .pointer (some ⟨b, 0, none⟩), .int .i64 lo, .func (.func 76) #[] #[.pointer (some ⟨a3, 0, none⟩), .pointer (some ⟨b3, 0, none⟩), .pointer (some ⟨c3, 0, none⟩)], .slice A p.length c, undef, undef, undef, undef, undef, undef, undef, undef, undef, undef, undef, undef, undef, undef, undef, undef, undef, undef, undef, undef, undef], []⟩ ∧ (pcP w.heap.size (A, c, p) W)) ?hAx17 ?ha17 ?hb17 ?hd17 ?hs17
  case hI17 =>
   rintro pre W W' row ⟨A0, c0, hB, hO, hpl, hph, hpo⟩ hg hr
   exact ⟨A0, c0, hB.kc hg hr (by omega), hO.kc hg hr (by omega), hpl.kc hg hr (by omega), hph.kc hg hr (by omega), hpo.kc hg hr (by omega)⟩
  case hIx17 =>
   rintro c pre W W' row ⟨A0, c0, rfl, hB, hO, hpo, hlen⟩ hg hr
   exact ⟨A0, c0, rfl, hB.kc hg hr (by omega), hO.kc hg hr (by omega), hpo.kc hg hr (by omega), hlen⟩
  case h017 =>
   exact ⟨some ⟨gm, 0, none⟩, m, by assumption, (by rw [accB_nil]; exact hO), by assumption, by assumption, (by rw [accB_nil]; exact hpo)⟩
  case hAx17 =>
   rintro ⟨A, c, p⟩ a' _ W W' row ⟨rfl, hp⟩ hg hr
   exact ⟨rfl, hp.kc hg hr (by omega)⟩
  case ha17 =>
   skip
   rintro l17 pre ⟨A, c, p⟩ w17a hz17a hi17 hp hok17
   have hLa17 := Ltr.refl w17a
   clear hi17
   simp only [pcEnc, List.setIfInBounds_toArray, List.set_cons_zero, List.set_cons_succ]
   refine rj_begin fun hgK hgo => sk 10 (.slice A p.length c) ?_
   simp only [pp]
   refine rj_end hgo ?_
   exact And.intro hLa17 (And.intro rfl hp)
  case hb17 =>
   rintro l17 pre ⟨A, c, p⟩ a17 w17b hTwo17 hi17 ⟨rfl, hp⟩ hok17
   obtain ⟨A0, c0, hB, hO, hpl, hph, hpo⟩ := hi17
   have hz217 := hTwo17.size
   have hBel17 := Bel.refl w.heap.size w17b (by omega)
   have hlt_hpl_17 := hpl.lt
   have hlt_hph_17 := hph.lt
   have hlt_hpo_17 := hpo.lt
   have hal := accB_le m pre; have hsn := accB_snoc m pre (A, c, p); obtain ⟨k, hk⟩ : ∃ k, k = min p.length (m - (accB m pre).length) := ⟨_, rfl⟩; rw [show min (pcB (A, c, p)).length (m - (accB m pre).length) = k from hk.symm] at hsn; have hcc : p.length ≤ c := hp.2.1
   refine wpIn_block <| wpIn_seq_k fun KK18 hKK18 => rj_begin fun hgK hgo => sk 32 (.slice A p.length c) <| sk 33 (.slice A p.length c) <| sk 34 (.int .i64 p.length) ?_
   simp only [pp]
   refine sx 35 (.int .i64 hi) (by exact ld 3 ph 0 (hph.cell 0)) ?_
   simp only [pp]
   refine sx 36 (.int .i64 lo) (by exact ld 3 pl 0 (hpl.cell 0)) ?_
   simp only [pp]
   refine sx 37 (.int .i64 ((m : Int))) (by exact ex_arith (e := (hi : Int) - lo) (r := (m : Int)) (by kernel_rfl) (by omega) (by omega)) ?_
   simp only [pp]
   refine sx 38 (.slice A0 (accB m pre).length c0) (by exact ld 41 po 0 (hpo.cell 0)) <| sk 39 (.int .i64 (accB m pre).length) ?_
   simp only [pp]
   refine sx 40 (.int .i64 (((m - (accB m pre).length : Nat) : Int))) (by exact ex_arith (e := ((m : Int) : Int) - ((accB m pre).length)) (r := ((m - (accB m pre).length : Nat) : Int)) (by kernel_rfl) (by omega) (by omega)) ?_
   simp only [pp]
   refine sx 41 (.int .i64 ((k : Int))) (by exact ex_min2 (a := p.length) (b := ((m - (accB m pre).length : Nat) : Int)) rfl rfl rfl (r := (k : Int)) (by omega)) ?_
   simp only [pp]
   refine sx 42 (.slice (cutA A c 0) k (c - 0)) (by exact ex_cutN 0 k k (by omega) rfl rfl (.inr ⟨rfl, rfl⟩) (.inl rfl) (by kernel_rfl) (fun _ => by kernel_rfl) (by omega) (by omega) (by omega) _) <| sk 10 (.slice (cutA A c 0) k (c - 0)) ?_
   simp only [pp]
   refine rj_end hgo <| hKK18 _ _ <| wpIn_seq_k fun KK19 hKK19 => rj_begin fun hgK hgo => ?_
   refine sx 43 (.slice A0 (accB m pre).length c0) (by exact ld 41 po 0 (hpo.cell 0)) <| sk 44 (.slice (cutA A c 0) k (c - 0)) ?_
   simp only [pp]
   have hrow20 := hO.row
   refine rj_appendF (z := .int .u8 0) (bytes := 1) (ys := bvals ((p.take k).drop 0)) (zs := bvals (accB m (pre ++ [(A, c, p)]))) (k := k) (n' := (accB m (pre ++ [(A, c, p)])).length) (some 45) rfl (by kernel_rfl) rfl rfl rfl (by kernel_rfl) (by kernel_rfl) (by kernel_rfl) hO (bytesAt_iff.1 (BRow.bytes (BRow.cut (A := A) (c := c) (l := p) hp 0 k (c - 0) (by omega) (by omega) (by omega)))) (by rw [bvals_len, List.length_drop, List.length_take]; omega) (by rw [hsn, bvals_append]; rfl) (by rw [bvals_len]) (BRow.some (BRow.cut (A := A) (c := c) (l := p) hp 0 k (c - 0) (by omega) (by omega) (by omega))) (one_bvals) (by (simp only [bvals_len, List.length_drop, List.length_take]; omega)) (by (simp only [bvals_len, List.length_drop, List.length_take]; omega)) fun A5 c5 w20 ho20 hG20 => ?_
   replace hB := hB.gr hG20 (fun k hk => by have := hrow20 k hk; omega)
   replace hpl := hpl.gr hG20 (blk_ne hO hpl (by decide))
   replace hph := hph.gr hG20 (blk_ne hO hph (by decide))
   replace hpo := hpo.gr hG20 (blk_ne hO hpo (by decide))
   replace hTwo17 := hTwo17.gr hG20 (hTwo17.row hO)
   replace hBel17 := hBel17.gr hG20 (fun k hk => by have := hrow20 k hk; omega)
   clear hp
   clear hO
   have hO := ho20
   clear ho20
   have hz20 := hG20.size
   try simp only [pp]
   refine rj_store1 po (.slice A5 ((accB m (pre ++ [(A, c, p)])).length) c5) rfl rfl (by kernel_rfl) rfl rfl (by kernel_rfl) hpo (by kernel_rfl) fun w21 hU21 hn21 => ?_
   have hz21 := hU21.size
   replace hB := hB.upd hU21 (by omega)
   replace hO := hO.upd hU21 (blk_ne hO hpo (by decide))
   replace hpl := hpl.upd hU21 (by omega)
   replace hph := hph.upd hU21 (by omega)
   replace hTwo17 := hTwo17.upd hU21 (by omega)
   replace hBel17 := hBel17.upd hU21 (by omega)
   clear hpo
   have hpo := hn21
   clear hn21
   try simp only [pp]
   refine rj_end hgo <| hKK19 _ _ <| wpIn_seq_k fun KK22 hKK22 => rj_begin fun hgK hgo => ?_
   refine sx 46 (.slice A5 ((accB m (pre ++ [(A, c, p)])).length) c5) (by exact ld 41 po 0 (hpo.cell 0)) <| sk 47 (.int .i64 ((accB m (pre ++ [(A, c, p)])).length)) ?_
   simp only [pp]
   refine sx 48 (.int .i64 hi) (by exact ld 3 ph 0 (hph.cell 0)) ?_
   simp only [pp]
   refine sx 49 (.int .i64 lo) (by exact ld 3 pl 0 (hpl.cell 0)) ?_
   simp only [pp]
   refine sx 50 (.int .i64 ((m : Int))) (by exact ex_arith (e := (hi : Int) - lo) (r := (m : Int)) (by kernel_rfl) (by omega) (by omega)) ?_
   simp only [pp]
   by_cases hbr : ((accB m (pre ++ [(A, c, p)])).length : Int) = m
   ·refine sx 51 (.bool true) (by exact ex_beq (x := (accB m (pre ++ [(A, c, p)])).length) (y := (m : Int)) (by kernel_rfl) ⟨fun _ => by omega, fun _ => rfl⟩) ?_
    simp only [pp]
    refine rj_end hgo <| hKK22 _ _ <| wpIn_cond_true (by kernel_rfl) ?_
    refine wpIn_exit ?_
    try simp only [Exit.then, Exit.inBlock]
    skip
    exact ⟨hTwo17, A5, c5, rfl, by assumption, by assumption, by assumption, (by omega)⟩
   ·refine sx 51 (.bool false) (by exact ex_beq (x := (accB m (pre ++ [(A, c, p)])).length) (y := (m : Int)) (by kernel_rfl) ⟨fun q => (by cases q), fun q => absurd q (by omega)⟩) ?_
    simp only [pp]
    refine rj_end hgo <| hKK22 _ _ <| wpIn_cond_false (by kernel_rfl) ?_
    refine wpIn_skip ?_
    try simp only [Exit.then, Exit.inBlock]
    skip
    exact ⟨hTwo17, hBel17, A5, c5, by assumption, by assumption, by assumption, by assumption, by assumption⟩
  case hd17 =>
   rintro pre w17d hz17d hS17 hi17 hM17
   obtain ⟨A0, c0, hB, hO, hpl, hph, hpo⟩ := hi17
   replace hM17 : Mark w16.heap.size w17d := hM17
   have hlt_hpl_17 := hpl.lt
   have hlt_hph_17 := hph.lt
   have hlt_hpo_17 := hpo.lt
   have hacc : accB m pre = (l.take hi).drop lo := (accB_done hS17).trans hfin
   refine hKK14 _ _ <| wp_seq_k fun KK23 hKK23 => rl_begin fun hgK hgo => ?_
   refine tx 52 (.slice A0 (accB m pre).length c0) (by exact ld 41 po 0 (hpo.cell 0)) <| tk 6 (.slice A0 (accB m pre).length c0) <| tk 7 (.int .i64 0) ?_
   simp only [pp]
   refine rl_end hgo <| hKK23 _ _ ?_
   refine wp_ret ?_
   try simp only [Exit.then, Exit.inBlock]
   refine bm_mark hM17 ?_
   rintro w24 hG24 hZ24
   have hr24 := kcr hM17
   clear hM17
   replace hB := hB.kc hG24 hr24 (by omega)
   replace hO := hO.kc hG24 hr24 (by omega)
   replace hpl := hpl.kc hG24 hr24 (by omega)
   replace hph := hph.kc hG24 hr24 (by omega)
   replace hpo := hpo.kc hG24 hr24 (by omega)
   refine bm_ret (v := .tuple #[.slice A0 (accB m pre).length c0, .int .i64 0]) (res2 rfl (res_tmp (by kernel_rfl)) (res_tmp (by kernel_rfl))) ?_
   (rw [hacc] at hO; exact ⟨A0, c0, by rw [hacc], hB, hO⟩)
  case hs17 =>
   rintro _ pre w17s hz17s hok17 ⟨A0, c0, rfl, hB, hO, hpo, hlen⟩ hM17
   replace hM17 : Mark w16.heap.size w17s := hM17
   have hlt_hpo_17 := hpo.lt
   have hacc : accB m pre = (l.take hi).drop lo := (accB_stop hok17 hlen).trans hfin
   refine wp_exit <| hKK14 _ _ <| wp_seq_k fun KK25 hKK25 => rl_begin fun hgK hgo => ?_
   refine tx 52 (.slice A0 (accB m pre).length c0) (by exact ld 41 po 0 (hpo.cell 0)) <| tk 6 (.slice A0 (accB m pre).length c0) <| tk 7 (.int .i64 0) ?_
   simp only [pp]
   refine rl_end hgo <| hKK25 _ _ ?_
   refine wp_ret ?_
   try simp only [Exit.then, Exit.inBlock]
   refine bm_mark hM17 ?_
   rintro w26 hG26 hZ26
   have hr26 := kcr hM17
   clear hM17
   replace hB := hB.kc hG26 hr26 (by omega)
   replace hO := hO.kc hG26 hr26 (by omega)
   replace hpo := hpo.kc hG26 hr26 (by omega)
   refine bm_ret (v := .tuple #[.slice A0 (accB m pre).length c0, .int .i64 0]) (res2 rfl (res_tmp (by kernel_rfl)) (res_tmp (by kernel_rfl))) ?_
   (rw [hacc] at hO; exact ⟨A0, c0, by rw [hacc], hB, hO⟩)
/-! ### Same -/
theorem Own.bytes {n : Nat} {w : World} {A : Option Addr} {k c : Nat} {l : List UInt8} (h : Own n 5 w (.slice A k c) (bvals l)) : BytesAt w A l := by
  obtain ⟨A', c', e, h1, -⟩ := h.form
  cases e
  exact bytesAt_iff.2 h1
theorem bsT (l : List UInt8) : (bs l).toList = l := by rw [ByteArray.toList_eq]; exact bs_toList l
theorem ex_eq_bs {o : Oper} {ρ : Operand → Value} {w : World} {a b : List UInt8} (h : (execOp ρ o).run Tryd.prog w = .ok (.value (.bool ((bs a).toList == (bs b).toList))) w) : (execOp ρ o).run Tryd.prog w = .ok (.value (.bool (a == b))) w := by
  rw [h, bsT, bsT]
theorem ex_ne_bs {o : Oper} {ρ : Operand → Value} {w : World} {a b : List UInt8} (h : (execOp ρ o).run Tryd.prog w = .ok (.value (.bool (!((bs a).toList == (bs b).toList)))) w) : (execOp ρ o).run Tryd.prog w = .ok (.value (.bool (!(a == b)))) w := by
  rw [h, bsT, bsT]
set_option maxRecDepth 100000 in
set_option maxHeartbeats 8000000 in
theorem Equal_any (A B : Option Addr) (c d : Nat) (a b : List UInt8) (w : World) (hA : BytesAt w A a) (hB' : BytesAt w B b) :
    Calls Tryd.prog 84 #[.slice A a.length c, .slice B b.length d] w fun e w' => e = .returned (.bool (a == b)) ∧ Ltr w w' := by
  have hB := Ltr.refl w
  go_enter Tryd.func84, Tryd.ntmps84
  refine wp_seq_k fun KK1 hKK1 => rl_begin fun hgK hgo => tk 4 (.bool false) ?_
  simp only [pp]
  refine rl_end hgo <| hKK1 _ _ <| wp_seq_k fun KK2 hKK2 => rl_begin fun hgK hgo => tk 5 (.slice A a.length c) ?_
  simp only [pp]
  refine tx 6 (.string (bs a)) (by exact ex_conv_str _ rfl A c a rfl hA) <| tk 7 (.slice B b.length d) ?_
  simp only [pp]
  refine tx 8 (.string (bs b)) (by exact ex_conv_str _ rfl B d b rfl hB') ?_
  simp only [pp]
  refine tx 9 (.bool (a == b)) (by exact ex_eq_bs (by kernel_rfl)) <| tk 4 (.bool (a == b)) ?_
  simp only [pp]
  refine rl_end hgo <| hKK2 _ _ ?_
  refine wp_ret ?_
  try simp only [Exit.then, Exit.inBlock]
  refine bp_ret (v := .bool (a == b)) (res1 rfl (res_tmp (by kernel_rfl))) ?_
  exact ⟨rfl, hB⟩
set_option maxRecDepth 100000 in
set_option maxHeartbeats 8000000 in
theorem Same_any (a b : Nat) (l m : List UInt8) (w : World) (ha : RopeAt w a l) (hb : RopeAt w b m) (hm : l.length ≤ 1000000000 ∧ m.length ≤ 1000000000) :
    Calls Tryd.prog 38 #[.pointer (some ⟨a, 0, none⟩), .pointer (some ⟨b, 0, none⟩)] w fun e w' => e = .returned (.bool (l == m)) ∧ Ltr w w' := by
  have hB := Ltr.refl w
  by_cases h1 : l.length = m.length
  · by_cases h0 : l.length = 0
    · skip
      go_enter Tryd.func38, Tryd.ntmps38
      refine wp_seq_k fun KK1 hKK1 => rl_begin fun hgK hgo => tk 4 (.bool false) ?_
      simp only [pp]
      refine rl_end hgo <| hKK1 _ _ <| wp_seq_k fun KK2 hKK2 => wp_seq_k fun KK3 hKK3 => rl_begin fun hgK hgo => tk 9 (.pointer (some ⟨a, 0, none⟩)) ?_
      simp only [pp]
      refine rl_call (some 10) 45 #[.pointer (some ⟨a, 0, none⟩)] rfl (by kernel_rfl) (by kernel_rfl) (Len_any a l _ ha) ?_
      rintro e w4 ⟨rfl, hL4⟩
      refine ⟨_, rfl, ?_⟩
      have hz4 := hL4.size
      try simp only [pp]
      refine tk 11 (.pointer (some ⟨b, 0, none⟩)) ?_
      simp only [pp]
      replace hb := hb.later hL4
      refine rl_call (some 12) 45 #[.pointer (some ⟨b, 0, none⟩)] rfl (by kernel_rfl) (by kernel_rfl) (Len_any b m _ hb) ?_
      rintro e w5 ⟨rfl, hL5⟩
      refine ⟨_, rfl, ?_⟩
      have hz5 := hL5.size
      try simp only [pp]
      refine tx 13 (.bool false) (by exact nef (x := l.length) (y := m.length) (by omega)) ?_
      simp only [pp]
      refine rl_end hgo <| hKK3 _ _ <| wp_cond_false (by kernel_rfl) <| wp_skip <| hKK2 _ _ <| wp_seq_k fun KK6 hKK6 => wp_seq_k fun KK7 hKK7 => rl_begin fun hgK hgo => tk 14 (.pointer (some ⟨a, 0, none⟩)) ?_
      simp only [pp]
      replace ha := (ha.later hL4).later hL5
      refine rl_call (some 15) 45 #[.pointer (some ⟨a, 0, none⟩)] rfl (by kernel_rfl) (by kernel_rfl) (Len_any a l _ ha) ?_
      rintro e w8 ⟨rfl, hL8⟩
      refine ⟨_, rfl, ?_⟩
      have hz8 := hL8.size
      try simp only [pp]
      refine tx 16 (.bool true) (by exact eqt (x := l.length) (y := 0) (by omega)) ?_
      simp only [pp]
      refine rl_end hgo <| hKK7 _ _ <| wp_cond_true (by kernel_rfl) <| wp_seq_k fun KK9 hKK9 => rl_begin fun hgK hgo => tk 4 (.bool true) ?_
      simp only [pp]
      refine rl_end hgo <| hKK9 _ _ ?_
      refine wp_ret ?_
      try simp only [Exit.then, Exit.inBlock]
      refine bp_ret (v := .bool true) (res1 rfl (res_tmp (by kernel_rfl))) ?_
      replace hB := ((hB.later hL4).later hL5).later hL8
      exact ⟨by (obtain rfl : l = [] := List.eq_nil_of_length_eq_zero h0); (obtain rfl : m = [] := List.eq_nil_of_length_eq_zero (by omega)); rfl, hB⟩
    · have ha' := fun W (h : RopeAt W a l) => Bytes_in a l 0 l.length W h (Nat.zero_le _) (Nat.le_refl _) hm.1
      have hb' := fun W (h : RopeAt W b m) => Bytes_in b m 0 m.length W h (Nat.zero_le _) (Nat.le_refl _) hm.2
      simp only [List.drop_zero, List.take_length] at ha' hb'
      go_enter Tryd.func38, Tryd.ntmps38
      refine wp_seq_k fun KK1 hKK1 => rl_begin fun hgK hgo => tk 4 (.bool false) ?_
      simp only [pp]
      refine rl_end hgo <| hKK1 _ _ <| wp_seq_k fun KK2 hKK2 => wp_seq_k fun KK3 hKK3 => rl_begin fun hgK hgo => tk 9 (.pointer (some ⟨a, 0, none⟩)) ?_
      simp only [pp]
      refine rl_call (some 10) 45 #[.pointer (some ⟨a, 0, none⟩)] rfl (by kernel_rfl) (by kernel_rfl) (Len_any a l _ ha) ?_
      rintro e w4 ⟨rfl, hL4⟩
      refine ⟨_, rfl, ?_⟩
      have hz4 := hL4.size
      try simp only [pp]
      refine tk 11 (.pointer (some ⟨b, 0, none⟩)) ?_
      simp only [pp]
      replace hb := hb.later hL4
      refine rl_call (some 12) 45 #[.pointer (some ⟨b, 0, none⟩)] rfl (by kernel_rfl) (by kernel_rfl) (Len_any b m _ hb) ?_
      rintro e w5 ⟨rfl, hL5⟩
      refine ⟨_, rfl, ?_⟩
      have hz5 := hL5.size
      try simp only [pp]
      refine tx 13 (.bool false) (by exact nef (x := l.length) (y := m.length) (by omega)) ?_
      simp only [pp]
      refine rl_end hgo <| hKK3 _ _ <| wp_cond_false (by kernel_rfl) <| wp_skip <| hKK2 _ _ <| wp_seq_k fun KK6 hKK6 => wp_seq_k fun KK7 hKK7 => rl_begin fun hgK hgo => tk 14 (.pointer (some ⟨a, 0, none⟩)) ?_
      simp only [pp]
      replace ha := (ha.later hL4).later hL5
      refine rl_call (some 15) 45 #[.pointer (some ⟨a, 0, none⟩)] rfl (by kernel_rfl) (by kernel_rfl) (Len_any a l _ ha) ?_
      rintro e w8 ⟨rfl, hL8⟩
      refine ⟨_, rfl, ?_⟩
      have hz8 := hL8.size
      try simp only [pp]
      refine tx 16 (.bool false) (by exact eqf (x := l.length) (y := 0) (by omega)) ?_
      simp only [pp]
      refine rl_end hgo <| hKK7 _ _ <| wp_cond_false (by kernel_rfl) <| wp_skip <| hKK6 _ _ <| wp_seq_k fun KK9 hKK9 => rl_begin fun hgK hgo => tk 18 (.pointer (some ⟨a, 0, none⟩)) <| tk 19 (.pointer (some ⟨a, 0, none⟩)) ?_
      simp only [pp]
      replace ha := ha.later hL8
      refine rl_call (some 20) 45 #[.pointer (some ⟨a, 0, none⟩)] rfl (by kernel_rfl) (by kernel_rfl) (Len_any a l _ ha) ?_
      rintro e w10 ⟨rfl, hL10⟩
      refine ⟨_, rfl, ?_⟩
      have hz10 := hL10.size
      try simp only [pp]
      replace ha := ha.later hL10
      refine rl_call (some 21) 44 #[.pointer (some ⟨a, 0, none⟩), .int .i64 0, .int .i64 l.length] rfl (by kernel_rfl) (by kernel_rfl) (ha' _ ha) ?_
      rintro e w11 ⟨A1, c1, rfl, hL11, hx⟩
      refine ⟨_, rfl, ?_⟩
      have hz11 := hL11.size
      (have hx := hx.bytes)
      try simp only [pp]
      refine tk 17 (.tuple #[.slice A1 l.length c1, .int .i64 0]) <| tk 22 (.slice A1 l.length c1) <| tk 23 (.int .i64 0) <| tk 5 (.slice A1 l.length c1) <| tk 6 (.int .i64 0) ?_
      simp only [pp]
      refine rl_end hgo <| hKK9 _ _ <| wp_seq_k fun KK12 hKK12 => rl_begin fun hgK hgo => tk 25 (.pointer (some ⟨b, 0, none⟩)) <| tk 26 (.pointer (some ⟨b, 0, none⟩)) ?_
      simp only [pp]
      replace hb := (((hb.later hL5).later hL8).later hL10).later hL11
      refine rl_call (some 27) 45 #[.pointer (some ⟨b, 0, none⟩)] rfl (by kernel_rfl) (by kernel_rfl) (Len_any b m _ hb) ?_
      rintro e w13 ⟨rfl, hL13⟩
      refine ⟨_, rfl, ?_⟩
      have hz13 := hL13.size
      try simp only [pp]
      replace hb := hb.later hL13
      refine rl_call (some 28) 44 #[.pointer (some ⟨b, 0, none⟩), .int .i64 0, .int .i64 m.length] rfl (by kernel_rfl) (by kernel_rfl) (hb' _ hb) ?_
      rintro e w14 ⟨A2, c2, rfl, hL14, hy⟩
      refine ⟨_, rfl, ?_⟩
      have hz14 := hL14.size
      (have hy := hy.bytes)
      try simp only [pp]
      refine tk 24 (.tuple #[.slice A2 m.length c2, .int .i64 0]) <| tk 29 (.slice A2 m.length c2) <| tk 30 (.int .i64 0) <| tk 7 (.slice A2 m.length c2) <| tk 8 (.int .i64 0) ?_
      simp only [pp]
      refine rl_end hgo <| hKK12 _ _ <| wp_seq_k fun KK15 hKK15 => rl_begin fun hgK hgo => tk 31 (.slice A1 l.length c1) <| tk 32 (.slice A2 m.length c2) ?_
      simp only [pp]
      replace hx := (hx.later hL13).later hL14
      refine rl_call (some 33) 84 #[.slice A1 l.length c1, .slice A2 m.length c2] rfl (by kernel_rfl) (by kernel_rfl) (Equal_any A1 A2 c1 c2 l m _ hx hy) ?_
      rintro e w16 ⟨rfl, hL16⟩
      refine ⟨_, rfl, ?_⟩
      have hz16 := hL16.size
      try simp only [pp]
      refine tk 4 (.bool (l == m)) ?_
      simp only [pp]
      refine rl_end hgo <| hKK15 _ _ ?_
      refine wp_ret ?_
      try simp only [Exit.then, Exit.inBlock]
      refine bp_ret (v := .bool (l == m)) (res1 rfl (res_tmp (by kernel_rfl))) ?_
      replace hB := (((((((hB.later hL4).later hL5).later hL8).later hL10).later hL11).later hL13).later hL14).later hL16
      exact ⟨rfl, hB⟩
  · skip
    go_enter Tryd.func38, Tryd.ntmps38
    refine wp_seq_k fun KK1 hKK1 => rl_begin fun hgK hgo => tk 4 (.bool false) ?_
    simp only [pp]
    refine rl_end hgo <| hKK1 _ _ <| wp_seq_k fun KK2 hKK2 => wp_seq_k fun KK3 hKK3 => rl_begin fun hgK hgo => tk 9 (.pointer (some ⟨a, 0, none⟩)) ?_
    simp only [pp]
    refine rl_call (some 10) 45 #[.pointer (some ⟨a, 0, none⟩)] rfl (by kernel_rfl) (by kernel_rfl) (Len_any a l _ ha) ?_
    rintro e w4 ⟨rfl, hL4⟩
    refine ⟨_, rfl, ?_⟩
    have hz4 := hL4.size
    try simp only [pp]
    refine tk 11 (.pointer (some ⟨b, 0, none⟩)) ?_
    simp only [pp]
    replace hb := hb.later hL4
    refine rl_call (some 12) 45 #[.pointer (some ⟨b, 0, none⟩)] rfl (by kernel_rfl) (by kernel_rfl) (Len_any b m _ hb) ?_
    rintro e w5 ⟨rfl, hL5⟩
    refine ⟨_, rfl, ?_⟩
    have hz5 := hL5.size
    try simp only [pp]
    refine tx 13 (.bool true) (by exact net (x := l.length) (y := m.length) (by omega)) ?_
    simp only [pp]
    refine rl_end hgo <| hKK3 _ _ <| wp_cond_true (by kernel_rfl) <| wp_seq_k fun KK6 hKK6 => rl_begin fun hgK hgo => tk 4 (.bool false) ?_
    simp only [pp]
    refine rl_end hgo <| hKK6 _ _ ?_
    refine wp_ret ?_
    try simp only [Exit.then, Exit.inBlock]
    refine bp_ret (v := .bool false) (res1 rfl (res_tmp (by kernel_rfl))) ?_
    replace hB := (hB.later hL4).later hL5
    exact ⟨by rw [beq_eq_false_iff_ne.2 (fun e => h1 (congrArg List.length e))], hB⟩
end Go.Proofs.YtliphfgiaioebaaDoor
