/-
  Law 9: RopeStops' function.
-/
import Derived.Test.YtliphfgiaioebaaDoorB17
namespace Go.Proofs.YtliphfgiaioebaaDoor
set_option linter.unusedVariables false
set_option linter.unusedSimpArgs false
open Go.RowKit
set_option maxRecDepth 100000
set_option maxHeartbeats 16000000
def svals (ps : List (List UInt8)) : List Value := ps.map fun p => .string (bs p)
/-- a row of strings -/
structure Strs (A : Option Addr) (ps : List (List UInt8)) (w : World) : Prop where
  cs : CellsAt w A (svals ps)
section
variable {A : Option Addr} {ps : List (List UInt8)} {w w' : World}
theorem Strs.later (h : Strs A ps w) (hl : Ltr w w') : Strs A ps w' := ⟨h.cs.later hl⟩
theorem Strs.kc {D : Nat} {row : Option Nat} (h : Strs A ps w) (hg : w.grownBy w' row) (hr : ∀ r, row = some r → D ≤ r ∧ ∃ o : Obj, w.heap[r]? = some o ∧ o.isCells = false) (h0 : 0 ≤ 0) : Strs A ps w' := ⟨h.cs.kc hg hr h0⟩
theorem svals_get {i : Nat} {v : Value} (h : (svals ps)[i]? = some v) : ∃ p, ps[i]? = some p ∧ v = .string (bs p) := by
  unfold svals at h
  rw [List.getElem?_map] at h
  cases hp : ps[i]? with
  | none => rw [hp] at h; cases h
  | some p => rw [hp] at h; cases h; exact ⟨p, rfl, rfl⟩
theorem svals_at {i : Nat} {p : List UInt8} (h : ps[i]? = some p) : (svals ps)[i]? = some (.string (bs p)) := by unfold svals; rw [List.getElem?_map, h]; rfl
theorem svals_len : (svals ps).length = ps.length := by unfold svals; rw [List.length_map]
theorem Strs.upd {g : Nat} (h : Strs A ps w) (hu : Upd g w w') (hb : ∃ t x, Blk w g t #[.int .i64 x]) : Strs A ps w' := ⟨fun h0 => by
  obtain ⟨t, x, hb⟩ := hb
  obtain ⟨b, off, e, hc⟩ := h.cs h0
  refine ⟨b, off, e, fun i v hi => ?_⟩
  obtain ⟨p, -, rfl⟩ := svals_get hi
  have h1 := hc i _ hi
  have hne : b ≠ g := fun e => by
    subst e
    rw [hb.cell] at h1
    have h2 := Array.getElem?_eq_some_iff.1 h1
    obtain ⟨h3, h4⟩ := h2
    have : off + i = 0 := by simp at h3; omega
    simp [this] at h4
  rw [← h1]
  unfold World.cell?
  rw [hu.block b hne]⟩
theorem Strs.u8 {g j : Nat} (h : Strs A ps w) (hu : U8W g j w w') (_ : 0 ≤ 0) : Strs A ps w' := ⟨h.cs.u8 hu fun v hv => by
  obtain ⟨i, hi⟩ := List.getElem?_of_mem hv
  obtain ⟨p, -, rfl⟩ := svals_get hi
  rfl⟩
theorem Strs.get {b off i : Nat} {p : List UInt8} (h : Strs A ps w) (e : A = some ⟨b, off, none⟩) (hi : ps[i]? = some p) : w.cell? ⟨b, off + i, none⟩ = some (.string (bs p)) := by
  obtain ⟨b', off', e', hc⟩ := h.cs (by have := (List.getElem?_eq_some_iff.1 hi).1; rw [svals_len]; omega)
  rw [e] at e'; cases e'
  exact hc i _ (svals_at hi)
theorem Strs.some (h : Strs A ps w) (hi : 0 < ps.length) : ∃ b off, A = some ⟨b, off, none⟩ := by
  obtain ⟨b, off, e, -⟩ := h.cs (by rw [svals_len]; exact hi)
  exact ⟨b, off, e⟩
end
theorem len_flat : ∀ {ps : List (List UInt8)}, (∀ p ∈ ps, 0 < p.length) → ps.length ≤ ps.flatten.length
  | [], _ => Nat.le_refl _
  | p :: ps, h => by
    have h1 := len_flat (ps := ps) fun q hq => h q (List.mem_cons_of_mem _ hq)
    have h2 := h p (by simp)
    simp only [List.flatten_cons, List.length_append, List.length_cons]; omega
theorem pc_at {ps : List (List UInt8)} {pre : List Pc} {A : Option Addr} {c : Nat} {p : List UInt8} (h : PcOk ps (pre ++ [(A, c, p)])) : ps[pre.length]? = some p ∧ pre.length < ps.length := by
  obtain ⟨r, rfl⟩ := h
  have h1 : (List.map pcB (pre ++ [(A, c, p)]) ++ r)[pre.length]? = some p := by
    rw [List.map_append, List.append_assoc, List.getElem?_append_right (by simp)]
    simp [pcB]
  exact ⟨h1, (List.getElem?_eq_some_iff.1 h1).1⟩
theorem BRow.ex {n : Nat} {w : World} {A : Option Addr} {c : Nat} {l : List UInt8} (h : BRow n w A c l) : ∃ g off, A = .some ⟨g, off, none⟩ := by
  obtain ⟨_, _, g, off, e, _⟩ := h; exact ⟨g, off, e⟩
theorem svals_snoc (pre : List Pc) (A : Option Addr) (c : Nat) (p : List UInt8) : svals (pre.map pcB) ++ [.string (bs p)] = svals ((pre ++ [(A, c, p)]).map pcB) := by simp [svals, pcB]
theorem RopeStops_walk {n : Nat} (A : Option Addr) (c : Nat) (l : List ActD) (fr : Int) (back : Bool) (w : World) (hT : Tabs w) (hA : ActsAt n w A l) (hc : l.length ≤ c) (hm : l.length ≤ 1100000) :
    Calls Tryd.prog 8 #[.slice A l.length c, .int .i64 fr, .bool back] w fun e w' => e = .returned (.bool true) ∧ Ltr w w' := by
  have hB := Ltr.refl w
  refine (callsIn_wide (n := 0)).1 ?_
  refine callsIn_of_wp_marks Tryd.func8 rfl trivial ?_ rfl
  simp only [Tryd.ntmps8, List.size_toArray, List.length_cons, List.length_nil, Nat.reduceAdd, Nat.reduceSub, Array.replicate_succ, Array.replicate_zero, List.push_toArray, List.append_toArray, List.nil_append, List.cons_append]
  refine (wpIn_wide (n := 0)).2 ?_
  have hMs : Marks w.heap.size w.heap.size [] w := Marks.nil _ _ _
  have h4 := hT.four
  refine wp_seq_k fun KK1 hKK1 => rl_begin fun hgK hgo => ?_
  refine rl_alloc (some 6) 4 #[.bool false] rfl (by kernel_rfl) (fun W => by kernel_rfl) fun rv w2 hL2 hp2 hrv => ?_
  have hz2 := hL2.size
  have hlt2 := hrv.lt
  try simp only [pp]
  refine rl_end hgo <| hKK1 _ _ <| wp_seq_k fun KK3 hKK3 => wp_seq_k fun KK4 hKK4 => rl_begin fun hgK hgo => ?_
  replace hT := hT.later hL2
  refine rl_call (some 17) 17 #[] rfl (by kernel_rfl) (by kernel_rfl) (wakes_any _ hT) ?_
  rintro e w5 ⟨rfl, hL5⟩
  refine ⟨_, rfl, ?_⟩
  have hz5 := hL5.size
  try simp only [pp]
  refine tk 18 (.bool false) ?_
  simp only [pp]
  refine rl_end hgo <| hKK4 _ _ <| wp_cond_false (by kernel_rfl) <| wp_skip <| hKK3 _ _ <| wp_seq_k fun KK6 hKK6 => rl_begin fun hgK hgo => tk 20 (.slice A l.length c) ?_
  simp only [pp]
  replace hA := (hA.later hL2).later hL5
  replace hT := hT.later hL5
  refine rl_call (some 21) 18 #[.slice A l.length c] rfl (by kernel_rfl) (by kernel_rfl) (play_r A c l _ hT hA hc hm) ?_
  rintro e w7 ⟨A1, A2, c1, c2, rs, N, rfl, hL7, hP, hN⟩
  refine ⟨_, rfl, ?_⟩
  have hz7 := hL7.size
  have hrl := hP.len; have hNw : w.heap.size ≤ N := by (have h1 := hL7.size; omega)
  clear hA
  try simp only [pp]
  refine tk 19 (.tuple #[.agg #[.slice A1 rs.length c1, .slice A2 rs.length c2], .bool true]) <| tk 22 (.agg #[.slice A1 rs.length c1, .slice A2 rs.length c2]) <| tk 23 (.bool true) ?_
  simp only [pp]
  refine rl_alloc (some 7) 27 #[.slice none 0 0, .slice none 0 0] rfl (by kernel_rfl) (fun W => by kernel_rfl) fun bk w8 hL8 hp8 hbk => ?_
  have hz8 := hL8.size
  have hlt8 := hbk.lt
  try simp only [pp]
  refine rl_store bk #[.slice A1 rs.length c1, .slice A2 rs.length c2] rfl rfl (by kernel_rfl) rfl rfl (by kernel_rfl) hbk rfl (by kernel_rfl) fun w9 hU9 hn9 => ?_
  have hz9 := hU9.size
  replace hT := (hT.later hL7).later hL8
  replace hT := hT.upd hU9 (by omega)
  replace hB := (((hB.later hL2).later hL5).later hL7).later hL8
  replace hB := hB.upd hU9 (by omega)
  replace hMs := (((hMs.later hL2).later hL5).later hL7).later hL8
  replace hMs := hMs.upd hU9 (⟨_, _, hbk⟩)
  replace hrv := ((hrv.later hL5).later hL7).later hL8
  replace hrv := hrv.upd hU9 (by omega)
  replace hP := hP.later hL8
  replace hP := hP.upd hU9 (by omega)
  clear hbk
  have hbk := hn9
  clear hn9
  try simp only [pp]
  refine tk 8 (.bool true) ?_
  simp only [pp]
  refine rl_end hgo <| hKK6 _ _ <| wp_seq_k fun KK10 hKK10 => wp_seq_k fun KK11 hKK11 => rl_begin fun hgK hgo => tk 24 (.bool true) <| tk 25 (.bool false) ?_
  simp only [pp]
  refine rl_end hgo <| hKK11 _ _ <| wp_cond_false (by kernel_rfl) <| wp_skip <| hKK10 _ _ <| wp_seq_k fun KK12 hKK12 => wp_seq_k fun KK13 hKK13 => rl_begin fun hgK hgo => tk 26 (.pointer (some ⟨bk, 0, none⟩)) ?_
  simp only [pp]
  refine tx 27 (.slice A1 rs.length c1) (by exact ld 24 bk 0 (hbk.cell 0)) <| tk 28 (.int .i64 rs.length) <| tk 29 (.int .i64 0) ?_
  simp only [pp]
  refine rl_end hgo <| hKK13 _ _ <| wp_block ?_
  refine wp_loop_ghost (fun gn ga wl => ∃ (u : Nat → Value) (i : Nat) (ds : List Nat), gn = rs.length - i ∧ ga = ⟨#[.slice A l.length c, .int .i64 fr, .bool back, undef, undef, undef, .pointer (some ⟨rv, 0, none⟩), .pointer (some ⟨bk, 0, none⟩), .bool true, u 9, u 10, u 11, u 12, u 13, u 14, u 15, u 16, .bool true, .bool false, .tuple #[.agg #[.slice A1 rs.length c1, .slice A2 rs.length c2], .bool true], .slice A l.length c, .tuple #[.agg #[.slice A1 rs.length c1, .slice A2 rs.length c2], .bool true], .agg #[.slice A1 rs.length c1, .slice A2 rs.length c2], .bool true, .bool true, .bool false, .pointer (some ⟨bk, 0, none⟩), .slice A1 rs.length c1, .int .i64 rs.length, .int .i64 i, u 30, u 31, u 32, u 33, u 34, u 35, u 36, u 37, u 38, u 39, u 40, u 41, u 42, undef, u 44, u 45, u 46, u 47, u 48, u 49, u 50, u 51, u 52, u 53, u 54, u 55, u 56, u 57, u 58, u 59, u 60, u 61, u 62, u 63, u 64, u 65, u 66, u 67, u 68, undef, u 70, u 71, u 72, u 73, u 74, u 75, u 76, u 77, u 78, u 79, u 80, u 81, u 82, u 83, u 84, u 85, u 86, u 87, u 88, u 89, u 90, u 91, u 92, u 93, u 94, u 95, u 96, u 97, u 98, u 99, u 100, u 101, u 102, u 103, u 104, u 105, u 106, u 107, u 108, u 109, u 110, u 111, u 112], ds.map mkd⟩ ∧ (i ≤ rs.length) ∧ (Tabs wl) ∧ (Ltr w wl) ∧ (Ropes N A1 A2 rs wl) ∧ (Blk wl rv 4 #[.bool false]) ∧ (Blk wl bk 27 #[.slice A1 rs.length c1, .slice A2 rs.length c2]) ∧ (Marks w.heap.size wl.heap.size ds wl)) ((fun (i : Nat) (ds : List Nat) => (rs.length - i : Nat)) 0 []) ?_ ?_
  ·exact ⟨fun gj => (#[.slice A l.length c, .int .i64 fr, .bool back, undef, undef, undef, .pointer (some ⟨rv, 0, none⟩), .pointer (some ⟨bk, 0, none⟩), .bool true, undef, undef, undef, undef, undef, undef, undef, undef, .bool true, .bool false, .tuple #[.agg #[.slice A1 rs.length c1, .slice A2 rs.length c2], .bool true], .slice A l.length c, .tuple #[.agg #[.slice A1 rs.length c1, .slice A2 rs.length c2], .bool true], .agg #[.slice A1 rs.length c1, .slice A2 rs.length c2], .bool true, .bool true, .bool false, .pointer (some ⟨bk, 0, none⟩), .slice A1 rs.length c1, .int .i64 rs.length, .int .i64 0, undef, undef, undef, undef, undef, undef, undef, undef, undef, undef, undef, undef, undef, undef, undef, undef, undef, undef, undef, undef, undef, undef, undef, undef, undef, undef, undef, undef, undef, undef, undef, undef, undef, undef, undef, undef, undef, undef, undef, undef, undef, undef, undef, undef, undef, undef, undef, undef, undef, undef, undef, undef, undef, undef, undef, undef, undef, undef, undef, undef, undef, undef, undef, undef, undef, undef, undef, undef, undef, undef, undef, undef, undef, undef, undef, undef, undef, undef, undef, undef, undef, undef, undef]).getD gj undef, 0, [], rfl, rfl, Nat.zero_le _, by assumption, by assumption, by assumption, by assumption, by assumption, hMs.top⟩
  rintro n14 a14 w14 ⟨u, i, ds, rfl, rfl, hil', hT', hB', hP', hrv', hbk', hMs'⟩
  clear hbk hP hrv hMs hB hT
  have hil := hil'
  clear hil'
  have hT := hT'
  clear hT'
  have hB := hB'
  clear hB'
  have hP := hP'
  clear hP'
  have hrv := hrv'
  clear hrv'
  have hbk := hbk'
  clear hbk'
  have hMs := hMs'
  clear hMs'
  have hlt_hrv_14 := hrv.lt
  have hlt_hbk_14 := hbk.lt
  refine wp_seq_k fun KK15 hKK15 => rl_begin fun hgK hgo => ?_
  by_cases h1 : (i : Int) < rs.length
  ·refine tx 30 (.bool true) (by exact ebt (c := (i : Int) < rs.length) (by omega)) ?_
   simp only [pp]
   refine rl_end hgo <| hKK15 _ _ <| wp_seq_k fun KK16 hKK16 => wp_cond_true (by kernel_rfl) <| wp_skip <| hKK16 _ _ <| wp_seq_k fun KK17 hKK17 => wp_block <| wp_seq_k fun KK18 hKK18 => rl_begin fun hgK hgo => ?_
   (obtain ⟨b, t, hbt⟩ := rope_i i (by omega : i < rs.length)); (have htl := hP.lt hbt); (obtain ⟨gb, go', he1, hgn, -⟩ := hP.p i (by omega)); (obtain ⟨gs, gt, he2, hgn2, -⟩ := hP.s i (by omega)); (have hNs := hP.size); (have hbs := hB.size)
   refine tk 31 (.int .i64 i) ?_
   simp only [pp]
   refine rl_alloc (some 9) 3 #[.int .i64 0] rfl (by kernel_rfl) (fun W => by kernel_rfl) fun ib w19 hL19 hp19 hib => ?_
   have hz19 := hL19.size
   have hlt19 := hib.lt
   try simp only [pp]
   refine rl_store1 ib (.int .i64 i) rfl rfl (by kernel_rfl) rfl rfl (by kernel_rfl) hib (by kernel_rfl) fun w20 hU20 hn20 => ?_
   have hz20 := hU20.size
   replace hT := hT.later hL19
   replace hT := hT.upd hU20 (by omega)
   replace hB := hB.later hL19
   replace hB := hB.upd hU20 (by omega)
   replace hP := hP.later hL19
   replace hP := hP.upd hU20 (by omega)
   replace hrv := hrv.later hL19
   replace hrv := hrv.upd hU20 (by omega)
   replace hbk := hbk.later hL19
   replace hbk := hbk.upd hU20 (by omega)
   replace hMs := hMs.later hL19
   replace hMs := hMs.upd hU20 (⟨_, _, hib⟩)
   clear hib
   have hib := hn20
   clear hn20
   try simp only [pp]
   refine rl_end hgo <| hKK18 _ _ <| wp_seq_k fun KK21 hKK21 => rl_begin fun hgK hgo => tk 32 (.pointer (some ⟨bk, 0, none⟩)) ?_
   simp only [pp]
   refine tx 33 (.slice A1 rs.length c1) (by exact ld 24 bk 0 (hbk.cell 0)) ?_
   simp only [pp]
   refine tx 34 (.int .i64 i) (by exact ld 3 ib 0 (hib.cell 0)) ?_
   simp only [pp]
   refine tx 35 (.pointer (some ⟨gb, go' + i, none⟩)) (by exact ex_indexA i rfl rfl he1 rfl (by kernel_rfl) (fun _ => by kernel_rfl) (by omega) _) ?_
   simp only [pp]
   refine tx 36 (.pointer (some ⟨b, 0, none⟩)) (by exact ld1 31 _ rfl gb (go' + i) rfl (fun _ => by kernel_rfl) _ (hP.pc he1 (ptrs_at hbt))) <| tk 37 (.int .i64 fr) <| tk 38 (.bool back) ?_
   simp only [pp]
   refine rl_call (some 39) 32 #[.pointer (some ⟨b, 0, none⟩), .int .i64 fr, .bool back] rfl (by kernel_rfl) (by kernel_rfl) (Pieces_blk b fr back _) ?_
   rintro e w22 ⟨a3, b3, c3, rfl, hL22, hi0, hi1, hi2, hga, hgb, hgc⟩
   refine ⟨_, rfl, ?_⟩
   have hz22 := hL22.size
   have hlA := hi0.lt; have hlB := hi1.lt; have hlC := hi2.lt
   try simp only [pp]
   refine tk 10 (.func (.func 76) #[] #[.pointer (some ⟨a3, 0, none⟩), .pointer (some ⟨b3, 0, none⟩), .pointer (some ⟨c3, 0, none⟩)]) ?_
   simp only [pp]
   refine rl_end hgo <| hKK21 _ _ <| wp_seq_k fun KK23 hKK23 => wp_seq_k fun KK24 hKK24 => rl_begin fun hgK hgo => tk 40 (.func (.func 76) #[] #[.pointer (some ⟨a3, 0, none⟩), .pointer (some ⟨b3, 0, none⟩), .pointer (some ⟨c3, 0, none⟩)]) <| tk 41 (.bool false) ?_
   simp only [pp]
   refine rl_end hgo <| hKK24 _ _ <| wp_cond_false (by kernel_rfl) <| wp_skip <| hKK23 _ _ <| wp_seq_k fun KK25 hKK25 => rl_begin fun hgK hgo => ?_
   refine rl_alloc (some 11) 25 #[.slice none 0 0] rfl (by kernel_rfl) (fun W => by kernel_rfl) fun ah w26 hL26 hp26 hah => ?_
   have hz26 := hL26.size
   have hlt26 := hah.lt
   try simp only [pp]
   refine rl_end hgo <| hKK25 _ _ <| wp_seq_k fun KK27 hKK27 => wp_seq_k fun KK28 hKK28 => ?_
   replace hP := (hP.later hL22).later hL26
   (obtain ⟨v, ot, hro⟩ := hP.rn hbt); (have hfp := pcs_facts hro fr back); (have hlf := len_flat hfp.1)
   refine rl_begin fun hgK hgo => tk 42 (.func (.func 76) #[] #[.pointer (some ⟨a3, 0, none⟩), .pointer (some ⟨b3, 0, none⟩), .pointer (some ⟨c3, 0, none⟩)]) ?_
   simp only [pp]
   refine rl_end hgo <| hKK28 _ _ <| wp_block ?_
   replace hMs := (hMs.later hL22).later hL26
   have hnm29 := hMs.fresh
   replace hB := (hB.later hL22).later hL26
   have hbz29 := hB.size
   replace hMs := hMs.top
   replace hT := (hT.later hL22).later hL26
   replace hrv := (hrv.later hL22).later hL26
   replace hbk := (hbk.later hL22).later hL26
   replace hib := (hib.later hL22).later hL26
   replace hi0 := hi0.later hL26
   replace hi1 := hi1.later hL26
   replace hi2 := hi2.later hL26
   refine range_p (n₀ := N) (P := Tryd.prog) rfl (enters_of Tryd.func76 (by kernel_rfl) rfl) (iter_seq N b t v ot fr back (by omega) _ hro a3 b3 c3 hi0 hi1 hi2) (by omega) (fun (pre : List (Pc)) W => ∃ (A8 : Option Addr) (c8 : Nat), (Tabs W) ∧ (Ltr w W) ∧ (Ropes N A1 A2 rs W) ∧ (Blk W rv 4 #[.bool false]) ∧ (Blk W bk 27 #[.slice A1 rs.length c1, .slice A2 rs.length c2]) ∧ (RopeN N W b t v ot) ∧ (Blk W ib 3 #[.int .i64 i]) ∧ (Blk W a3 31 #[.pointer (some ⟨b, 0, none⟩)]) ∧ (Blk W b3 3 #[.int .i64 fr]) ∧ (Blk W c3 4 #[.bool back]) ∧ (Own N 9 W (.slice A8 pre.length c8) (svals (pre.map pcB))) ∧ (Blk W ah 25 #[.slice A8 pre.length c8]) ∧ (Marks w.heap.size w26.heap.size ds W)) (fun _ _ _ => False) ?hI29 ?hIx29 ?h029 (fun (⟨A5, c5, p5⟩ : Pc) a W => a = ⟨#[.slice A l.length c, .int .i64 fr, .bool back, undef, undef, undef, .pointer (some ⟨rv, 0, none⟩), .pointer (some ⟨bk, 0, none⟩), .bool true, .pointer (some ⟨ib, 0, none⟩), .func (.func 76) #[] #[.pointer (some ⟨a3, 0, none⟩), .pointer (some ⟨b3, 0, none⟩), .pointer (some ⟨c3, 0, none⟩)], .pointer (some ⟨ah, 0, none⟩), .slice A5 p5.length c5, u 13, u 14, u 15, u 16, .bool true, .bool false, .tuple #[.agg #[.slice A1 rs.length c1, .slice A2 rs.length c2], .bool true], .slice A l.length c, .tuple #[.agg #[.slice A1 rs.length c1, .slice A2 rs.length c2], .bool true], .agg #[.slice A1 rs.length c1, .slice A2 rs.length c2], .bool true, .bool true, .bool false, .pointer (some ⟨bk, 0, none⟩), .slice A1 rs.length c1, .int .i64 rs.length, .int .i64 i, .bool true, .int .i64 i, .pointer (some ⟨bk, 0, none⟩), .slice A1 rs.length c1, .int .i64 i, .pointer (some ⟨gb, go' + i, none⟩), .pointer (some ⟨b, 0, none⟩), .int .i64 fr, .bool back, .func (.func 76) #[] #[.pointer (some ⟨a3, 0, none⟩), .pointer (some ⟨b3, 0, none⟩), .pointer (some ⟨c3, 0, none⟩)], .func (.func 76) #[] #[.pointer (some ⟨a3, 0, none⟩), .pointer (some ⟨b3, 0, none⟩), .pointer (some ⟨c3, 0, none⟩)], .bool false, .func (.func 76) #[] #[.pointer (some ⟨a3, 0, none⟩), .pointer (some ⟨b3, 0, none⟩), .pointer (some ⟨c3, 0, none⟩)], .slice A5 p5.length c5, u 44, u 45, u 46, u 47, u 48, u 49, u 50, u 51, u 52, u 53, u 54, u 55, u 56, u 57, u 58, u 59, u 60, u 61, u 62, u 63, u 64, u 65, u 66, u 67, u 68, undef, u 70, u 71, u 72, u 73, u 74, u 75, u 76, u 77, u 78, u 79, u 80, u 81, u 82, u 83, u 84, u 85, u 86, u 87, u 88, u 89, u 90, u 91, u 92, u 93, u 94, u 95, u 96, u 97, u 98, u 99, u 100, u 101, u 102, u 103, u 104, u 105, u 106, u 107, u 108, u 109, u 110, u 111, u 112], []⟩ ∧ (pcP N (A5, c5, p5) W)) ?hAx29 ?ha29 ?hb29 ?hd29 ?hs29
   case hI29 =>
    rintro pre W W' row ⟨A8, c8, hT, hB, hP, hrv, hbk, hro, hib, hi0, hi1, hi2, hO, hah, hMs⟩ hg hr
    exact ⟨A8, c8, hT.kc hg hr (by omega), hB.kc hg hr (by omega), hP.kc hg hr (by omega), hrv.kc hg hr (by omega), hbk.kc hg hr (by omega), hro.kc hg hr (by omega), hib.kc hg hr (by omega), hi0.kc hg hr (by omega), hi1.kc hg hr (by omega), hi2.kc hg hr (by omega), hO.kc hg hr (by omega), hah.kc hg hr (by omega), hMs.kc hg hr (by omega)⟩
   case hIx29 =>
    exact fun _ _ _ _ _ h _ _ => h
   case h029 =>
    exact ⟨none, 0, by assumption, by assumption, by assumption, by assumption, by assumption, hro, hib, hi0, hi1, hi2, Own.nil _ _ _ (by omega), hah, by assumption⟩
   case hAx29 =>
    rintro ⟨A5, c5, p5⟩ a' _ W W' row ⟨rfl, hp⟩ hg hr
    exact ⟨rfl, hp.kc hg hr (by omega)⟩
   case ha29 =>
    skip
    rintro l29 pre ⟨A5, c5, p5⟩ w29a hz29a hi29 hp hok29
    have hLa29 := Ltr.refl w29a
    clear hi29
    simp only [pcEnc, List.setIfInBounds_toArray, List.set_cons_zero, List.set_cons_succ]
    refine rj_begin fun hgK hgo => sk 12 (.slice A5 p5.length c5) ?_
    simp only [pp]
    refine rj_end hgo ?_
    exact And.intro hLa29 (And.intro rfl hp)
   case hb29 =>
    rintro l29 pre ⟨A5, c5, p5⟩ a29 w29b hTwo29 hi29 ⟨rfl, hp⟩ hok29
    obtain ⟨A8, c8, hT, hB, hP, hrv, hbk, hro, hib, hi0, hi1, hi2, hO, hah, hMs⟩ := hi29
    have hz229 := hTwo29.size
    have hBel29 := Bel.refl N w29b (by omega)
    have hlt_hrv_29 := hrv.lt
    have hlt_hbk_29 := hbk.lt
    have hlt_hib_29 := hib.lt
    have hlt_hi0_29 := hi0.lt
    have hlt_hi1_29 := hi1.lt
    have hlt_hi2_29 := hi2.lt
    have hlt_hah_29 := hah.lt
    (obtain ⟨hpe, hpl⟩ := pc_at hok29)
    refine wpIn_block <| wpIn_seq_k fun KK30 hKK30 => wpIn_seq_k fun KK31 hKK31 => ?_
    refine rm_beginF (fun W => Ltr w29b W) (by kernel_rfl) (by exact bl_drew (bl_refl _)) fun K32 hgo w32 hE hS32 => ?_
    have hv32 : Ltr w29b w32 := by rw [hE]; exact bl_drew (bl_refl _)
    have hz32 := hv32.size
    clear hE hS32
    refine mx 0 44 (.slice A8 pre.length c8) rfl (fun W hW => by (exact ld 25 ah 0 ((hah.later hW).cell 0))) <| mk 1 45 (.int .i64 pre.length) <| mk 2 46 (.pointer (some ⟨bk, 1, none⟩)) ?_
    try simp only [pp]
    refine mx 3 47 (.slice A2 rs.length c2) rfl (fun W hW => by (exact ld 25 bk 1 ((hbk.later hW).cell 1))) ?_
    try simp only [pp]
    refine mx 4 48 (.int .i64 i) rfl (fun W hW => by (exact ld 3 ib 0 ((hib.later hW).cell 0))) ?_
    try simp only [pp]
    refine mx 5 49 (.pointer (some ⟨gs, gt + i, none⟩)) rfl (fun W hW => by (exact ex_indexA i rfl rfl he2 rfl (by kernel_rfl) (fun _ => by kernel_rfl) (by omega) _)) ?_
    try simp only [pp]
    refine mx 6 50 (.string (bs t)) rfl (fun W hW => by (exact ld1 9 _ rfl gs (gt + i) rfl (fun _ => by kernel_rfl) _ ((hP.later hW).sc he2 (strs_at hbt)))) ?_
    try simp only [pp]
    refine mx 7 51 (.int .i64 t.length) rfl (fun W hW => by (exact ex_len_bs (by kernel_rfl))) ?_
    try simp only [pp]
    refine mx 8 52 (.bool false) rfl (fun W hW => by (exact ebf (c := (pre.length : Int) > t.length) (by omega))) ?_
    try simp only [pp]
    refine rm_done (by kernel_rfl) (fun w33 hL33 hS33 => hgo.out _ _ ?_) _
    clear hgo K32
    have hz33 := (show Ltr w29b _ from hS33).size
    have hy33 := hL33.size
    refine hKK31 _ _ <| wpIn_cond_false (by kernel_rfl) ?_
    refine wpIn_skip ?_
    refine hKK30 _ _ <| rj_begin fun hgK hgo => ?_
    replace hah := hah.later (show Ltr w29b _ from hS33)
    refine sx 53 (.slice A8 pre.length c8) (by exact ld 25 ah 0 (hah.cell 0)) <| sk 54 (.slice A5 p5.length c5) ?_
    simp only [pp]
    replace hp := hp.later (show Ltr w29b _ from hS33)
    refine sx 55 (.string (bs p5)) (by exact ex_conv_str _ rfl A5 c5 p5 rfl (BRow.bytes (A := A5) (c := c5) (l := p5) hp)) ?_
    simp only [pp]
    refine rj_bslice (some 56) 9 #[.string (bs p5)] 1 rfl (by kernel_rfl) (fun W => by kernel_rfl) fun z1 w34 hL34 hp34 hz1 => ?_
    have hz34 := hL34.size
    have hlt34 := hz1.lt
    try simp only [pp]
    replace hO := (hO.later (show Ltr w29b _ from hS33)).later hL34
    have hrow35 := hO.row
    refine rj_appendF (z := .string ⟨#[]⟩) (bytes := 16) (ys := [.string (bs p5)]) (zs := svals ((pre ++ [(A5, c5, p5)]).map pcB)) (k := 1) (n' := (pre ++ [(A5, c5, p5)]).length) (some 57) rfl (by kernel_rfl) rfl rfl rfl (by kernel_rfl) (by kernel_rfl) (by kernel_rfl) hO (cells_one hz1) (by rfl) (by exact svals_snoc _ _ _ _) (by (rw [svals_len, List.length_map])) (fun h => by cases h) ((by simp [Value.oneCell'])) (by (simp only [svals_len, List.length_map, List.length_cons, List.length_nil]; omega)) (by (simp only [svals_len, List.length_map, List.length_cons, List.length_nil]; omega)) fun A9 c9 w35 ho35 hG35 => ?_
    replace hT := (hT.later (show Ltr w29b _ from hS33)).later hL34
    replace hT := hT.gr hG35 (fun k hk => by have := hrow35 k hk; omega)
    replace hB := (hB.later (show Ltr w29b _ from hS33)).later hL34
    replace hB := hB.gr hG35 (fun k hk => by have := hrow35 k hk; omega)
    replace hP := (hP.later (show Ltr w29b _ from hS33)).later hL34
    replace hP := hP.gr hG35 (fun k hk => by have := hrow35 k hk; omega)
    replace hrv := (hrv.later (show Ltr w29b _ from hS33)).later hL34
    replace hrv := hrv.gr hG35 (blk_ne hO hrv (by decide))
    replace hbk := (hbk.later (show Ltr w29b _ from hS33)).later hL34
    replace hbk := hbk.gr hG35 (blk_ne hO hbk (by decide))
    replace hro := (hro.later (show Ltr w29b _ from hS33)).later hL34
    replace hro := hro.gr hG35 (fun k hk => by have := hrow35 k hk; omega)
    replace hib := (hib.later (show Ltr w29b _ from hS33)).later hL34
    replace hib := hib.gr hG35 (blk_ne hO hib (by decide))
    replace hi0 := (hi0.later (show Ltr w29b _ from hS33)).later hL34
    replace hi0 := hi0.gr hG35 (blk_ne hO hi0 (by decide))
    replace hi1 := (hi1.later (show Ltr w29b _ from hS33)).later hL34
    replace hi1 := hi1.gr hG35 (blk_ne hO hi1 (by decide))
    replace hi2 := (hi2.later (show Ltr w29b _ from hS33)).later hL34
    replace hi2 := hi2.gr hG35 (blk_ne hO hi2 (by decide))
    replace hah := hah.later hL34
    replace hah := hah.gr hG35 (blk_ne hO hah (by decide))
    replace hMs := (hMs.later (show Ltr w29b _ from hS33)).later hL34
    replace hMs := hMs.gr hG35 (⟨_, _, _, hO⟩)
    replace hTwo29 := (hTwo29.later (show Ltr w29b _ from hS33)).later hL34
    replace hTwo29 := hTwo29.gr hG35 (hTwo29.row hO)
    replace hBel29 := (hBel29.later (show Ltr w29b _ from hS33)).later hL34
    replace hBel29 := hBel29.gr hG35 (fun k hk => by have := hrow35 k hk; omega)
    clear hp
    clear hz1
    clear hO
    have hO := ho35
    clear ho35
    have hz35 := hG35.size
    try simp only [pp]
    refine rj_store1 ah (.slice A9 ((pre ++ [(A5, c5, p5)]).length) c9) rfl rfl (by kernel_rfl) rfl rfl (by kernel_rfl) hah (by kernel_rfl) fun w36 hU36 hn36 => ?_
    have hz36 := hU36.size
    replace hT := hT.upd hU36 (by omega)
    replace hB := hB.upd hU36 (by omega)
    replace hP := hP.upd hU36 (by omega)
    replace hrv := hrv.upd hU36 (by omega)
    replace hbk := hbk.upd hU36 (by omega)
    replace hro := hro.upd hU36 (by omega)
    replace hib := hib.upd hU36 (by omega)
    replace hi0 := hi0.upd hU36 (by omega)
    replace hi1 := hi1.upd hU36 (by omega)
    replace hi2 := hi2.upd hU36 (by omega)
    replace hO := hO.upd hU36 (blk_ne hO hah (by decide))
    replace hMs := hMs.upd hU36 (⟨_, _, hah⟩)
    replace hTwo29 := hTwo29.upd hU36 (by omega)
    replace hBel29 := hBel29.upd hU36 (by omega)
    clear hah
    have hah := hn36
    clear hn36
    try simp only [pp]
    refine rj_end hgo ?_
    try simp only [Exit.then, Exit.inBlock]
    skip
    exact ⟨hTwo29, hBel29, A9, c9, by assumption, by assumption, by assumption, by assumption, by assumption, by assumption, by assumption, by assumption, by assumption, by assumption, by assumption, by assumption, by assumption⟩
   case hd29 =>
    rintro pre w29d hz29d hS29 hi29 hM29
    obtain ⟨A8, c8, hT, hB, hP, hrv, hbk, hro, hib, hi0, hi1, hi2, hO, hah, hMs⟩ := hi29
    replace hM29 : Mark w26.heap.size w29d := hM29
    have hlt_hrv_29 := hrv.lt
    have hlt_hbk_29 := hbk.lt
    have hlt_hib_29 := hib.lt
    have hlt_hi0_29 := hi0.lt
    have hlt_hi1_29 := hi1.lt
    have hlt_hi2_29 := hi2.lt
    have hlt_hah_29 := hah.lt
    replace hMs := hMs.cons hM29 (by omega) hnm29
    (have hln : pre.length = (pcsOf ot t fr back).length := by (rw [← hS29, List.length_map])); (rw [hS29] at hO); (rw [hln] at hO hah)
    refine hKK27 _ _ <| wp_seq_k fun KK37 hKK37 => wp_seq_k fun KK38 hKK38 => rl_begin fun hgK hgo => ?_
    refine rl_alloc (some 13) 3 #[.int .i64 0] rfl (by kernel_rfl) (fun W => by kernel_rfl) fun s0 w39 hL39 hp39 hs0 => ?_
    have hz39 := hL39.size
    have hlt39 := hs0.lt
    try simp only [pp]
    refine rl_store1 s0 (.int .i64 1) rfl rfl (by kernel_rfl) rfl rfl (by kernel_rfl) hs0 (by kernel_rfl) fun w40 hU40 hn40 => ?_
    have hz40 := hU40.size
    replace hT := hT.later hL39
    replace hT := hT.upd hU40 (by omega)
    replace hB := hB.later hL39
    replace hB := hB.upd hU40 (by omega)
    replace hP := hP.later hL39
    replace hP := hP.upd hU40 (by omega)
    replace hrv := hrv.later hL39
    replace hrv := hrv.upd hU40 (by omega)
    replace hbk := hbk.later hL39
    replace hbk := hbk.upd hU40 (by omega)
    replace hro := hro.later hL39
    replace hro := hro.upd hU40 (by omega)
    replace hib := hib.later hL39
    replace hib := hib.upd hU40 (by omega)
    replace hi0 := hi0.later hL39
    replace hi0 := hi0.upd hU40 (by omega)
    replace hi1 := hi1.later hL39
    replace hi1 := hi1.upd hU40 (by omega)
    replace hi2 := hi2.later hL39
    replace hi2 := hi2.upd hU40 (by omega)
    replace hO := hO.later hL39
    replace hO := hO.upd hU40 (blk_ne hO hs0 (by decide))
    replace hah := hah.later hL39
    replace hah := hah.upd hU40 (by omega)
    replace hMs := hMs.later hL39
    replace hMs := hMs.upd hU40 (⟨_, _, hs0⟩)
    clear hs0
    have hs0 := hn40
    clear hn40
    try simp only [pp]
    refine rl_end hgo <| hKK38 _ _ <| wp_block ?_
    refine wp_loop_ghost (fun gn ga wl => ∃ (u : Nat → Value) (sb st : Nat) (ds : List Nat), gn = 4 - st ∧ ga = ⟨#[.slice A l.length c, .int .i64 fr, .bool back, undef, undef, undef, .pointer (some ⟨rv, 0, none⟩), .pointer (some ⟨bk, 0, none⟩), .bool true, .pointer (some ⟨ib, 0, none⟩), .func (.func 76) #[] #[.pointer (some ⟨a3, 0, none⟩), .pointer (some ⟨b3, 0, none⟩), .pointer (some ⟨c3, 0, none⟩)], .pointer (some ⟨ah, 0, none⟩), u 12, .pointer (some ⟨sb, 0, none⟩), u 14, u 15, u 16, .bool true, .bool false, .tuple #[.agg #[.slice A1 rs.length c1, .slice A2 rs.length c2], .bool true], .slice A l.length c, .tuple #[.agg #[.slice A1 rs.length c1, .slice A2 rs.length c2], .bool true], .agg #[.slice A1 rs.length c1, .slice A2 rs.length c2], .bool true, .bool true, .bool false, .pointer (some ⟨bk, 0, none⟩), .slice A1 rs.length c1, .int .i64 rs.length, .int .i64 i, .bool true, .int .i64 i, .pointer (some ⟨bk, 0, none⟩), .slice A1 rs.length c1, .int .i64 i, .pointer (some ⟨gb, go' + i, none⟩), .pointer (some ⟨b, 0, none⟩), .int .i64 fr, .bool back, .func (.func 76) #[] #[.pointer (some ⟨a3, 0, none⟩), .pointer (some ⟨b3, 0, none⟩), .pointer (some ⟨c3, 0, none⟩)], .func (.func 76) #[] #[.pointer (some ⟨a3, 0, none⟩), .pointer (some ⟨b3, 0, none⟩), .pointer (some ⟨c3, 0, none⟩)], .bool false, .func (.func 76) #[] #[.pointer (some ⟨a3, 0, none⟩), .pointer (some ⟨b3, 0, none⟩), .pointer (some ⟨c3, 0, none⟩)], undef, u 44, u 45, u 46, u 47, u 48, u 49, u 50, u 51, u 52, u 53, u 54, u 55, u 56, u 57, u 58, u 59, u 60, u 61, u 62, u 63, u 64, u 65, u 66, u 67, u 68, undef, u 70, u 71, u 72, u 73, u 74, u 75, u 76, u 77, u 78, u 79, u 80, u 81, u 82, u 83, u 84, u 85, u 86, u 87, u 88, u 89, u 90, u 91, u 92, u 93, u 94, u 95, u 96, u 97, u 98, u 99, u 100, u 101, u 102, u 103, u 104, u 105, u 106, u 107, u 108, u 109, u 110, u 111, u 112], ds.map mkd⟩ ∧ (1 ≤ st ∧ st ≤ 4) ∧ (ah < sb ∧ a3 < sb ∧ b3 < sb ∧ c3 < sb ∧ ib < sb ∧ bk < sb ∧ rv < sb ∧ N ≤ sb) ∧ (Tabs wl) ∧ (Ltr w wl) ∧ (Ropes N A1 A2 rs wl) ∧ (Blk wl rv 4 #[.bool false]) ∧ (Blk wl bk 27 #[.slice A1 rs.length c1, .slice A2 rs.length c2]) ∧ (RopeN N wl b t v ot) ∧ (Blk wl ib 3 #[.int .i64 i]) ∧ (Blk wl a3 31 #[.pointer (some ⟨b, 0, none⟩)]) ∧ (Blk wl b3 3 #[.int .i64 fr]) ∧ (Blk wl c3 4 #[.bool back]) ∧ (Strs A8 (pcsOf ot t fr back) wl) ∧ (Blk wl ah 25 #[.slice A8 (pcsOf ot t fr back).length c8]) ∧ (Blk wl sb 3 #[.int .i64 st]) ∧ (Marks w.heap.size wl.heap.size ds wl)) ((fun (sb st : Nat) (ds : List Nat) => (4 - st : Nat)) s0 1 (w26.heap.size :: ds)) ?_ ?_
    ·exact ⟨fun gj => (#[.slice A l.length c, .int .i64 fr, .bool back, undef, undef, undef, .pointer (some ⟨rv, 0, none⟩), .pointer (some ⟨bk, 0, none⟩), .bool true, .pointer (some ⟨ib, 0, none⟩), .func (.func 76) #[] #[.pointer (some ⟨a3, 0, none⟩), .pointer (some ⟨b3, 0, none⟩), .pointer (some ⟨c3, 0, none⟩)], .pointer (some ⟨ah, 0, none⟩), u 12, .pointer (some ⟨s0, 0, none⟩), u 14, u 15, u 16, .bool true, .bool false, .tuple #[.agg #[.slice A1 rs.length c1, .slice A2 rs.length c2], .bool true], .slice A l.length c, .tuple #[.agg #[.slice A1 rs.length c1, .slice A2 rs.length c2], .bool true], .agg #[.slice A1 rs.length c1, .slice A2 rs.length c2], .bool true, .bool true, .bool false, .pointer (some ⟨bk, 0, none⟩), .slice A1 rs.length c1, .int .i64 rs.length, .int .i64 i, .bool true, .int .i64 i, .pointer (some ⟨bk, 0, none⟩), .slice A1 rs.length c1, .int .i64 i, .pointer (some ⟨gb, go' + i, none⟩), .pointer (some ⟨b, 0, none⟩), .int .i64 fr, .bool back, .func (.func 76) #[] #[.pointer (some ⟨a3, 0, none⟩), .pointer (some ⟨b3, 0, none⟩), .pointer (some ⟨c3, 0, none⟩)], .func (.func 76) #[] #[.pointer (some ⟨a3, 0, none⟩), .pointer (some ⟨b3, 0, none⟩), .pointer (some ⟨c3, 0, none⟩)], .bool false, .func (.func 76) #[] #[.pointer (some ⟨a3, 0, none⟩), .pointer (some ⟨b3, 0, none⟩), .pointer (some ⟨c3, 0, none⟩)], undef, u 44, u 45, u 46, u 47, u 48, u 49, u 50, u 51, u 52, u 53, u 54, u 55, u 56, u 57, u 58, u 59, u 60, u 61, u 62, u 63, u 64, u 65, u 66, u 67, u 68, undef, u 70, u 71, u 72, u 73, u 74, u 75, u 76, u 77, u 78, u 79, u 80, u 81, u 82, u 83, u 84, u 85, u 86, u 87, u 88, u 89, u 90, u 91, u 92, u 93, u 94, u 95, u 96, u 97, u 98, u 99, u 100, u 101, u 102, u 103, u 104, u 105, u 106, u 107, u 108, u 109, u 110, u 111, u 112]).getD gj undef, s0, 1, (w26.heap.size :: ds), rfl, rfl, (by omega), (by omega), by assumption, by assumption, by assumption, by assumption, by assumption, hro, by assumption, by assumption, by assumption, by assumption, ⟨hO.cells⟩, by assumption, hs0, hMs.top⟩
    rintro n41 a41 w41 ⟨u, sb, st, ds, rfl, rfl, hst', hso', hT', hB', hP', hrv', hbk', hro', hib', hi0', hi1', hi2', hSt', hah', hsb', hMs'⟩
    clear hs0 hMs hah hO hi2 hi1 hi0 hib hro hbk hrv hP hB hT
    have hst := hst'
    clear hst'
    have hso := hso'
    clear hso'
    have hT := hT'
    clear hT'
    have hB := hB'
    clear hB'
    have hP := hP'
    clear hP'
    have hrv := hrv'
    clear hrv'
    have hbk := hbk'
    clear hbk'
    have hro := hro'
    clear hro'
    have hib := hib'
    clear hib'
    have hi0 := hi0'
    clear hi0'
    have hi1 := hi1'
    clear hi1'
    have hi2 := hi2'
    clear hi2'
    have hSt := hSt'
    clear hSt'
    have hah := hah'
    clear hah'
    have hsb := hsb'
    clear hsb'
    have hMs := hMs'
    clear hMs'
    have hlt_hrv_41 := hrv.lt
    have hlt_hbk_41 := hbk.lt
    have hlt_hib_41 := hib.lt
    have hlt_hi0_41 := hi0.lt
    have hlt_hi1_41 := hi1.lt
    have hlt_hi2_41 := hi2.lt
    have hlt_hah_41 := hah.lt
    have hlt_hsb_41 := hsb.lt
    refine wp_seq_k fun KK42 hKK42 => wp_seq_k fun KK43 hKK43 => rl_begin fun hgK hgo => ?_
    refine tx 58 (.int .i64 st) (by exact ld 3 sb 0 (hsb.cell 0)) ?_
    simp only [pp]
    refine tx 59 (.slice A8 (pcsOf ot t fr back).length c8) (by exact ld 25 ah 0 (hah.cell 0)) <| tk 60 (.int .i64 (pcsOf ot t fr back).length) ?_
    simp only [pp]
    by_cases h2 : (st : Int) ≤ (pcsOf ot t fr back).length
    ·refine tx 61 (.bool true) (by exact ebt (c := (st : Int) ≤ ((pcsOf ot t fr back).length)) (by omega)) <| tk 62 (.bool true) ?_
     simp only [pp]
     refine tx 63 (.int .i64 st) (by exact ld 3 sb 0 (hsb.cell 0)) ?_
     simp only [pp]
     by_cases h3 : (st : Int) ≤ 3
     ·refine tx 64 (.bool true) (by exact ebt (c := (st : Int) ≤ 3) (by omega)) <| tk 65 (.bool true) ?_
      simp only [pp]
      refine rl_end hgo <| hKK43 _ _ <| wp_cond_true (by kernel_rfl) <| wp_skip <| hKK42 _ _ <| wp_seq_k fun KK44 hKK44 => wp_block <| wp_seq_k fun KK45 hKK45 => rl_begin fun hgK hgo => ?_
      refine rl_alloc (some 14) 3 #[.int .i64 0] rfl (by kernel_rfl) (fun W => by kernel_rfl) fun nb w46 hL46 hp46 hnb => ?_
      have hz46 := hL46.size
      have hlt46 := hnb.lt
      try simp only [pp]
      refine rl_store1 nb (.int .i64 0) rfl rfl (by kernel_rfl) rfl rfl (by kernel_rfl) hnb (by kernel_rfl) fun w47 hU47 hn47 => ?_
      have hz47 := hU47.size
      replace hT := hT.later hL46
      replace hT := hT.upd hU47 (by omega)
      replace hB := hB.later hL46
      replace hB := hB.upd hU47 (by omega)
      replace hP := hP.later hL46
      replace hP := hP.upd hU47 (by omega)
      replace hrv := hrv.later hL46
      replace hrv := hrv.upd hU47 (by omega)
      replace hbk := hbk.later hL46
      replace hbk := hbk.upd hU47 (by omega)
      replace hro := hro.later hL46
      replace hro := hro.upd hU47 (by omega)
      replace hib := hib.later hL46
      replace hib := hib.upd hU47 (by omega)
      replace hi0 := hi0.later hL46
      replace hi0 := hi0.upd hU47 (by omega)
      replace hi1 := hi1.later hL46
      replace hi1 := hi1.upd hU47 (by omega)
      replace hi2 := hi2.later hL46
      replace hi2 := hi2.upd hU47 (by omega)
      replace hSt := hSt.later hL46
      replace hSt := hSt.upd hU47 (⟨_, _, hnb⟩)
      replace hah := hah.later hL46
      replace hah := hah.upd hU47 (by omega)
      replace hsb := hsb.later hL46
      replace hsb := hsb.upd hU47 (by omega)
      replace hMs := hMs.later hL46
      replace hMs := hMs.upd hU47 (⟨_, _, hnb⟩)
      clear hnb
      have hnb := hn47
      clear hn47
      try simp only [pp]
      refine rl_end hgo <| hKK45 _ _ <| wp_seq_k fun KK48 hKK48 => wp_seq_k fun KK49 hKK49 => rl_begin fun hgK hgo => tk 68 (.func (.func 76) #[] #[.pointer (some ⟨a3, 0, none⟩), .pointer (some ⟨b3, 0, none⟩), .pointer (some ⟨c3, 0, none⟩)]) ?_
      simp only [pp]
      refine rl_end hgo <| hKK49 _ _ <| wp_block ?_
      have hnm50 := hMs.fresh
      have hbz50 := hB.size
      replace hMs := hMs.top
      refine range_p (n₀ := N) (P := Tryd.prog) rfl (enters_of Tryd.func76 (by kernel_rfl) rfl) (iter_seq N b t v ot fr back (by omega) _ hro a3 b3 c3 hi0 hi1 hi2) (by omega) (fun (pre : List (Pc)) W => (Tabs W) ∧ (Ltr w W) ∧ (Ropes N A1 A2 rs W) ∧ (Blk W rv 4 #[.bool false]) ∧ (Blk W bk 27 #[.slice A1 rs.length c1, .slice A2 rs.length c2]) ∧ (RopeN N W b t v ot) ∧ (Blk W ib 3 #[.int .i64 i]) ∧ (Blk W a3 31 #[.pointer (some ⟨b, 0, none⟩)]) ∧ (Blk W b3 3 #[.int .i64 fr]) ∧ (Blk W c3 4 #[.bool back]) ∧ (Strs A8 (pcsOf ot t fr back) W) ∧ (Blk W ah 25 #[.slice A8 (pcsOf ot t fr back).length c8]) ∧ (Blk W sb 3 #[.int .i64 st]) ∧ (Blk W nb 3 #[.int .i64 pre.length]) ∧ (pre.length < st) ∧ (Marks w.heap.size w47.heap.size ds W)) (fun c (pre : List (Pc)) W => c = Code.exit 6 ∧ (Tabs W) ∧ (Ltr w W) ∧ (Ropes N A1 A2 rs W) ∧ (Blk W rv 4 #[.bool false]) ∧ (Blk W bk 27 #[.slice A1 rs.length c1, .slice A2 rs.length c2]) ∧ (RopeN N W b t v ot) ∧ (Blk W ib 3 #[.int .i64 i]) ∧ (Blk W a3 31 #[.pointer (some ⟨b, 0, none⟩)]) ∧ (Blk W b3 3 #[.int .i64 fr]) ∧ (Blk W c3 4 #[.bool back]) ∧ (Strs A8 (pcsOf ot t fr back) W) ∧ (Blk W ah 25 #[.slice A8 (pcsOf ot t fr back).length c8]) ∧ (Blk W sb 3 #[.int .i64 st]) ∧ (Blk W nb 3 #[.int .i64 st]) ∧ (Marks w.heap.size w47.heap.size ds W)) ?hI50 ?hIx50 ?h050 (fun (⟨A6, c6, p6⟩ : Pc) a W => a = ⟨#[.slice A l.length c, .int .i64 fr, .bool back, undef, undef, undef, .pointer (some ⟨rv, 0, none⟩), .pointer (some ⟨bk, 0, none⟩), .bool true, .pointer (some ⟨ib, 0, none⟩), .func (.func 76) #[] #[.pointer (some ⟨a3, 0, none⟩), .pointer (some ⟨b3, 0, none⟩), .pointer (some ⟨c3, 0, none⟩)], .pointer (some ⟨ah, 0, none⟩), u 12, .pointer (some ⟨sb, 0, none⟩), .pointer (some ⟨nb, 0, none⟩), .slice A6 p6.length c6, u 16, .bool true, .bool false, .tuple #[.agg #[.slice A1 rs.length c1, .slice A2 rs.length c2], .bool true], .slice A l.length c, .tuple #[.agg #[.slice A1 rs.length c1, .slice A2 rs.length c2], .bool true], .agg #[.slice A1 rs.length c1, .slice A2 rs.length c2], .bool true, .bool true, .bool false, .pointer (some ⟨bk, 0, none⟩), .slice A1 rs.length c1, .int .i64 rs.length, .int .i64 i, .bool true, .int .i64 i, .pointer (some ⟨bk, 0, none⟩), .slice A1 rs.length c1, .int .i64 i, .pointer (some ⟨gb, go' + i, none⟩), .pointer (some ⟨b, 0, none⟩), .int .i64 fr, .bool back, .func (.func 76) #[] #[.pointer (some ⟨a3, 0, none⟩), .pointer (some ⟨b3, 0, none⟩), .pointer (some ⟨c3, 0, none⟩)], .func (.func 76) #[] #[.pointer (some ⟨a3, 0, none⟩), .pointer (some ⟨b3, 0, none⟩), .pointer (some ⟨c3, 0, none⟩)], .bool false, .func (.func 76) #[] #[.pointer (some ⟨a3, 0, none⟩), .pointer (some ⟨b3, 0, none⟩), .pointer (some ⟨c3, 0, none⟩)], undef, u 44, u 45, u 46, u 47, u 48, u 49, u 50, u 51, u 52, u 53, u 54, u 55, u 56, u 57, .int .i64 st, .slice A8 (pcsOf ot t fr back).length c8, .int .i64 (pcsOf ot t fr back).length, .bool true, .bool true, .int .i64 st, .bool true, .bool true, u 66, u 67, .func (.func 76) #[] #[.pointer (some ⟨a3, 0, none⟩), .pointer (some ⟨b3, 0, none⟩), .pointer (some ⟨c3, 0, none⟩)], .slice A6 p6.length c6, u 70, u 71, u 72, u 73, u 74, u 75, u 76, u 77, u 78, u 79, u 80, u 81, u 82, u 83, u 84, u 85, u 86, u 87, u 88, u 89, u 90, u 91, u 92, u 93, u 94, u 95, u 96, u 97, u 98, u 99, u 100, u 101, u 102, u 103, u 104, u 105, u 106, u 107, u 108, u 109, u 110, u 111, u 112], []⟩ ∧ (pcP N (A6, c6, p6) W)) ?hAx50 ?ha50 ?hb50 ?hd50 ?hs50
      case hI50 =>
       rintro pre W W' row ⟨hT, hB, hP, hrv, hbk, hro, hib, hi0, hi1, hi2, hSt, hah, hsb, hnb, hnl, hMs⟩ hg hr
       exact ⟨hT.kc hg hr (by omega), hB.kc hg hr (by omega), hP.kc hg hr (by omega), hrv.kc hg hr (by omega), hbk.kc hg hr (by omega), hro.kc hg hr (by omega), hib.kc hg hr (by omega), hi0.kc hg hr (by omega), hi1.kc hg hr (by omega), hi2.kc hg hr (by omega), hSt.kc hg hr (by omega), hah.kc hg hr (by omega), hsb.kc hg hr (by omega), hnb.kc hg hr (by omega), hnl, hMs.kc hg hr (by omega)⟩
      case hIx50 =>
       rintro c pre W W' row ⟨rfl, hT, hB, hP, hrv, hbk, hro, hib, hi0, hi1, hi2, hSt, hah, hsb, hnb, hMs⟩ hg hr
       exact ⟨rfl, hT.kc hg hr (by omega), hB.kc hg hr (by omega), hP.kc hg hr (by omega), hrv.kc hg hr (by omega), hbk.kc hg hr (by omega), hro.kc hg hr (by omega), hib.kc hg hr (by omega), hi0.kc hg hr (by omega), hi1.kc hg hr (by omega), hi2.kc hg hr (by omega), hSt.kc hg hr (by omega), hah.kc hg hr (by omega), hsb.kc hg hr (by omega), hnb.kc hg hr (by omega), hMs.kc hg hr (by omega)⟩
      case h050 =>
       exact ⟨by assumption, by assumption, by assumption, by assumption, by assumption, hro, by assumption, by assumption, by assumption, by assumption, by assumption, by assumption, by assumption, hnb, (show 0 < st by omega), by assumption⟩
      case hAx50 =>
       rintro ⟨A6, c6, p6⟩ a' _ W W' row ⟨rfl, hp⟩ hg hr
       exact ⟨rfl, hp.kc hg hr (by omega)⟩
      case ha50 =>
       skip
       rintro l50 pre ⟨A6, c6, p6⟩ w50a hz50a hi50 hp hok50
       have hLa50 := Ltr.refl w50a
       clear hi50
       simp only [pcEnc, List.setIfInBounds_toArray, List.set_cons_zero, List.set_cons_succ]
       refine rj_begin fun hgK hgo => sk 15 (.slice A6 p6.length c6) ?_
       simp only [pp]
       refine rj_end hgo ?_
       exact And.intro hLa50 (And.intro rfl hp)
      case hb50 =>
       rintro l50 pre ⟨A6, c6, p6⟩ a50 w50b hTwo50 hi50 ⟨rfl, hp⟩ hok50
       obtain ⟨hT, hB, hP, hrv, hbk, hro, hib, hi0, hi1, hi2, hSt, hah, hsb, hnb, hnl, hMs⟩ := hi50
       have hz250 := hTwo50.size
       have hBel50 := Bel.refl N w50b (by omega)
       have hlt_hrv_50 := hrv.lt
       have hlt_hbk_50 := hbk.lt
       have hlt_hib_50 := hib.lt
       have hlt_hi0_50 := hi0.lt
       have hlt_hi1_50 := hi1.lt
       have hlt_hi2_50 := hi2.lt
       have hlt_hah_50 := hah.lt
       have hlt_hsb_50 := hsb.lt
       have hlt_hnb_50 := hnb.lt
       (obtain ⟨hpe, hpl⟩ := pc_at hok50); (obtain ⟨hp0, hpa, hpb⟩ := pc_ok hfp hok50); (have hsl : (pre ++ [(A6, c6, p6)]).length = pre.length + 1 := by simp); (obtain ⟨g8, o8, he8⟩ := hSt.some (by omega)); (obtain ⟨gq, oq, heq⟩ := BRow.ex hp)
       refine wpIn_block <| wpIn_seq_k fun KK51 hKK51 => wpIn_seq_k fun KK52 hKK52 => ?_
       refine rm_beginF (fun W => Ltr w50b W) (by kernel_rfl) (by exact bl_drew (bl_refl _)) fun K53 hgo w53 hE hS53 => ?_
       have hv53 : Ltr w50b w53 := by rw [hE]; exact bl_drew (bl_refl _)
       have hz53 := hv53.size
       clear hE hS53
       refine mx 0 70 (.int .i64 pre.length) rfl (fun W hW => by (exact ld 3 nb 0 ((hnb.later hW).cell 0))) ?_
       try simp only [pp]
       refine mx 1 71 (.int .i64 st) rfl (fun W hW => by (exact ld 3 sb 0 ((hsb.later hW).cell 0))) ?_
       try simp only [pp]
       refine mx 2 72 (.bool false) rfl (fun W hW => by (exact ebf (c := (pre.length : Int) ≥ st) (by omega))) <| mk 3 73 (.bool false) <| mk 4 74 (.slice A6 p6.length c6) ?_
       try simp only [pp]
       refine mx 5 75 (.string (bs p6)) rfl (fun W hW => by (exact ex_conv_str _ rfl A6 c6 p6 rfl (BRow.bytes (A := A6) (c := c6) (l := p6) (BRow.later hp hW)))) ?_
       try simp only [pp]
       refine mx 6 76 (.slice A8 (pcsOf ot t fr back).length c8) rfl (fun W hW => by (exact ld 25 ah 0 ((hah.later hW).cell 0))) ?_
       try simp only [pp]
       refine mx 7 77 (.int .i64 pre.length) rfl (fun W hW => by (exact ld 3 nb 0 ((hnb.later hW).cell 0))) ?_
       try simp only [pp]
       refine mx 8 78 (.pointer (some ⟨g8, o8 + pre.length, none⟩)) rfl (fun W hW => by (exact ex_indexA pre.length rfl rfl he8 rfl (by kernel_rfl) (fun _ => by kernel_rfl) (by omega) _)) ?_
       try simp only [pp]
       refine mx 9 79 (.string (bs p6)) rfl (fun W hW => by (exact ld1 9 _ rfl g8 (o8 + pre.length) rfl (fun _ => by kernel_rfl) _ ((hSt.later hW).get he8 hpe))) ?_
       try simp only [pp]
       refine mx 10 80 (.bool false) rfl (fun W hW => by (exact ex_ne_lit (a := p6) (b := p6) (by kernel_rfl) rfl)) <| mk 11 81 (.bool false) ?_
       try simp only [pp]
       refine rm_done (by kernel_rfl) (fun w54 hL54 hS54 => hgo.out _ _ ?_) _
       clear hgo K53
       have hz54 := (show Ltr w50b _ from hS54).size
       have hy54 := hL54.size
       refine hKK52 _ _ <| wpIn_cond_false (by kernel_rfl) ?_
       refine wpIn_skip ?_
       refine hKK51 _ _ <| wpIn_seq_k fun KK55 hKK55 => wpIn_seq_k fun KK56 hKK56 => rj_begin fun hgK hgo => sk 82 (.slice A6 p6.length c6) <| sk 83 (.int .i64 p6.length) <| sk 84 (.int .i64 0) ?_
       simp only [pp]
       refine rj_end hgo <| hKK56 _ _ <| wpIn_block ?_
       replace hT := hT.later (show Ltr w50b _ from hS54)
       replace hB := hB.later (show Ltr w50b _ from hS54)
       replace hP := hP.later (show Ltr w50b _ from hS54)
       replace hrv := hrv.later (show Ltr w50b _ from hS54)
       replace hbk := hbk.later (show Ltr w50b _ from hS54)
       replace hro := hro.later (show Ltr w50b _ from hS54)
       replace hib := hib.later (show Ltr w50b _ from hS54)
       replace hi0 := hi0.later (show Ltr w50b _ from hS54)
       replace hi1 := hi1.later (show Ltr w50b _ from hS54)
       replace hi2 := hi2.later (show Ltr w50b _ from hS54)
       replace hSt := hSt.later (show Ltr w50b _ from hS54)
       replace hah := hah.later (show Ltr w50b _ from hS54)
       replace hsb := hsb.later (show Ltr w50b _ from hS54)
       replace hnb := hnb.later (show Ltr w50b _ from hS54)
       replace hMs := hMs.later (show Ltr w50b _ from hS54)
       replace hTwo50 := hTwo50.later (show Ltr w50b _ from hS54)
       replace hBel50 := hBel50.later (show Ltr w50b _ from hS54)
       replace hp := hp.later (show Ltr w50b _ from hS54)
       refine wpIn_loop_ghost (fun gn ga wl => ∃ (u : Nat → Value) (k : Nat) (q : List UInt8), gn = p6.length - k ∧ ga = ⟨#[.slice A l.length c, .int .i64 fr, .bool back, undef, undef, undef, .pointer (some ⟨rv, 0, none⟩), .pointer (some ⟨bk, 0, none⟩), .bool true, .pointer (some ⟨ib, 0, none⟩), .func (.func 76) #[] #[.pointer (some ⟨a3, 0, none⟩), .pointer (some ⟨b3, 0, none⟩), .pointer (some ⟨c3, 0, none⟩)], .pointer (some ⟨ah, 0, none⟩), u 12, .pointer (some ⟨sb, 0, none⟩), .pointer (some ⟨nb, 0, none⟩), .slice A6 p6.length c6, u 16, .bool true, .bool false, .tuple #[.agg #[.slice A1 rs.length c1, .slice A2 rs.length c2], .bool true], .slice A l.length c, .tuple #[.agg #[.slice A1 rs.length c1, .slice A2 rs.length c2], .bool true], .agg #[.slice A1 rs.length c1, .slice A2 rs.length c2], .bool true, .bool true, .bool false, .pointer (some ⟨bk, 0, none⟩), .slice A1 rs.length c1, .int .i64 rs.length, .int .i64 i, .bool true, .int .i64 i, .pointer (some ⟨bk, 0, none⟩), .slice A1 rs.length c1, .int .i64 i, .pointer (some ⟨gb, go' + i, none⟩), .pointer (some ⟨b, 0, none⟩), .int .i64 fr, .bool back, .func (.func 76) #[] #[.pointer (some ⟨a3, 0, none⟩), .pointer (some ⟨b3, 0, none⟩), .pointer (some ⟨c3, 0, none⟩)], .func (.func 76) #[] #[.pointer (some ⟨a3, 0, none⟩), .pointer (some ⟨b3, 0, none⟩), .pointer (some ⟨c3, 0, none⟩)], .bool false, .func (.func 76) #[] #[.pointer (some ⟨a3, 0, none⟩), .pointer (some ⟨b3, 0, none⟩), .pointer (some ⟨c3, 0, none⟩)], undef, u 44, u 45, u 46, u 47, u 48, u 49, u 50, u 51, u 52, u 53, u 54, u 55, u 56, u 57, .int .i64 st, .slice A8 (pcsOf ot t fr back).length c8, .int .i64 (pcsOf ot t fr back).length, .bool true, .bool true, .int .i64 st, .bool true, .bool true, u 66, u 67, .func (.func 76) #[] #[.pointer (some ⟨a3, 0, none⟩), .pointer (some ⟨b3, 0, none⟩), .pointer (some ⟨c3, 0, none⟩)], .slice A6 p6.length c6, .int .i64 pre.length, .int .i64 st, .bool false, .bool false, .slice A6 p6.length c6, .string (bs p6), .slice A8 (pcsOf ot t fr back).length c8, .int .i64 pre.length, .pointer (some ⟨g8, o8 + pre.length, none⟩), .string (bs p6), .bool false, .bool false, .slice A6 p6.length c6, .int .i64 p6.length, .int .i64 k, u 85, u 86, u 87, u 88, u 89, u 90, u 91, u 92, u 93, u 94, u 95, u 96, u 97, u 98, u 99, u 100, u 101, u 102, u 103, u 104, u 105, u 106, u 107, u 108, u 109, u 110, u 111, u 112], []⟩ ∧ (k ≤ p6.length) ∧ (q.length = p6.length) ∧ (Tabs wl) ∧ (Ltr w wl) ∧ (Ropes N A1 A2 rs wl) ∧ (Blk wl rv 4 #[.bool false]) ∧ (Blk wl bk 27 #[.slice A1 rs.length c1, .slice A2 rs.length c2]) ∧ (RopeN N wl b t v ot) ∧ (Blk wl ib 3 #[.int .i64 i]) ∧ (Blk wl a3 31 #[.pointer (some ⟨b, 0, none⟩)]) ∧ (Blk wl b3 3 #[.int .i64 fr]) ∧ (Blk wl c3 4 #[.bool back]) ∧ (Strs A8 (pcsOf ot t fr back) wl) ∧ (Blk wl ah 25 #[.slice A8 (pcsOf ot t fr back).length c8]) ∧ (Blk wl sb 3 #[.int .i64 st]) ∧ (Blk wl nb 3 #[.int .i64 pre.length]) ∧ (BRow N wl (some ⟨gq, oq, none⟩) c6 q) ∧ (Two w47.heap.size w50b wl) ∧ (Bel N w50b wl) ∧ (Marks w.heap.size w47.heap.size ds wl)) ((fun (k : Nat) (q : List UInt8) => (p6.length - k : Nat)) 0 p6) ?_ ?_
       ·exact ⟨fun gj => (#[.slice A l.length c, .int .i64 fr, .bool back, undef, undef, undef, .pointer (some ⟨rv, 0, none⟩), .pointer (some ⟨bk, 0, none⟩), .bool true, .pointer (some ⟨ib, 0, none⟩), .func (.func 76) #[] #[.pointer (some ⟨a3, 0, none⟩), .pointer (some ⟨b3, 0, none⟩), .pointer (some ⟨c3, 0, none⟩)], .pointer (some ⟨ah, 0, none⟩), u 12, .pointer (some ⟨sb, 0, none⟩), .pointer (some ⟨nb, 0, none⟩), .slice A6 p6.length c6, u 16, .bool true, .bool false, .tuple #[.agg #[.slice A1 rs.length c1, .slice A2 rs.length c2], .bool true], .slice A l.length c, .tuple #[.agg #[.slice A1 rs.length c1, .slice A2 rs.length c2], .bool true], .agg #[.slice A1 rs.length c1, .slice A2 rs.length c2], .bool true, .bool true, .bool false, .pointer (some ⟨bk, 0, none⟩), .slice A1 rs.length c1, .int .i64 rs.length, .int .i64 i, .bool true, .int .i64 i, .pointer (some ⟨bk, 0, none⟩), .slice A1 rs.length c1, .int .i64 i, .pointer (some ⟨gb, go' + i, none⟩), .pointer (some ⟨b, 0, none⟩), .int .i64 fr, .bool back, .func (.func 76) #[] #[.pointer (some ⟨a3, 0, none⟩), .pointer (some ⟨b3, 0, none⟩), .pointer (some ⟨c3, 0, none⟩)], .func (.func 76) #[] #[.pointer (some ⟨a3, 0, none⟩), .pointer (some ⟨b3, 0, none⟩), .pointer (some ⟨c3, 0, none⟩)], .bool false, .func (.func 76) #[] #[.pointer (some ⟨a3, 0, none⟩), .pointer (some ⟨b3, 0, none⟩), .pointer (some ⟨c3, 0, none⟩)], undef, u 44, u 45, u 46, u 47, u 48, u 49, u 50, u 51, u 52, u 53, u 54, u 55, u 56, u 57, .int .i64 st, .slice A8 (pcsOf ot t fr back).length c8, .int .i64 (pcsOf ot t fr back).length, .bool true, .bool true, .int .i64 st, .bool true, .bool true, u 66, u 67, .func (.func 76) #[] #[.pointer (some ⟨a3, 0, none⟩), .pointer (some ⟨b3, 0, none⟩), .pointer (some ⟨c3, 0, none⟩)], .slice A6 p6.length c6, .int .i64 pre.length, .int .i64 st, .bool false, .bool false, .slice A6 p6.length c6, .string (bs p6), .slice A8 (pcsOf ot t fr back).length c8, .int .i64 pre.length, .pointer (some ⟨g8, o8 + pre.length, none⟩), .string (bs p6), .bool false, .bool false, .slice A6 p6.length c6, .int .i64 p6.length, .int .i64 0, u 85, u 86, u 87, u 88, u 89, u 90, u 91, u 92, u 93, u 94, u 95, u 96, u 97, u 98, u 99, u 100, u 101, u 102, u 103, u 104, u 105, u 106, u 107, u 108, u 109, u 110, u 111, u 112]).getD gj undef, 0, p6, rfl, rfl, Nat.zero_le _, rfl, by assumption, by assumption, by assumption, by assumption, by assumption, hro, by assumption, by assumption, by assumption, by assumption, by assumption, by assumption, by assumption, by assumption, (by rw [← heq]; exact hp), by assumption, by assumption, by assumption⟩
       rintro n57 a57 w57 ⟨u, k, q, rfl, rfl, hkl', hql', hT', hB', hP', hrv', hbk', hro', hib', hi0', hi1', hi2', hSt', hah', hsb', hnb', hqB', hTwo50', hBel50', hMs'⟩
       clear hp hBel50 hTwo50 hMs hnb hsb hah hSt hi2 hi1 hi0 hib hro hbk hrv hP hB hT
       have hkl := hkl'
       clear hkl'
       have hql := hql'
       clear hql'
       have hT := hT'
       clear hT'
       have hB := hB'
       clear hB'
       have hP := hP'
       clear hP'
       have hrv := hrv'
       clear hrv'
       have hbk := hbk'
       clear hbk'
       have hro := hro'
       clear hro'
       have hib := hib'
       clear hib'
       have hi0 := hi0'
       clear hi0'
       have hi1 := hi1'
       clear hi1'
       have hi2 := hi2'
       clear hi2'
       have hSt := hSt'
       clear hSt'
       have hah := hah'
       clear hah'
       have hsb := hsb'
       clear hsb'
       have hnb := hnb'
       clear hnb'
       have hqB := hqB'
       clear hqB'
       have hTwo50 := hTwo50'
       clear hTwo50'
       have hBel50 := hBel50'
       clear hBel50'
       have hMs := hMs'
       clear hMs'
       have hlt_hrv_57 := hrv.lt
       have hlt_hbk_57 := hbk.lt
       have hlt_hib_57 := hib.lt
       have hlt_hi0_57 := hi0.lt
       have hlt_hi1_57 := hi1.lt
       have hlt_hi2_57 := hi2.lt
       have hlt_hah_57 := hah.lt
       have hlt_hsb_57 := hsb.lt
       have hlt_hnb_57 := hnb.lt
       refine wpIn_seq_k fun KK58 hKK58 => rj_begin fun hgK hgo => ?_
       by_cases h5 : (k : Int) < p6.length
       ·refine sx 85 (.bool true) (by exact ebt (c := (k : Int) < p6.length) (by omega)) ?_
        simp only [pp]
        refine rj_end hgo <| hKK58 _ _ <| wpIn_seq_k fun KK59 hKK59 => wpIn_cond_true (by kernel_rfl) ?_
        refine wpIn_skip ?_
        refine hKK59 _ _ <| wpIn_seq_k fun KK60 hKK60 => wpIn_block <| wpIn_seq_k fun KK61 hKK61 => rj_begin fun hgK hgo => sk 86 (.int .i64 k) <| sk 16 (.int .i64 k) ?_
        simp only [pp]
        refine rj_end hgo <| hKK61 _ _ <| rj_begin fun hgK hgo => sk 87 (.slice A6 p6.length c6) <| sk 88 (.int .i64 k) ?_
        simp only [pp]
        refine sx 89 (.pointer (some ⟨gq, oq + k, none⟩)) (by exact ex_indexA k rfl rfl heq rfl (by kernel_rfl) (fun _ => by kernel_rfl) (by omega) _) ?_
        simp only [pp]
        refine rj_upd rfl (by kernel_rfl) (ex_storeB (u := 42) rfl hqB (by omega) rfl rfl (by kernel_rfl)) ?_
        rintro w62 ⟨hV62, hqB, hng62⟩
        have hU62 := hV62.upd
        replace hT := hT.upd hU62 (by omega)
        replace hB := hB.upd hU62 (by omega)
        replace hP := hP.upd hU62 (by omega)
        replace hrv := hrv.u8 hV62 (by kernel_rfl)
        replace hbk := hbk.u8 hV62 (by kernel_rfl)
        replace hro := hro.upd hU62 (by omega)
        replace hib := hib.u8 hV62 (by kernel_rfl)
        replace hi0 := hi0.u8 hV62 (by kernel_rfl)
        replace hi1 := hi1.u8 hV62 (by kernel_rfl)
        replace hi2 := hi2.u8 hV62 (by kernel_rfl)
        replace hSt := hSt.u8 hV62 (Nat.le_refl 0)
        replace hah := hah.u8 hV62 (by kernel_rfl)
        replace hsb := hsb.u8 hV62 (by kernel_rfl)
        replace hnb := hnb.u8 hV62 (by kernel_rfl)
        replace hTwo50 := hTwo50.u8 hV62 (Nat.le_refl 0)
        replace hBel50 := hBel50.upd hU62 (by omega)
        replace hMs := hMs.u8 hV62 (Nat.le_refl 0)
        have hz62 := hU62.size
        try simp only [pp]
        refine rj_end hgo <| hKK60 _ _ <| rj_begin fun hgK hgo => ?_
        refine sx 90 (.int .i64 (((k + 1 : Nat) : Int))) (by exact ex_arith (e := (k : Int) + 1) (r := ((k + 1 : Nat) : Int)) (by kernel_rfl) (by omega) (by omega)) <| sk 84 (.int .i64 (((k + 1 : Nat) : Int))) ?_
        simp only [pp]
        refine rj_end hgo ?_
        exact ⟨_, (by omega), fun gj => (#[.slice A l.length c, .int .i64 fr, .bool back, undef, undef, undef, .pointer (some ⟨rv, 0, none⟩), .pointer (some ⟨bk, 0, none⟩), .bool true, .pointer (some ⟨ib, 0, none⟩), .func (.func 76) #[] #[.pointer (some ⟨a3, 0, none⟩), .pointer (some ⟨b3, 0, none⟩), .pointer (some ⟨c3, 0, none⟩)], .pointer (some ⟨ah, 0, none⟩), u 12, .pointer (some ⟨sb, 0, none⟩), .pointer (some ⟨nb, 0, none⟩), .slice A6 p6.length c6, .int .i64 k, .bool true, .bool false, .tuple #[.agg #[.slice A1 rs.length c1, .slice A2 rs.length c2], .bool true], .slice A l.length c, .tuple #[.agg #[.slice A1 rs.length c1, .slice A2 rs.length c2], .bool true], .agg #[.slice A1 rs.length c1, .slice A2 rs.length c2], .bool true, .bool true, .bool false, .pointer (some ⟨bk, 0, none⟩), .slice A1 rs.length c1, .int .i64 rs.length, .int .i64 i, .bool true, .int .i64 i, .pointer (some ⟨bk, 0, none⟩), .slice A1 rs.length c1, .int .i64 i, .pointer (some ⟨gb, go' + i, none⟩), .pointer (some ⟨b, 0, none⟩), .int .i64 fr, .bool back, .func (.func 76) #[] #[.pointer (some ⟨a3, 0, none⟩), .pointer (some ⟨b3, 0, none⟩), .pointer (some ⟨c3, 0, none⟩)], .func (.func 76) #[] #[.pointer (some ⟨a3, 0, none⟩), .pointer (some ⟨b3, 0, none⟩), .pointer (some ⟨c3, 0, none⟩)], .bool false, .func (.func 76) #[] #[.pointer (some ⟨a3, 0, none⟩), .pointer (some ⟨b3, 0, none⟩), .pointer (some ⟨c3, 0, none⟩)], undef, u 44, u 45, u 46, u 47, u 48, u 49, u 50, u 51, u 52, u 53, u 54, u 55, u 56, u 57, .int .i64 st, .slice A8 (pcsOf ot t fr back).length c8, .int .i64 (pcsOf ot t fr back).length, .bool true, .bool true, .int .i64 st, .bool true, .bool true, u 66, u 67, .func (.func 76) #[] #[.pointer (some ⟨a3, 0, none⟩), .pointer (some ⟨b3, 0, none⟩), .pointer (some ⟨c3, 0, none⟩)], .slice A6 p6.length c6, .int .i64 pre.length, .int .i64 st, .bool false, .bool false, .slice A6 p6.length c6, .string (bs p6), .slice A8 (pcsOf ot t fr back).length c8, .int .i64 pre.length, .pointer (some ⟨g8, o8 + pre.length, none⟩), .string (bs p6), .bool false, .bool false, .slice A6 p6.length c6, .int .i64 p6.length, .int .i64 (((k + 1 : Nat) : Int)), .bool true, .int .i64 k, .slice A6 p6.length c6, .int .i64 k, .pointer (some ⟨gq, oq + k, none⟩), .int .i64 (((k + 1 : Nat) : Int)), u 91, u 92, u 93, u 94, u 95, u 96, u 97, u 98, u 99, u 100, u 101, u 102, u 103, u 104, u 105, u 106, u 107, u 108, u 109, u 110, u 111, u 112]).getD gj undef, k + 1, q.set k 42, rfl, rfl, (by omega), (by rw [List.length_set]; exact hql), by assumption, by assumption, by assumption, by assumption, by assumption, hro, by assumption, by assumption, by assumption, by assumption, by assumption, by assumption, by assumption, by assumption, by assumption, by assumption, by assumption, by assumption⟩
       ·refine sx 85 (.bool false) (by exact ebf (c := (k : Int) < p6.length) (by omega)) ?_
        simp only [pp]
        refine rj_end hgo <| hKK58 _ _ <| wpIn_seq_k fun KK63 hKK63 => wpIn_cond_false (by kernel_rfl) ?_
        refine wpIn_exit ?_
        refine hKK55 _ _ <| wpIn_seq_k fun KK64 hKK64 => rj_begin fun hgK hgo => ?_
        refine sx 91 (.int .i64 pre.length) (by exact ld 3 nb 0 (hnb.cell 0)) ?_
        simp only [pp]
        refine sx 92 (.int .i64 ((((pre ++ [(A6, c6, p6)]).length : Nat) : Int))) (by exact ex_arith (e := (pre.length : Int) + 1) (r := (((pre ++ [(A6, c6, p6)]).length : Nat) : Int)) (by kernel_rfl) (by omega) (by omega)) ?_
        simp only [pp]
        refine rj_store1 nb (.int .i64 ((((pre ++ [(A6, c6, p6)]).length : Nat) : Int))) rfl rfl (by kernel_rfl) rfl rfl (by kernel_rfl) hnb (by kernel_rfl) fun w65 hU65 hn65 => ?_
        have hz65 := hU65.size
        clear hqB
        replace hT := hT.upd hU65 (by omega)
        replace hB := hB.upd hU65 (by omega)
        replace hP := hP.upd hU65 (by omega)
        replace hrv := hrv.upd hU65 (by omega)
        replace hbk := hbk.upd hU65 (by omega)
        replace hro := hro.upd hU65 (by omega)
        replace hib := hib.upd hU65 (by omega)
        replace hi0 := hi0.upd hU65 (by omega)
        replace hi1 := hi1.upd hU65 (by omega)
        replace hi2 := hi2.upd hU65 (by omega)
        replace hSt := hSt.upd hU65 (⟨_, _, hnb⟩)
        replace hah := hah.upd hU65 (by omega)
        replace hsb := hsb.upd hU65 (by omega)
        replace hTwo50 := hTwo50.upd hU65 (by omega)
        replace hBel50 := hBel50.upd hU65 (by omega)
        replace hMs := hMs.upd hU65 (⟨_, _, hnb⟩)
        clear hnb
        have hnb := hn65
        clear hn65
        try simp only [pp]
        refine rj_end hgo <| hKK64 _ _ <| wpIn_seq_k fun KK66 hKK66 => rj_begin fun hgK hgo => ?_
        refine sx 93 (.int .i64 ((((pre ++ [(A6, c6, p6)]).length : Nat) : Int))) (by exact ld 3 nb 0 (hnb.cell 0)) ?_
        simp only [pp]
        refine sx 94 (.int .i64 st) (by exact ld 3 sb 0 (hsb.cell 0)) ?_
        simp only [pp]
        by_cases h6 : (((pre ++ [(A6, c6, p6)]).length : Nat) : Int) = st
        ·refine sx 95 (.bool true) (by exact ex_beq (x := (((pre ++ [(A6, c6, p6)]).length : Nat) : Int)) (y := st) (by kernel_rfl) ⟨fun _ => by omega, fun _ => rfl⟩) ?_
         simp only [pp]
         refine rj_end hgo <| hKK66 _ _ <| wpIn_cond_true (by kernel_rfl) ?_
         refine wpIn_exit ?_
         try simp only [Exit.then, Exit.inBlock]
         exact ⟨hTwo50, rfl, by assumption, by assumption, by assumption, by assumption, by assumption, hro, by assumption, by assumption, by assumption, by assumption, by assumption, by assumption, by assumption, (by rw [← h6]; exact hnb), by assumption⟩
        ·refine sx 95 (.bool false) (by exact ex_beq (x := (((pre ++ [(A6, c6, p6)]).length : Nat) : Int)) (y := st) (by kernel_rfl) ⟨fun q => (by cases q), fun q => absurd q (by omega)⟩) ?_
         simp only [pp]
         refine rj_end hgo <| hKK66 _ _ <| wpIn_cond_false (by kernel_rfl) ?_
         refine wpIn_skip ?_
         try simp only [Exit.then, Exit.inBlock]
         exact ⟨hTwo50, hBel50, by assumption, by assumption, by assumption, by assumption, by assumption, hro, by assumption, by assumption, by assumption, by assumption, by assumption, by assumption, by assumption, hnb, (by omega), by assumption⟩
      case hd50 =>
       rintro pre w50d hz50d hS50 hi50 hM50
       obtain ⟨hT, hB, hP, hrv, hbk, hro, hib, hi0, hi1, hi2, hSt, hah, hsb, hnb, hnl, hMs⟩ := hi50
       replace hM50 : Mark w47.heap.size w50d := hM50
       have hlt_hrv_50 := hrv.lt
       have hlt_hbk_50 := hbk.lt
       have hlt_hib_50 := hib.lt
       have hlt_hi0_50 := hi0.lt
       have hlt_hi1_50 := hi1.lt
       have hlt_hi2_50 := hi2.lt
       have hlt_hah_50 := hah.lt
       have hlt_hsb_50 := hsb.lt
       have hlt_hnb_50 := hnb.lt
       replace hMs := hMs.cons hM50 (by omega) hnm50
       (have hln : pre.length = (pcsOf ot t fr back).length := by (rw [← hS50, List.length_map])); omega
      case hs50 =>
       rintro _ pre w50s hz50s hok50 ⟨rfl, hT, hB, hP, hrv, hbk, hro, hib, hi0, hi1, hi2, hSt, hah, hsb, hnb, hMs⟩ hM50
       replace hM50 : Mark w47.heap.size w50s := hM50
       have hlt_hrv_50 := hrv.lt
       have hlt_hbk_50 := hbk.lt
       have hlt_hib_50 := hib.lt
       have hlt_hi0_50 := hi0.lt
       have hlt_hi1_50 := hi1.lt
       have hlt_hi2_50 := hi2.lt
       have hlt_hah_50 := hah.lt
       have hlt_hsb_50 := hsb.lt
       have hlt_hnb_50 := hnb.lt
       replace hMs := hMs.cons hM50 (by omega) hnm50
       refine wp_exit <| hKK48 _ _ <| wp_seq_k fun KK67 hKK67 => rl_begin fun hgK hgo => ?_
       refine tx 96 (.int .i64 st) (by exact ld 3 nb 0 (hnb.cell 0)) ?_
       simp only [pp]
       refine tx 97 (.int .i64 st) (by exact ld 3 sb 0 (hsb.cell 0)) ?_
       simp only [pp]
       refine tx 98 (.bool false) (by exact nef (x := st) (y := st) (by omega)) ?_
       simp only [pp]
       refine rl_end hgo <| hKK67 _ _ <| wp_cond_false (by kernel_rfl) <| wp_skip <| hKK44 _ _ <| wp_seq_k fun KK68 hKK68 => wp_seq_k fun KK69 hKK69 => rl_begin fun hgK hgo => ?_
       refine tx 99 (.int .i64 st) (by exact ld 3 sb 0 (hsb.cell 0)) ?_
       simp only [pp]
       refine rl_end hgo <| hKK69 _ _ <| rl_begin fun hgK hgo => ?_
       refine rl_alloc (some 13) 3 #[.int .i64 0] rfl (by kernel_rfl) (fun W => by kernel_rfl) fun s2 w70 hL70 hp70 hs2 => ?_
       have hz70 := hL70.size
       have hlt70 := hs2.lt
       try simp only [pp]
       refine rl_store1 s2 (.int .i64 st) rfl rfl (by kernel_rfl) rfl rfl (by kernel_rfl) hs2 (by kernel_rfl) fun w71 hU71 hn71 => ?_
       have hz71 := hU71.size
       replace hT := hT.later hL70
       replace hT := hT.upd hU71 (by omega)
       replace hB := hB.later hL70
       replace hB := hB.upd hU71 (by omega)
       replace hP := hP.later hL70
       replace hP := hP.upd hU71 (by omega)
       replace hrv := hrv.later hL70
       replace hrv := hrv.upd hU71 (by omega)
       replace hbk := hbk.later hL70
       replace hbk := hbk.upd hU71 (by omega)
       replace hro := hro.later hL70
       replace hro := hro.upd hU71 (by omega)
       replace hib := hib.later hL70
       replace hib := hib.upd hU71 (by omega)
       replace hi0 := hi0.later hL70
       replace hi0 := hi0.upd hU71 (by omega)
       replace hi1 := hi1.later hL70
       replace hi1 := hi1.upd hU71 (by omega)
       replace hi2 := hi2.later hL70
       replace hi2 := hi2.upd hU71 (by omega)
       replace hSt := hSt.later hL70
       replace hSt := hSt.upd hU71 (⟨_, _, hs2⟩)
       replace hah := hah.later hL70
       replace hah := hah.upd hU71 (by omega)
       replace hsb := hsb.later hL70
       replace hsb := hsb.upd hU71 (by omega)
       replace hnb := hnb.later hL70
       replace hnb := hnb.upd hU71 (by omega)
       replace hMs := hMs.later hL70
       replace hMs := hMs.upd hU71 (⟨_, _, hs2⟩)
       clear hs2
       have hs2 := hn71
       clear hn71
       try simp only [pp]
       refine rl_end hgo <| hKK68 _ _ <| rl_begin fun hgK hgo => ?_
       refine tx 66 (.int .i64 st) (by exact ld 3 s2 0 (hs2.cell 0)) ?_
       simp only [pp]
       refine tx 67 (.int .i64 (((st + 1 : Nat) : Int))) (by exact ex_arith (e := (st : Int) + 1) (r := ((st + 1 : Nat) : Int)) (by kernel_rfl) (by omega) (by omega)) ?_
       simp only [pp]
       refine rl_store1 s2 (.int .i64 (((st + 1 : Nat) : Int))) rfl rfl (by kernel_rfl) rfl rfl (by kernel_rfl) hs2 (by kernel_rfl) fun w72 hU72 hn72 => ?_
       have hz72 := hU72.size
       replace hT := hT.upd hU72 (by omega)
       replace hB := hB.upd hU72 (by omega)
       replace hP := hP.upd hU72 (by omega)
       replace hrv := hrv.upd hU72 (by omega)
       replace hbk := hbk.upd hU72 (by omega)
       replace hro := hro.upd hU72 (by omega)
       replace hib := hib.upd hU72 (by omega)
       replace hi0 := hi0.upd hU72 (by omega)
       replace hi1 := hi1.upd hU72 (by omega)
       replace hi2 := hi2.upd hU72 (by omega)
       replace hSt := hSt.upd hU72 (⟨_, _, hs2⟩)
       replace hah := hah.upd hU72 (by omega)
       replace hsb := hsb.upd hU72 (by omega)
       replace hnb := hnb.upd hU72 (by omega)
       replace hMs := hMs.upd hU72 (⟨_, _, hs2⟩)
       clear hs2
       have hs2 := hn72
       clear hn72
       try simp only [pp]
       refine rl_end hgo ?_
       exact ⟨_, (by omega), fun gj => (#[.slice A l.length c, .int .i64 fr, .bool back, undef, undef, undef, .pointer (some ⟨rv, 0, none⟩), .pointer (some ⟨bk, 0, none⟩), .bool true, .pointer (some ⟨ib, 0, none⟩), .func (.func 76) #[] #[.pointer (some ⟨a3, 0, none⟩), .pointer (some ⟨b3, 0, none⟩), .pointer (some ⟨c3, 0, none⟩)], .pointer (some ⟨ah, 0, none⟩), u 12, .pointer (some ⟨s2, 0, none⟩), .pointer (some ⟨nb, 0, none⟩), u 15, u 16, .bool true, .bool false, .tuple #[.agg #[.slice A1 rs.length c1, .slice A2 rs.length c2], .bool true], .slice A l.length c, .tuple #[.agg #[.slice A1 rs.length c1, .slice A2 rs.length c2], .bool true], .agg #[.slice A1 rs.length c1, .slice A2 rs.length c2], .bool true, .bool true, .bool false, .pointer (some ⟨bk, 0, none⟩), .slice A1 rs.length c1, .int .i64 rs.length, .int .i64 i, .bool true, .int .i64 i, .pointer (some ⟨bk, 0, none⟩), .slice A1 rs.length c1, .int .i64 i, .pointer (some ⟨gb, go' + i, none⟩), .pointer (some ⟨b, 0, none⟩), .int .i64 fr, .bool back, .func (.func 76) #[] #[.pointer (some ⟨a3, 0, none⟩), .pointer (some ⟨b3, 0, none⟩), .pointer (some ⟨c3, 0, none⟩)], .func (.func 76) #[] #[.pointer (some ⟨a3, 0, none⟩), .pointer (some ⟨b3, 0, none⟩), .pointer (some ⟨c3, 0, none⟩)], .bool false, .func (.func 76) #[] #[.pointer (some ⟨a3, 0, none⟩), .pointer (some ⟨b3, 0, none⟩), .pointer (some ⟨c3, 0, none⟩)], undef, u 44, u 45, u 46, u 47, u 48, u 49, u 50, u 51, u 52, u 53, u 54, u 55, u 56, u 57, .int .i64 st, .slice A8 (pcsOf ot t fr back).length c8, .int .i64 (pcsOf ot t fr back).length, .bool true, .bool true, .int .i64 st, .bool true, .bool true, .int .i64 st, .int .i64 (((st + 1 : Nat) : Int)), .func (.func 76) #[] #[.pointer (some ⟨a3, 0, none⟩), .pointer (some ⟨b3, 0, none⟩), .pointer (some ⟨c3, 0, none⟩)], undef, u 70, u 71, u 72, u 73, u 74, u 75, u 76, u 77, u 78, u 79, u 80, u 81, u 82, u 83, u 84, u 85, u 86, u 87, u 88, u 89, u 90, u 91, u 92, u 93, u 94, u 95, .int .i64 st, .int .i64 st, .bool false, .int .i64 st, u 100, u 101, u 102, u 103, u 104, u 105, u 106, u 107, u 108, u 109, u 110, u 111, u 112]).getD gj undef, s2, st + 1, (w47.heap.size :: ds), rfl, rfl, (by omega), (by omega), by assumption, by assumption, by assumption, by assumption, by assumption, hro, by assumption, by assumption, by assumption, by assumption, by assumption, by assumption, by assumption, hMs.top⟩
     ·refine tx 64 (.bool false) (by exact ebf (c := (st : Int) ≤ 3) (by omega)) <| tk 65 (.bool false) ?_
      simp only [pp]
      refine rl_end hgo <| hKK43 _ _ <| wp_cond_false (by kernel_rfl) <| wp_exit <| hKK37 _ _ <| wp_seq_k fun KK73 hKK73 => ?_
      refine rm_begin (fun W => Ltr w41 W) (by kernel_rfl) (by exact bl_drew (bl_refl _)) fun K74 hgo w74 hE hS74 => ?_
      have hv74 : Ltr w41 w74 := by rw [hE]; exact bl_drew (bl_refl _)
      have hz74 := hv74.size
      clear hE hS74
      refine mk 0 100 (.pointer (some ⟨bk, 0, none⟩)) ?_
      try simp only [pp]
      refine mx 1 101 (.slice A1 rs.length c1) rfl (fun W hW => by (exact ld 24 bk 0 ((hbk.later hW).cell 0))) ?_
      try simp only [pp]
      refine mx 2 102 (.int .i64 i) rfl (fun W hW => by (exact ld 3 ib 0 ((hib.later hW).cell 0))) ?_
      try simp only [pp]
      refine mx 3 103 (.pointer (some ⟨gb, go' + i, none⟩)) rfl (fun W hW => by (exact ex_indexA i rfl rfl he1 rfl (by kernel_rfl) (fun _ => by kernel_rfl) (by omega) _)) ?_
      try simp only [pp]
      refine mx 4 104 (.pointer (some ⟨b, 0, none⟩)) rfl (fun W hW => by (exact ld1 31 _ rfl gb (go' + i) rfl (fun _ => by kernel_rfl) _ ((hP.later hW).pc he1 (ptrs_at hbt)))) ?_
      try simp only [pp]
      refine rm_call 5 (some 105) (.string (bs t)) 33 #[.pointer (some ⟨b, 0, none⟩)] rfl rfl (by kernel_rfl) (by kernel_rfl) (by kernel_rfl) (by kernel_rfl) (fun W hW => by kernel_rfl) (fun W hW => text_any b t W ((hP.at hbt).later hW) (by omega)) (fun _ _ h k => Ltr.trans h k) ?_
      try simp only [pp]
      refine mk 6 106 (.pointer (some ⟨bk, 1, none⟩)) ?_
      try simp only [pp]
      refine mx 7 107 (.slice A2 rs.length c2) rfl (fun W hW => by (exact ld 25 bk 1 ((hbk.later hW).cell 1))) ?_
      try simp only [pp]
      refine mx 8 108 (.int .i64 i) rfl (fun W hW => by (exact ld 3 ib 0 ((hib.later hW).cell 0))) ?_
      try simp only [pp]
      refine mx 9 109 (.pointer (some ⟨gs, gt + i, none⟩)) rfl (fun W hW => by (exact ex_indexA i rfl rfl he2 rfl (by kernel_rfl) (fun _ => by kernel_rfl) (by omega) _)) ?_
      try simp only [pp]
      refine mx 10 110 (.string (bs t)) rfl (fun W hW => by (exact ld1 9 _ rfl gs (gt + i) rfl (fun _ => by kernel_rfl) _ ((hP.later hW).sc he2 (strs_at hbt)))) ?_
      try simp only [pp]
      refine mx 11 111 (.bool false) rfl (fun W hW => by (exact ex_ne_lit (a := t) (b := t) (by kernel_rfl) rfl)) ?_
      try simp only [pp]
      refine rm_done (by kernel_rfl) (fun w75 hL75 hS75 => hgo.out _ _ ?_) _
      clear hgo K74
      have hz75 := (show Ltr w41 _ from hS75).size
      have hy75 := hL75.size
      refine hKK73 _ _ <| wp_cond_false (by kernel_rfl) <| wp_skip <| hKK17 _ _ <| rl_begin fun hgK hgo => ?_
      refine tx 112 (.int .i64 (((i + 1 : Nat) : Int))) (by exact ex_arith (e := (i : Int) + 1) (r := ((i + 1 : Nat) : Int)) (by kernel_rfl) (by omega) (by omega)) <| tk 29 (.int .i64 (((i + 1 : Nat) : Int))) ?_
      simp only [pp]
      refine rl_end hgo ?_
      replace hT := hT.later (show Ltr w41 _ from hS75)
      replace hB := hB.later (show Ltr w41 _ from hS75)
      replace hP := hP.later (show Ltr w41 _ from hS75)
      replace hrv := hrv.later (show Ltr w41 _ from hS75)
      replace hbk := hbk.later (show Ltr w41 _ from hS75)
      replace hro := hro.later (show Ltr w41 _ from hS75)
      replace hib := hib.later (show Ltr w41 _ from hS75)
      replace hi0 := hi0.later (show Ltr w41 _ from hS75)
      replace hi1 := hi1.later (show Ltr w41 _ from hS75)
      replace hi2 := hi2.later (show Ltr w41 _ from hS75)
      replace hSt := hSt.later (show Ltr w41 _ from hS75)
      replace hah := hah.later (show Ltr w41 _ from hS75)
      replace hsb := hsb.later (show Ltr w41 _ from hS75)
      replace hMs := hMs.later (show Ltr w41 _ from hS75)
      exact ⟨_, (by omega), fun gj => (#[.slice A l.length c, .int .i64 fr, .bool back, undef, undef, undef, .pointer (some ⟨rv, 0, none⟩), .pointer (some ⟨bk, 0, none⟩), .bool true, .pointer (some ⟨ib, 0, none⟩), .func (.func 76) #[] #[.pointer (some ⟨a3, 0, none⟩), .pointer (some ⟨b3, 0, none⟩), .pointer (some ⟨c3, 0, none⟩)], .pointer (some ⟨ah, 0, none⟩), u 12, .pointer (some ⟨sb, 0, none⟩), u 14, u 15, u 16, .bool true, .bool false, .tuple #[.agg #[.slice A1 rs.length c1, .slice A2 rs.length c2], .bool true], .slice A l.length c, .tuple #[.agg #[.slice A1 rs.length c1, .slice A2 rs.length c2], .bool true], .agg #[.slice A1 rs.length c1, .slice A2 rs.length c2], .bool true, .bool true, .bool false, .pointer (some ⟨bk, 0, none⟩), .slice A1 rs.length c1, .int .i64 rs.length, .int .i64 (((i + 1 : Nat) : Int)), .bool true, .int .i64 i, .pointer (some ⟨bk, 0, none⟩), .slice A1 rs.length c1, .int .i64 i, .pointer (some ⟨gb, go' + i, none⟩), .pointer (some ⟨b, 0, none⟩), .int .i64 fr, .bool back, .func (.func 76) #[] #[.pointer (some ⟨a3, 0, none⟩), .pointer (some ⟨b3, 0, none⟩), .pointer (some ⟨c3, 0, none⟩)], .func (.func 76) #[] #[.pointer (some ⟨a3, 0, none⟩), .pointer (some ⟨b3, 0, none⟩), .pointer (some ⟨c3, 0, none⟩)], .bool false, .func (.func 76) #[] #[.pointer (some ⟨a3, 0, none⟩), .pointer (some ⟨b3, 0, none⟩), .pointer (some ⟨c3, 0, none⟩)], undef, u 44, u 45, u 46, u 47, u 48, u 49, u 50, u 51, u 52, u 53, u 54, u 55, u 56, u 57, .int .i64 st, .slice A8 (pcsOf ot t fr back).length c8, .int .i64 (pcsOf ot t fr back).length, .bool true, .bool true, .int .i64 st, .bool false, .bool false, u 66, u 67, u 68, undef, u 70, u 71, u 72, u 73, u 74, u 75, u 76, u 77, u 78, u 79, u 80, u 81, u 82, u 83, u 84, u 85, u 86, u 87, u 88, u 89, u 90, u 91, u 92, u 93, u 94, u 95, u 96, u 97, u 98, u 99, .pointer (some ⟨bk, 0, none⟩), .slice A1 rs.length c1, .int .i64 i, .pointer (some ⟨gb, go' + i, none⟩), .pointer (some ⟨b, 0, none⟩), .string (bs t), .pointer (some ⟨bk, 1, none⟩), .slice A2 rs.length c2, .int .i64 i, .pointer (some ⟨gs, gt + i, none⟩), .string (bs t), .bool false, .int .i64 (((i + 1 : Nat) : Int))]).getD gj undef, i + 1, ds, rfl, rfl, by omega, by assumption, by assumption, by assumption, by assumption, by assumption, hMs.top⟩
    ·refine tx 61 (.bool false) (by exact ebf (c := (st : Int) ≤ ((pcsOf ot t fr back).length)) (by omega)) <| tk 62 (.bool false) ?_
     simp only [pp]
     refine rl_pass (some 63) rfl (by kernel_rfl) ?_
     try simp only [pp]
     refine rl_pass (some 64) rfl (by kernel_rfl) ?_
     try simp only [pp]
     refine tk 65 (.bool false) ?_
     simp only [pp]
     refine rl_end hgo <| hKK43 _ _ <| wp_cond_false (by kernel_rfl) <| wp_exit <| hKK37 _ _ <| wp_seq_k fun KK76 hKK76 => ?_
     refine rm_begin (fun W => Ltr w41 W) (by kernel_rfl) (by exact bl_drew (bl_refl _)) fun K77 hgo w77 hE hS77 => ?_
     have hv77 : Ltr w41 w77 := by rw [hE]; exact bl_drew (bl_refl _)
     have hz77 := hv77.size
     clear hE hS77
     refine mk 0 100 (.pointer (some ⟨bk, 0, none⟩)) ?_
     try simp only [pp]
     refine mx 1 101 (.slice A1 rs.length c1) rfl (fun W hW => by (exact ld 24 bk 0 ((hbk.later hW).cell 0))) ?_
     try simp only [pp]
     refine mx 2 102 (.int .i64 i) rfl (fun W hW => by (exact ld 3 ib 0 ((hib.later hW).cell 0))) ?_
     try simp only [pp]
     refine mx 3 103 (.pointer (some ⟨gb, go' + i, none⟩)) rfl (fun W hW => by (exact ex_indexA i rfl rfl he1 rfl (by kernel_rfl) (fun _ => by kernel_rfl) (by omega) _)) ?_
     try simp only [pp]
     refine mx 4 104 (.pointer (some ⟨b, 0, none⟩)) rfl (fun W hW => by (exact ld1 31 _ rfl gb (go' + i) rfl (fun _ => by kernel_rfl) _ ((hP.later hW).pc he1 (ptrs_at hbt)))) ?_
     try simp only [pp]
     refine rm_call 5 (some 105) (.string (bs t)) 33 #[.pointer (some ⟨b, 0, none⟩)] rfl rfl (by kernel_rfl) (by kernel_rfl) (by kernel_rfl) (by kernel_rfl) (fun W hW => by kernel_rfl) (fun W hW => text_any b t W ((hP.at hbt).later hW) (by omega)) (fun _ _ h k => Ltr.trans h k) ?_
     try simp only [pp]
     refine mk 6 106 (.pointer (some ⟨bk, 1, none⟩)) ?_
     try simp only [pp]
     refine mx 7 107 (.slice A2 rs.length c2) rfl (fun W hW => by (exact ld 25 bk 1 ((hbk.later hW).cell 1))) ?_
     try simp only [pp]
     refine mx 8 108 (.int .i64 i) rfl (fun W hW => by (exact ld 3 ib 0 ((hib.later hW).cell 0))) ?_
     try simp only [pp]
     refine mx 9 109 (.pointer (some ⟨gs, gt + i, none⟩)) rfl (fun W hW => by (exact ex_indexA i rfl rfl he2 rfl (by kernel_rfl) (fun _ => by kernel_rfl) (by omega) _)) ?_
     try simp only [pp]
     refine mx 10 110 (.string (bs t)) rfl (fun W hW => by (exact ld1 9 _ rfl gs (gt + i) rfl (fun _ => by kernel_rfl) _ ((hP.later hW).sc he2 (strs_at hbt)))) ?_
     try simp only [pp]
     refine mx 11 111 (.bool false) rfl (fun W hW => by (exact ex_ne_lit (a := t) (b := t) (by kernel_rfl) rfl)) ?_
     try simp only [pp]
     refine rm_done (by kernel_rfl) (fun w78 hL78 hS78 => hgo.out _ _ ?_) _
     clear hgo K77
     have hz78 := (show Ltr w41 _ from hS78).size
     have hy78 := hL78.size
     refine hKK76 _ _ <| wp_cond_false (by kernel_rfl) <| wp_skip <| hKK17 _ _ <| rl_begin fun hgK hgo => ?_
     refine tx 112 (.int .i64 (((i + 1 : Nat) : Int))) (by exact ex_arith (e := (i : Int) + 1) (r := ((i + 1 : Nat) : Int)) (by kernel_rfl) (by omega) (by omega)) <| tk 29 (.int .i64 (((i + 1 : Nat) : Int))) ?_
     simp only [pp]
     refine rl_end hgo ?_
     replace hT := hT.later (show Ltr w41 _ from hS78)
     replace hB := hB.later (show Ltr w41 _ from hS78)
     replace hP := hP.later (show Ltr w41 _ from hS78)
     replace hrv := hrv.later (show Ltr w41 _ from hS78)
     replace hbk := hbk.later (show Ltr w41 _ from hS78)
     replace hro := hro.later (show Ltr w41 _ from hS78)
     replace hib := hib.later (show Ltr w41 _ from hS78)
     replace hi0 := hi0.later (show Ltr w41 _ from hS78)
     replace hi1 := hi1.later (show Ltr w41 _ from hS78)
     replace hi2 := hi2.later (show Ltr w41 _ from hS78)
     replace hSt := hSt.later (show Ltr w41 _ from hS78)
     replace hah := hah.later (show Ltr w41 _ from hS78)
     replace hsb := hsb.later (show Ltr w41 _ from hS78)
     replace hMs := hMs.later (show Ltr w41 _ from hS78)
     exact ⟨_, (by omega), fun gj => (#[.slice A l.length c, .int .i64 fr, .bool back, undef, undef, undef, .pointer (some ⟨rv, 0, none⟩), .pointer (some ⟨bk, 0, none⟩), .bool true, .pointer (some ⟨ib, 0, none⟩), .func (.func 76) #[] #[.pointer (some ⟨a3, 0, none⟩), .pointer (some ⟨b3, 0, none⟩), .pointer (some ⟨c3, 0, none⟩)], .pointer (some ⟨ah, 0, none⟩), u 12, .pointer (some ⟨sb, 0, none⟩), u 14, u 15, u 16, .bool true, .bool false, .tuple #[.agg #[.slice A1 rs.length c1, .slice A2 rs.length c2], .bool true], .slice A l.length c, .tuple #[.agg #[.slice A1 rs.length c1, .slice A2 rs.length c2], .bool true], .agg #[.slice A1 rs.length c1, .slice A2 rs.length c2], .bool true, .bool true, .bool false, .pointer (some ⟨bk, 0, none⟩), .slice A1 rs.length c1, .int .i64 rs.length, .int .i64 (((i + 1 : Nat) : Int)), .bool true, .int .i64 i, .pointer (some ⟨bk, 0, none⟩), .slice A1 rs.length c1, .int .i64 i, .pointer (some ⟨gb, go' + i, none⟩), .pointer (some ⟨b, 0, none⟩), .int .i64 fr, .bool back, .func (.func 76) #[] #[.pointer (some ⟨a3, 0, none⟩), .pointer (some ⟨b3, 0, none⟩), .pointer (some ⟨c3, 0, none⟩)], .func (.func 76) #[] #[.pointer (some ⟨a3, 0, none⟩), .pointer (some ⟨b3, 0, none⟩), .pointer (some ⟨c3, 0, none⟩)], .bool false, .func (.func 76) #[] #[.pointer (some ⟨a3, 0, none⟩), .pointer (some ⟨b3, 0, none⟩), .pointer (some ⟨c3, 0, none⟩)], undef, u 44, u 45, u 46, u 47, u 48, u 49, u 50, u 51, u 52, u 53, u 54, u 55, u 56, u 57, .int .i64 st, .slice A8 (pcsOf ot t fr back).length c8, .int .i64 (pcsOf ot t fr back).length, .bool false, .bool false, undef, undef, .bool false, u 66, u 67, u 68, undef, u 70, u 71, u 72, u 73, u 74, u 75, u 76, u 77, u 78, u 79, u 80, u 81, u 82, u 83, u 84, u 85, u 86, u 87, u 88, u 89, u 90, u 91, u 92, u 93, u 94, u 95, u 96, u 97, u 98, u 99, .pointer (some ⟨bk, 0, none⟩), .slice A1 rs.length c1, .int .i64 i, .pointer (some ⟨gb, go' + i, none⟩), .pointer (some ⟨b, 0, none⟩), .string (bs t), .pointer (some ⟨bk, 1, none⟩), .slice A2 rs.length c2, .int .i64 i, .pointer (some ⟨gs, gt + i, none⟩), .string (bs t), .bool false, .int .i64 (((i + 1 : Nat) : Int))]).getD gj undef, i + 1, ds, rfl, rfl, by omega, by assumption, by assumption, by assumption, by assumption, by assumption, hMs.top⟩
   case hs29 =>
    exact fun _ _ _ _ _ h _ => h.elim
  ·refine tx 30 (.bool false) (by exact ebf (c := (i : Int) < rs.length) (by omega)) ?_
   simp only [pp]
   refine rl_end hgo <| hKK15 _ _ <| wp_seq_k fun KK79 hKK79 => wp_cond_false (by kernel_rfl) <| wp_exit <| hKK12 _ _ <| wp_seq_k fun KK80 hKK80 => rl_begin fun hgK hgo => ?_
   refine rl_store1 rv (.bool true) rfl rfl (by kernel_rfl) rfl rfl (by kernel_rfl) hrv (by kernel_rfl) fun w81 hU81 hn81 => ?_
   have hz81 := hU81.size
   clear hP
   replace hT := hT.upd hU81 (by omega)
   replace hB := hB.upd hU81 (by omega)
   replace hbk := hbk.upd hU81 (by omega)
   replace hMs := hMs.upd hU81 (⟨_, _, hrv⟩)
   clear hrv
   have hrv := hn81
   clear hn81
   try simp only [pp]
   refine rl_end hgo <| hKK80 _ _ ?_
   refine wp_ret ?_
   try simp only [Exit.then, Exit.inBlock]
   refine bm_marks hMs ?_
   rintro w82 hK82
   replace hB := hB.kcn hK82 (by omega)
   replace hrv := hrv.kcn hK82 (by omega)
   refine bm_ret (v := .bool true) (res1 rfl (res_cell1 (b := rv) (v := .bool true) (by kernel_rfl) (fun _ => by kernel_rfl) hrv)) ?_
   exact ⟨rfl, hB⟩
end Go.Proofs.YtliphfgiaioebaaDoor
