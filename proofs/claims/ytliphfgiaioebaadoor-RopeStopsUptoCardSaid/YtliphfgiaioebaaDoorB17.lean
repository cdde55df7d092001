/-
  Law 9: RopePieces' function.
  A byte of a row is written that one knows as bytes alone: what stays.
  A region that draws its order within a round.
-/
import Derived.Test.YtliphfgiaioebaaDoorB16
namespace Go.Proofs.YtliphfgiaioebaaDoor
set_option linter.unusedVariables false
set_option linter.unusedSimpArgs false
open Go.RowKit
set_option maxRecDepth 100000
set_option maxHeartbeats 16000000
/-- the iterator's captured variables, by themselves -/
def PiecesB (b : Nat) (f : Int) (back : Bool) (w : World) (e : Ending) (w' : World) : Prop :=
  ∃ p q r, e = .returned (.func (.func 76) #[] #[.pointer (some ⟨p, 0, none⟩), .pointer (some ⟨q, 0, none⟩), .pointer (some ⟨r, 0, none⟩)]) ∧ Ltr w w' ∧
    Blk w' p 31 #[.pointer (some ⟨b, 0, none⟩)] ∧ Blk w' q 3 #[.int .i64 f] ∧ Blk w' r 4 #[.bool back] ∧ w.heap.size ≤ p ∧ w.heap.size ≤ q ∧ w.heap.size ≤ r
theorem Pieces_blk (b : Nat) (f : Int) (back : Bool) (w : World) : Calls Tryd.prog 32 #[.pointer (some ⟨b, 0, none⟩), .int .i64 f, .bool back] w (PiecesB b f back w) := by
  have hB := Ltr.refl w
  go_enter Tryd.func32, Tryd.ntmps32
  refine wp_seq_k fun KK1 hKK1 => rl_begin fun hgK hgo => ?_
  refine rl_alloc (some 3) 31 #[.pointer (some ⟨b, 0, none⟩)] rfl (by kernel_rfl) (fun W => by kernel_rfl) fun p w2 hL2 hp2 hp => ?_
  replace hB := hB.later hL2
  have hz2 := hL2.size
  have hlt2 := hp.lt
  try simp only [pp]
  refine rl_alloc (some 4) 3 #[.int .i64 f] rfl (by kernel_rfl) (fun W => by kernel_rfl) fun q w3 hL3 hp3 hq => ?_
  replace hB := hB.later hL3
  replace hp := hp.later hL3
  have hz3 := hL3.size
  have hlt3 := hq.lt
  try simp only [pp]
  refine rl_alloc (some 5) 4 #[.bool back] rfl (by kernel_rfl) (fun W => by kernel_rfl) fun r_ w4 hL4 hp4 hr_ => ?_
  replace hB := hB.later hL4
  replace hp := hp.later hL4
  replace hq := hq.later hL4
  have hz4 := hL4.size
  have hlt4 := hr_.lt
  try simp only [pp]
  refine tk 6 .nilFunc ?_
  simp only [pp]
  refine rl_end hgo <| hKK1 _ _ <| wp_seq_k fun KK5 hKK5 => rl_begin fun hgK hgo => tk 7 (.func (.func 76) #[] #[.pointer (some ⟨p, 0, none⟩), .pointer (some ⟨q, 0, none⟩), .pointer (some ⟨r_, 0, none⟩)]) <| tk 6 (.func (.func 76) #[] #[.pointer (some ⟨p, 0, none⟩), .pointer (some ⟨q, 0, none⟩), .pointer (some ⟨r_, 0, none⟩)]) ?_
  simp only [pp]
  refine rl_end hgo <| hKK5 _ _ ?_
  refine wp_ret ?_
  try simp only [Exit.then, Exit.inBlock]
  refine bp_ret (v := .func (.func 76) #[] #[.pointer (some ⟨p, 0, none⟩), .pointer (some ⟨q, 0, none⟩), .pointer (some ⟨r_, 0, none⟩)]) (res1 rfl (res_tmp (by kernel_rfl))) ?_
  exact ⟨p, q, r_, rfl, hB, hp, hq, hr_, by omega, by omega, by omega⟩
theorem flat_len_rev (ps : List (List UInt8)) : ps.reverse.flatten.length = ps.flatten.length := by
  rw [List.length_flatten, List.map_reverse, List.sum_reverse, ← List.length_flatten]
theorem pcs_facts {n : Nat} {w : World} {b : Nat} {l : List UInt8} {v : Value} {ot : Option Tr} (h : RopeN n w b l v ot) (fr : Int) (back : Bool) : (∀ p ∈ pcsOf ot l fr back, 0 < p.length) ∧ (pcsOf ot l fr back).flatten.length ≤ l.length := by
  by_cases hin : 0 ≤ fr ∧ fr ≤ (l.length : Int)
  · obtain ⟨k, rfl⟩ := Int.eq_ofNat_of_zero_le hin.1
    cases back
    · obtain ⟨h1, h2⟩ := pcs_flatF h k (by omega)
      exact ⟨h2, by rw [show pcsOf ot l (k : Int) false = pcsOf ot l k false from rfl] at *; rw [h1, List.length_drop]; omega⟩
    · obtain ⟨h1, h2⟩ := pcs_flatB h k (by omega)
      exact ⟨h2, by rw [← flat_len_rev]; rw [show pcsOf ot l (k : Int) true = pcsOf ot l k true from rfl] at *; rw [h1, List.length_take]; omega⟩
  · rw [pcs_out ot l fr back hin]; exact ⟨by simp, by simp⟩
theorem pc_ok {ps : List (List UInt8)} {pre : List Pc} {A : Option Addr} {c : Nat} {p : List UInt8} {m : Nat} (hf : (∀ p ∈ ps, 0 < p.length) ∧ ps.flatten.length ≤ m) (h : PcOk ps (pre ++ [(A, c, p)])) : 0 < p.length ∧ ((pre.map pcB).flatten).length + p.length ≤ m ∧ ((pre.map pcB).reverse.flatten).length + p.length ≤ m := by
  have hl := pcok_len h
  obtain ⟨r, hr⟩ := h
  have h1 : p ∈ ps := by rw [← hr]; simp [pcB]
  have h2 : ((pre ++ [(A, c, p)]).map pcB).flatten.length = ((pre.map pcB).flatten).length + p.length := by simp [pcB]
  refine ⟨hf.1 p h1, by have := hf.2; omega, ?_⟩
  rw [flat_len_rev]; have := hf.2; omega
theorem acc_back (pre : List Pc) (A : Option Addr) (c : Nat) (p : List UInt8) : ((pre ++ [(A, c, p)]).map pcB).reverse.flatten = p ++ (pre.map pcB).reverse.flatten := by simp [pcB]
theorem acc_fore (pre : List Pc) (A : Option Addr) (c : Nat) (p : List UInt8) : ((pre ++ [(A, c, p)]).map pcB).flatten = (pre.map pcB).flatten ++ p := by simp [pcB]
theorem RopePieces_walk {n : Nat} (A : Option Addr) (c : Nat) (l : List ActD) (fr : Int) (w : World) (hT : Tabs w) (hA : ActsAt n w A l) (hc : l.length ≤ c) (hm : l.length ≤ 1100000) :
    Calls Tryd.prog 7 #[.slice A l.length c, .int .i64 fr] w fun e w' => e = .returned (.bool true) ∧ Ltr w w' := by
  have hB := Ltr.refl w
  refine (callsIn_wide (n := 0)).1 ?_
  refine callsIn_of_wp_marks Tryd.func7 rfl trivial ?_ rfl
  simp only [Tryd.ntmps7, List.size_toArray, List.length_cons, List.length_nil, Nat.reduceAdd, Nat.reduceSub, Array.replicate_succ, Array.replicate_zero, List.push_toArray, List.append_toArray, List.nil_append, List.cons_append]
  refine (wpIn_wide (n := 0)).2 ?_
  have hMs : Marks w.heap.size w.heap.size [] w := Marks.nil _ _ _
  have h4 := hT.four
  refine wp_seq_k fun KK1 hKK1 => rl_begin fun hgK hgo => ?_
  refine rl_alloc (some 4) 4 #[.bool false] rfl (by kernel_rfl) (fun W => by kernel_rfl) fun rv w2 hL2 hp2 hrv => ?_
  replace hT := hT.later hL2
  replace hB := hB.later hL2
  replace hA := hA.later hL2
  replace hMs := hMs.later hL2
  have hz2 := hL2.size
  have hlt2 := hrv.lt
  try simp only [pp]
  refine rl_end hgo <| hKK1 _ _ <| wp_seq_k fun KK3 hKK3 => wp_seq_k fun KK4 hKK4 => rl_begin fun hgK hgo => ?_
  refine rl_call (some 15) 17 #[] rfl (by kernel_rfl) (by kernel_rfl) (wakes_any _ hT) ?_
  rintro e w5 ⟨rfl, hL5⟩
  refine ⟨_, rfl, ?_⟩
  replace hT := hT.later hL5
  replace hB := hB.later hL5
  replace hA := hA.later hL5
  replace hMs := hMs.later hL5
  replace hrv := hrv.later hL5
  have hz5 := hL5.size
  try simp only [pp]
  refine tk 16 (.bool false) ?_
  simp only [pp]
  refine rl_end hgo <| hKK4 _ _ <| wp_cond_false (by kernel_rfl) <| wp_skip <| hKK3 _ _ <| wp_seq_k fun KK6 hKK6 => rl_begin fun hgK hgo => tk 18 (.slice A l.length c) ?_
  simp only [pp]
  refine rl_call (some 19) 18 #[.slice A l.length c] rfl (by kernel_rfl) (by kernel_rfl) (play_r A c l _ hT hA hc hm) ?_
  rintro e w7 ⟨A1, A2, c1, c2, rs, N, rfl, hL7, hP, hN⟩
  refine ⟨_, rfl, ?_⟩
  replace hT := hT.later hL7
  replace hB := hB.later hL7
  replace hA := hA.later hL7
  replace hMs := hMs.later hL7
  replace hrv := hrv.later hL7
  have hz7 := hL7.size
  have hrl := hP.len
  clear hA
  try simp only [pp]
  refine tk 17 (.tuple #[.agg #[.slice A1 rs.length c1, .slice A2 rs.length c2], .bool true]) <| tk 20 (.agg #[.slice A1 rs.length c1, .slice A2 rs.length c2]) <| tk 21 (.bool true) ?_
  simp only [pp]
  refine rl_alloc (some 5) 27 #[.slice none 0 0, .slice none 0 0] rfl (by kernel_rfl) (fun W => by kernel_rfl) fun bk w8 hL8 hp8 hbk => ?_
  replace hT := hT.later hL8
  replace hB := hB.later hL8
  replace hMs := hMs.later hL8
  replace hrv := hrv.later hL8
  replace hP := hP.later hL8
  have hz8 := hL8.size
  have hlt8 := hbk.lt
  try simp only [pp]
  refine rl_store bk #[.slice A1 rs.length c1, .slice A2 rs.length c2] rfl rfl (by kernel_rfl) rfl rfl (by kernel_rfl) hbk rfl (by kernel_rfl) fun w9 hU9 hn9 => ?_
  have hz9 := hU9.size
  replace hT := hT.upd hU9 (by omega)
  replace hB := hB.upd hU9 (by omega)
  replace hMs := hMs.upd hU9 (⟨_, _, hbk⟩)
  replace hrv := hrv.upd hU9 (by omega)
  replace hP := hP.upd hU9 (by omega)
  clear hbk
  have hbk := hn9
  clear hn9
  try simp only [pp]
  refine tk 6 (.bool true) ?_
  simp only [pp]
  refine rl_end hgo <| hKK6 _ _ <| wp_seq_k fun KK10 hKK10 => wp_seq_k fun KK11 hKK11 => rl_begin fun hgK hgo => tk 22 (.bool true) <| tk 23 (.bool false) ?_
  simp only [pp]
  refine rl_end hgo <| hKK11 _ _ <| wp_cond_false (by kernel_rfl) <| wp_skip <| hKK10 _ _ <| wp_seq_k fun KK12 hKK12 => wp_seq_k fun KK13 hKK13 => rl_begin fun hgK hgo => tk 24 (.pointer (some ⟨bk, 0, none⟩)) ?_
  simp only [pp]
  refine tx 25 (.slice A1 rs.length c1) (by exact ld1 24 _ rfl bk 0 rfl (fun _ => by kernel_rfl) _ (hbk.cell 0)) <| tk 26 (.int .i64 rs.length) <| tk 27 (.int .i64 0) ?_
  simp only [pp]
  refine rl_end hgo <| hKK13 _ _ <| wp_block ?_
  refine wp_loop_ghost (fun gn ga wl => ∃ (u : Nat → Value) (i : Nat) (ds : List Nat), gn = rs.length - i ∧ ga = ⟨#[.slice A l.length c, .int .i64 fr, undef, undef, .pointer (some ⟨rv, 0, none⟩), .pointer (some ⟨bk, 0, none⟩), .bool true, u 7, u 8, u 9, u 10, u 11, u 12, u 13, u 14, .bool true, .bool false, .tuple #[.agg #[.slice A1 rs.length c1, .slice A2 rs.length c2], .bool true], .slice A l.length c, .tuple #[.agg #[.slice A1 rs.length c1, .slice A2 rs.length c2], .bool true], .agg #[.slice A1 rs.length c1, .slice A2 rs.length c2], .bool true, .bool true, .bool false, .pointer (some ⟨bk, 0, none⟩), .slice A1 rs.length c1, .int .i64 rs.length, .int .i64 i, u 28, u 29, u 30, u 31, u 32, u 33, u 34, u 35, u 36, u 37, u 38, u 39, u 40, u 41, u 42, u 43, u 44, u 45, u 46, u 47, u 48, u 49, u 50, u 51, u 52, u 53, u 54, u 55, undef, u 57, u 58, u 59, u 60, u 61, u 62, u 63, u 64, u 65, u 66, u 67, u 68, u 69, u 70, u 71, undef, u 73, u 74, u 75, u 76, u 77, u 78, u 79, u 80, u 81, u 82, u 83, u 84, u 85, u 86, u 87, u 88, u 89, u 90, u 91, u 92, u 93, u 94, u 95, u 96, u 97, u 98, u 99, u 100, u 101, u 102, u 103, u 104, u 105, u 106, u 107, u 108, u 109, u 110, u 111, u 112, u 113], ds.map mkd⟩ ∧ (i ≤ rs.length) ∧ (Tabs wl) ∧ (Ltr w wl) ∧ (Ropes N A1 A2 rs wl) ∧ (Blk wl rv 4 #[.bool false]) ∧ (Blk wl bk 27 #[.slice A1 rs.length c1, .slice A2 rs.length c2]) ∧ (Marks w.heap.size wl.heap.size ds wl)) ((fun (i : Nat) (ds : List Nat) => (rs.length - i : Nat)) 0 []) ?_ ?_
  ·exact ⟨fun gj => (#[.slice A l.length c, .int .i64 fr, undef, undef, .pointer (some ⟨rv, 0, none⟩), .pointer (some ⟨bk, 0, none⟩), .bool true, undef, undef, undef, undef, undef, undef, undef, undef, .bool true, .bool false, .tuple #[.agg #[.slice A1 rs.length c1, .slice A2 rs.length c2], .bool true], .slice A l.length c, .tuple #[.agg #[.slice A1 rs.length c1, .slice A2 rs.length c2], .bool true], .agg #[.slice A1 rs.length c1, .slice A2 rs.length c2], .bool true, .bool true, .bool false, .pointer (some ⟨bk, 0, none⟩), .slice A1 rs.length c1, .int .i64 rs.length, .int .i64 0, undef, undef, undef, undef, undef, undef, undef, undef, undef, undef, undef, undef, undef, undef, undef, undef, undef, undef, undef, undef, undef, undef, undef, undef, undef, undef, undef, undef, undef, undef, undef, undef, undef, undef, undef, undef, undef, undef, undef, undef, undef, undef, undef, undef, undef, undef, undef, undef, undef, undef, undef, undef, undef, undef, undef, undef, undef, undef, undef, undef, undef, undef, undef, undef, undef, undef, undef, undef, undef, undef, undef, undef, undef, undef, undef, undef, undef, undef, undef, undef, undef, undef, undef, undef, undef, undef]).getD gj undef, 0, [], rfl, rfl, Nat.zero_le _, by assumption, by assumption, by assumption, by assumption, by assumption, hMs.top⟩
  rintro n14 a14 w14 ⟨u, i, ds, rfl, rfl, hil', hT', hB', hP', hrv', hbk', hMs'⟩
  clear hbk hP hrv hMs hB hT
  have hil := hil'
  clear hil'
  have hT := hT'
  clear hT'
  have hB := hB'
  clear hB'
  have hP := hP'
  clear hP'
  have hrv := hrv'
  clear hrv'
  have hbk := hbk'
  clear hbk'
  have hMs := hMs'
  clear hMs'
  have hlt_hrv_14 := hrv.lt
  have hlt_hbk_14 := hbk.lt
  refine wp_seq_k fun KK15 hKK15 => rl_begin fun hgK hgo => ?_
  by_cases h1 : (i : Int) < rs.length
  ·refine tx 28 (.bool true) (by exact ex_bool (c := (i : Int) < rs.length) (by kernel_rfl) ⟨fun _ => by omega, fun _ => rfl⟩) ?_
   simp only [pp]
   refine rl_end hgo <| hKK15 _ _ <| wp_seq_k fun KK16 hKK16 => wp_cond_true (by kernel_rfl) <| wp_skip <| hKK16 _ _ <| wp_seq_k fun KK17 hKK17 => wp_block <| wp_seq_k fun KK18 hKK18 => rl_begin fun hgK hgo => ?_
   (obtain ⟨b, t, hbt⟩ := rope_i i (by omega : i < rs.length)); (have htl := hP.lt hbt); (obtain ⟨gb, go', he1, hgn, -⟩ := hP.p i (by omega)); (obtain ⟨gs, gt, he2, hgn2, -⟩ := hP.s i (by omega)); (have hNs := hP.size); (have hbs := hB.size)
   refine tk 29 (.int .i64 i) <| tk 7 (.int .i64 i) ?_
   simp only [pp]
   refine rl_end hgo <| hKK18 _ _ <| wp_seq_k fun KK19 hKK19 => rl_begin fun hgK hgo => tk 30 (.pointer (some ⟨bk, 1, none⟩)) ?_
   simp only [pp]
   refine tx 31 (.slice A2 rs.length c2) (by exact ld1 25 _ rfl bk 1 rfl (fun _ => by kernel_rfl) _ (hbk.cell 1)) <| tk 32 (.int .i64 i) ?_
   simp only [pp]
   refine tx 33 (.pointer (some ⟨gs, gt + i, none⟩)) (by exact ex_indexA i rfl rfl he2 rfl (by kernel_rfl) (fun _ => by kernel_rfl) (by omega) _) ?_
   simp only [pp]
   refine tx 34 (.string (bs t)) (by exact ld1 9 _ rfl gs (gt + i) rfl (fun _ => by kernel_rfl) _ (hP.sc he2 (strs_at hbt))) ?_
   simp only [pp]
   refine rl_alloc (some 8) 9 #[.string ⟨#[]⟩] rfl (by kernel_rfl) (fun W => by kernel_rfl) fun tb w20 hL20 hp20 htb => ?_
   replace hT := hT.later hL20
   replace hB := hB.later hL20
   replace hP := hP.later hL20
   replace hrv := hrv.later hL20
   replace hbk := hbk.later hL20
   replace hMs := hMs.later hL20
   have hz20 := hL20.size
   have hlt20 := htb.lt
   try simp only [pp]
   refine rl_store1 tb (.string (bs t)) rfl rfl (by kernel_rfl) rfl rfl (by kernel_rfl) htb (by kernel_rfl) fun w21 hU21 hn21 => ?_
   have hz21 := hU21.size
   replace hT := hT.upd hU21 (by omega)
   replace hB := hB.upd hU21 (by omega)
   replace hP := hP.upd hU21 (by omega)
   replace hrv := hrv.upd hU21 (by omega)
   replace hbk := hbk.upd hU21 (by omega)
   replace hMs := hMs.upd hU21 (⟨_, _, htb⟩)
   clear htb
   have htb := hn21
   clear hn21
   try simp only [pp]
   refine rl_end hgo <| hKK19 _ _ <| wp_seq_k fun KK22 hKK22 => rl_begin fun hgK hgo => ?_
   refine rl_alloc (some 9) 9 #[.string ⟨#[]⟩] rfl (by kernel_rfl) (fun W => by kernel_rfl) fun ah w23 hL23 hp23 hah => ?_
   replace hT := hT.later hL23
   replace hB := hB.later hL23
   replace hP := hP.later hL23
   replace hrv := hrv.later hL23
   replace hbk := hbk.later hL23
   replace hMs := hMs.later hL23
   replace htb := htb.later hL23
   have hz23 := hL23.size
   have hlt23 := hah.lt
   try simp only [pp]
   refine rl_alloc (some 10) 9 #[.string ⟨#[]⟩] rfl (by kernel_rfl) (fun W => by kernel_rfl) fun bh w24 hL24 hp24 hbh => ?_
   replace hT := hT.later hL24
   replace hB := hB.later hL24
   replace hP := hP.later hL24
   replace hrv := hrv.later hL24
   replace hbk := hbk.later hL24
   replace hMs := hMs.later hL24
   replace htb := htb.later hL24
   replace hah := hah.later hL24
   have hz24 := hL24.size
   have hlt24 := hbh.lt
   try simp only [pp]
   refine rl_store1 ah (.string { data := #[] }) rfl rfl (by kernel_rfl) rfl rfl (by kernel_rfl) hah (by kernel_rfl) fun w25 hU25 hn25 => ?_
   have hz25 := hU25.size
   replace hT := hT.upd hU25 (by omega)
   replace hB := hB.upd hU25 (by omega)
   replace hP := hP.upd hU25 (by omega)
   replace hrv := hrv.upd hU25 (by omega)
   replace hbk := hbk.upd hU25 (by omega)
   replace hMs := hMs.upd hU25 (⟨_, _, hah⟩)
   replace htb := htb.upd hU25 (by omega)
   replace hbh := hbh.upd hU25 (by omega)
   clear hah
   have hah := hn25
   clear hn25
   try simp only [pp]
   refine rl_store1 bh (.string { data := #[] }) rfl rfl (by kernel_rfl) rfl rfl (by kernel_rfl) hbh (by kernel_rfl) fun w26 hU26 hn26 => ?_
   have hz26 := hU26.size
   replace hT := hT.upd hU26 (by omega)
   replace hB := hB.upd hU26 (by omega)
   replace hP := hP.upd hU26 (by omega)
   replace hrv := hrv.upd hU26 (by omega)
   replace hbk := hbk.upd hU26 (by omega)
   replace hMs := hMs.upd hU26 (⟨_, _, hbh⟩)
   replace htb := htb.upd hU26 (by omega)
   replace hah := hah.upd hU26 (by omega)
   clear hbh
   have hbh := hn26
   clear hn26
   try simp only [pp]
   refine rl_end hgo <| hKK22 _ _ <| wp_seq_k fun KK27 hKK27 => ?_
   (obtain ⟨v, ot, hro⟩ := hP.rn hbt); (have hfB := pcs_facts hro fr true); (have hfF := pcs_facts hro fr false)
   refine wp_meet (fun ga wl => ∃ (u : Nat → Value) (a3 b3 c3 a4 b4 c4 : Nat), ga = ⟨#[.slice A l.length c, .int .i64 fr, undef, undef, .pointer (some ⟨rv, 0, none⟩), .pointer (some ⟨bk, 0, none⟩), .bool true, .int .i64 i, .pointer (some ⟨tb, 0, none⟩), .pointer (some ⟨ah, 0, none⟩), .pointer (some ⟨bh, 0, none⟩), .func (.func 76) #[] #[.pointer (some ⟨a3, 0, none⟩), .pointer (some ⟨b3, 0, none⟩), .pointer (some ⟨c3, 0, none⟩)], .func (.func 76) #[] #[.pointer (some ⟨a4, 0, none⟩), .pointer (some ⟨b4, 0, none⟩), .pointer (some ⟨c4, 0, none⟩)], u 13, u 14, .bool true, .bool false, .tuple #[.agg #[.slice A1 rs.length c1, .slice A2 rs.length c2], .bool true], .slice A l.length c, .tuple #[.agg #[.slice A1 rs.length c1, .slice A2 rs.length c2], .bool true], .agg #[.slice A1 rs.length c1, .slice A2 rs.length c2], .bool true, .bool true, .bool false, .pointer (some ⟨bk, 0, none⟩), .slice A1 rs.length c1, .int .i64 rs.length, .int .i64 i, .bool true, .int .i64 i, .pointer (some ⟨bk, 1, none⟩), .slice A2 rs.length c2, .int .i64 i, .pointer (some ⟨gs, gt + i, none⟩), .string (bs t), u 35, u 36, u 37, u 38, u 39, u 40, u 41, u 42, u 43, u 44, u 45, u 46, u 47, u 48, u 49, u 50, u 51, u 52, u 53, u 54, u 55, undef, u 57, u 58, u 59, u 60, u 61, u 62, u 63, u 64, u 65, u 66, u 67, u 68, u 69, u 70, u 71, undef, u 73, u 74, u 75, u 76, u 77, u 78, u 79, u 80, u 81, u 82, u 83, u 84, u 85, u 86, u 87, u 88, u 89, u 90, u 91, u 92, u 93, u 94, u 95, u 96, u 97, u 98, u 99, u 100, u 101, u 102, u 103, u 104, u 105, u 106, u 107, u 108, u 109, u 110, u 111, u 112, u 113], (ds).map mkd⟩ ∧ (bh < a4 ∧ bh < b4 ∧ bh < c4) ∧ (Tabs wl) ∧ (Ltr w wl) ∧ (Ropes N A1 A2 rs wl) ∧ (Blk wl rv 4 #[.bool false]) ∧ (Blk wl bk 27 #[.slice A1 rs.length c1, .slice A2 rs.length c2]) ∧ (RopeN N wl b t v ot) ∧ (Blk wl tb 9 #[.string (bs t)]) ∧ (Blk wl ah 9 #[.string (bs [])]) ∧ (Blk wl bh 9 #[.string (bs [])]) ∧ (Blk wl a3 31 #[.pointer (some ⟨b, 0, none⟩)]) ∧ (Blk wl b3 3 #[.int .i64 fr]) ∧ (Blk wl c3 4 #[.bool true]) ∧ (Blk wl a4 31 #[.pointer (some ⟨b, 0, none⟩)]) ∧ (Blk wl b4 3 #[.int .i64 fr]) ∧ (Blk wl c4 4 #[.bool false]) ∧ (Marks w.heap.size wl.heap.size ds wl)) ?_ ?_
   ·refine rm_begin (fun W => Ltr w26 W) (by kernel_rfl) (by exact bl_drew (bl_refl _)) fun K29 hgo w29 hE hS29 => ?_
    have hv29 : Ltr w26 w29 := by rw [hE]; exact bl_drew (bl_refl _)
    have hz29 := hv29.size
    clear hE hS29
    refine mk 0 35 (.pointer (some ⟨bk, 0, none⟩)) ?_
    try simp only [pp]
    refine mx 1 36 (.slice A1 rs.length c1) rfl (fun W hW => by (exact ld1 24 _ rfl bk 0 rfl (fun _ => by kernel_rfl) _ ((hbk.later hW).cell 0))) <| mk 2 37 (.int .i64 i) ?_
    try simp only [pp]
    refine mx 3 38 (.pointer (some ⟨gb, go' + i, none⟩)) rfl (fun W hW => by (exact ex_indexA i rfl rfl he1 rfl (by kernel_rfl) (fun _ => by kernel_rfl) (by omega) _)) ?_
    try simp only [pp]
    refine mx 4 39 (.pointer (some ⟨b, 0, none⟩)) rfl (fun W hW => by (exact ld1 31 _ rfl gb (go' + i) rfl (fun _ => by kernel_rfl) _ ((hP.later hW).pc he1 (ptrs_at hbt)))) <| mk 5 40 (.int .i64 fr) <| mk 7 42 (.pointer (some ⟨bk, 0, none⟩)) ?_
    try simp only [pp]
    refine mx 8 43 (.slice A1 rs.length c1) rfl (fun W hW => by (exact ld1 24 _ rfl bk 0 rfl (fun _ => by kernel_rfl) _ ((hbk.later hW).cell 0))) <| mk 9 44 (.int .i64 i) ?_
    try simp only [pp]
    refine mx 10 45 (.pointer (some ⟨gb, go' + i, none⟩)) rfl (fun W hW => by (exact ex_indexA i rfl rfl he1 rfl (by kernel_rfl) (fun _ => by kernel_rfl) (by omega) _)) ?_
    try simp only [pp]
    refine mx 11 46 (.pointer (some ⟨b, 0, none⟩)) rfl (fun W hW => by (exact ld1 31 _ rfl gb (go' + i) rfl (fun _ => by kernel_rfl) _ ((hP.later hW).pc he1 (ptrs_at hbt)))) <| mk 12 47 (.int .i64 fr) ?_
    try simp only [pp]
    refine rm_pick1 (i := 6) (by kernel_rfl) ?_
    refine rm_callx (some 41) 32 #[.pointer (some ⟨b, 0, none⟩), .int .i64 fr, .bool true] (oi := { dst := some 41, op := Go.Op.call { callee := Go.Callee.value (Go.Operand.func 32), args := #[Go.Operand.tmp 39, Go.Operand.tmp 40, Go.Operand.const (Go.Value.bool true)], argTypes := #[31, 3, 4] }, type := 64, pos := "law.go:268", after := #[{ on := 4, ground := Go.Ground.data }, { on := 5, ground := Go.Ground.data }], guard := none }) rfl rfl (by kernel_rfl) (fun W hW => by kernel_rfl) (fun W hlz hW => Pieces_blk b fr true W) (by rintro W e w' ⟨a3, b3, c3, rfl, hL30, hi0, hi1, hi2, hga, hgb, hgc⟩; exact hL30) (fun _ _ h k => Ltr.trans h k) ?_
    rintro q30 e w30 hq30 hQ30 ⟨a3, b3, c3, rfl, hL30, hi0, hi1, hi2, hga, hgb, hgc⟩ hS30
    refine ⟨_, rfl, ?_⟩
    have hz30 := hL30.size
    have hy30 := hq30.size
    try simp only [pp]
    refine rm_pick1 (i := 13) (by kernel_rfl) ?_
    refine rm_callx (some 48) 32 #[.pointer (some ⟨b, 0, none⟩), .int .i64 fr, .bool false] (oi := { dst := some 48, op := Go.Op.call { callee := Go.Callee.value (Go.Operand.func 32), args := #[Go.Operand.tmp 46, Go.Operand.tmp 47, Go.Operand.const (Go.Value.bool false)], argTypes := #[31, 3, 4] }, type := 64, pos := "law.go:268", after := #[{ on := 11, ground := Go.Ground.data }, { on := 12, ground := Go.Ground.data }, { on := 6, ground := Go.Ground.chain }], guard := none }) rfl rfl (by kernel_rfl) (fun W hW => by kernel_rfl) (fun W hlz hW => Pieces_blk b fr false W) (by rintro W e w' ⟨a4, b4, c4, rfl, hL31, hj0, hj1, hj2, hgd, hge, hgf⟩; exact hL31) (fun _ _ h k => Ltr.trans h k) ?_
    rintro q31 e w31 hq31 hQ31 ⟨a4, b4, c4, rfl, hL31, hj0, hj1, hj2, hgd, hge, hgf⟩ hS31
    refine ⟨_, rfl, ?_⟩
    replace hi0 := (hi0.later hq31).later hL31
    replace hi1 := (hi1.later hq31).later hL31
    replace hi2 := (hi2.later hq31).later hL31
    have hz31 := hL31.size
    have hy31 := hq31.size
    try simp only [pp]
    refine mk 14 11 (.func (.func 76) #[] #[.pointer (some ⟨a3, 0, none⟩), .pointer (some ⟨b3, 0, none⟩), .pointer (some ⟨c3, 0, none⟩)]) <| mk 15 12 (.func (.func 76) #[] #[.pointer (some ⟨a4, 0, none⟩), .pointer (some ⟨b4, 0, none⟩), .pointer (some ⟨c4, 0, none⟩)]) ?_
    try simp only [pp]
    refine rm_done (by kernel_rfl) (fun w32 hL32 hS32 => hgo.out _ _ ?_) _
    clear hgo K29
    replace hi0 := hi0.later hL32
    replace hi1 := hi1.later hL32
    replace hi2 := hi2.later hL32
    replace hj0 := hj0.later hL32
    replace hj1 := hj1.later hL32
    replace hj2 := hj2.later hL32
    replace hT := hT.later (show Ltr w26 _ from hS32)
    replace hB := hB.later (show Ltr w26 _ from hS32)
    replace hP := hP.later (show Ltr w26 _ from hS32)
    replace hrv := hrv.later (show Ltr w26 _ from hS32)
    replace hbk := hbk.later (show Ltr w26 _ from hS32)
    replace hMs := hMs.later (show Ltr w26 _ from hS32)
    replace htb := htb.later (show Ltr w26 _ from hS32)
    replace hah := hah.later (show Ltr w26 _ from hS32)
    replace hbh := hbh.later (show Ltr w26 _ from hS32)
    have hz32 := (show Ltr w26 _ from hS32).size
    have hy32 := hL32.size
    exact ⟨rfl, fun gj => (#[.slice A l.length c, .int .i64 fr, undef, undef, .pointer (some ⟨rv, 0, none⟩), .pointer (some ⟨bk, 0, none⟩), .bool true, .int .i64 i, .pointer (some ⟨tb, 0, none⟩), .pointer (some ⟨ah, 0, none⟩), .pointer (some ⟨bh, 0, none⟩), .func (.func 76) #[] #[.pointer (some ⟨a3, 0, none⟩), .pointer (some ⟨b3, 0, none⟩), .pointer (some ⟨c3, 0, none⟩)], .func (.func 76) #[] #[.pointer (some ⟨a4, 0, none⟩), .pointer (some ⟨b4, 0, none⟩), .pointer (some ⟨c4, 0, none⟩)], u 13, u 14, .bool true, .bool false, .tuple #[.agg #[.slice A1 rs.length c1, .slice A2 rs.length c2], .bool true], .slice A l.length c, .tuple #[.agg #[.slice A1 rs.length c1, .slice A2 rs.length c2], .bool true], .agg #[.slice A1 rs.length c1, .slice A2 rs.length c2], .bool true, .bool true, .bool false, .pointer (some ⟨bk, 0, none⟩), .slice A1 rs.length c1, .int .i64 rs.length, .int .i64 i, .bool true, .int .i64 i, .pointer (some ⟨bk, 1, none⟩), .slice A2 rs.length c2, .int .i64 i, .pointer (some ⟨gs, gt + i, none⟩), .string (bs t), .pointer (some ⟨bk, 0, none⟩), .slice A1 rs.length c1, .int .i64 i, .pointer (some ⟨gb, go' + i, none⟩), .pointer (some ⟨b, 0, none⟩), .int .i64 fr, .func (.func 76) #[] #[.pointer (some ⟨a3, 0, none⟩), .pointer (some ⟨b3, 0, none⟩), .pointer (some ⟨c3, 0, none⟩)], .pointer (some ⟨bk, 0, none⟩), .slice A1 rs.length c1, .int .i64 i, .pointer (some ⟨gb, go' + i, none⟩), .pointer (some ⟨b, 0, none⟩), .int .i64 fr, .func (.func 76) #[] #[.pointer (some ⟨a4, 0, none⟩), .pointer (some ⟨b4, 0, none⟩), .pointer (some ⟨c4, 0, none⟩)], u 49, u 50, u 51, u 52, u 53, u 54, u 55, undef, u 57, u 58, u 59, u 60, u 61, u 62, u 63, u 64, u 65, u 66, u 67, u 68, u 69, u 70, u 71, undef, u 73, u 74, u 75, u 76, u 77, u 78, u 79, u 80, u 81, u 82, u 83, u 84, u 85, u 86, u 87, u 88, u 89, u 90, u 91, u 92, u 93, u 94, u 95, u 96, u 97, u 98, u 99, u 100, u 101, u 102, u 103, u 104, u 105, u 106, u 107, u 108, u 109, u 110, u 111, u 112, u 113]).getD gj undef, a3, b3, c3, a4, b4, c4, rfl, (by omega), by assumption, by assumption, by assumption, by assumption, by assumption, hro.later (show Ltr _ _ from by assumption), by assumption, hah, hbh, by assumption, by assumption, by assumption, by assumption, by assumption, by assumption, hMs.top⟩
   rintro a28 w28 ⟨u, a3, b3, c3, a4, b4, c4, rfl, hgg', hT', hB', hP', hrv', hbk', hro', htb', hah', hbh', hi0', hi1', hi2', hj0', hj1', hj2', hMs'⟩
   clear hbh hah htb hMs hbk hrv hP hB hT
   have hgg := hgg'
   clear hgg'
   have hT := hT'
   clear hT'
   have hB := hB'
   clear hB'
   have hP := hP'
   clear hP'
   have hrv := hrv'
   clear hrv'
   have hbk := hbk'
   clear hbk'
   have hro := hro'
   clear hro'
   have htb := htb'
   clear htb'
   have hah := hah'
   clear hah'
   have hbh := hbh'
   clear hbh'
   have hi0 := hi0'
   clear hi0'
   have hi1 := hi1'
   clear hi1'
   have hi2 := hi2'
   clear hi2'
   have hj0 := hj0'
   clear hj0'
   have hj1 := hj1'
   clear hj1'
   have hj2 := hj2'
   clear hj2'
   have hMs := hMs'
   clear hMs'
   have hlt_hrv_28 := hrv.lt
   have hlt_hbk_28 := hbk.lt
   have hlt_htb_28 := htb.lt
   have hlt_hah_28 := hah.lt
   have hlt_hbh_28 := hbh.lt
   have hlt_hi0_28 := hi0.lt
   have hlt_hi1_28 := hi1.lt
   have hlt_hi2_28 := hi2.lt
   have hlt_hj0_28 := hj0.lt
   have hlt_hj1_28 := hj1.lt
   have hlt_hj2_28 := hj2.lt
   refine hKK27 _ _ <| wp_seq_k fun KK33 hKK33 => wp_seq_k fun KK34 hKK34 => rl_begin fun hgK hgo => tk 49 (.func (.func 76) #[] #[.pointer (some ⟨a3, 0, none⟩), .pointer (some ⟨b3, 0, none⟩), .pointer (some ⟨c3, 0, none⟩)]) <| tk 50 (.bool false) <| tk 51 (.bool false) <| tk 52 (.func (.func 76) #[] #[.pointer (some ⟨a4, 0, none⟩), .pointer (some ⟨b4, 0, none⟩), .pointer (some ⟨c4, 0, none⟩)]) <| tk 53 (.bool false) <| tk 54 (.bool false) ?_
   simp only [pp]
   refine rl_end hgo <| hKK34 _ _ <| wp_cond_false (by kernel_rfl) <| wp_skip <| hKK33 _ _ <| wp_seq_k fun KK35 hKK35 => wp_seq_k fun KK36 hKK36 => rl_begin fun hgK hgo => tk 55 (.func (.func 76) #[] #[.pointer (some ⟨a3, 0, none⟩), .pointer (some ⟨b3, 0, none⟩), .pointer (some ⟨c3, 0, none⟩)]) ?_
   simp only [pp]
   refine rl_end hgo <| hKK36 _ _ <| wp_block ?_
   have hnm37 := hMs.fresh
   have hbz37 := hB.size
   replace hMs := hMs.top
   refine range_p (n₀ := N) (P := Tryd.prog) rfl (enters_of Tryd.func76 (by kernel_rfl) rfl) (iter_seq N b t v ot fr true (by omega) _ hro a3 b3 c3 hi0 hi1 hi2) (by omega) (fun (pre : List (Pc)) W => (Tabs W) ∧ (Ltr w W) ∧ (Ropes N A1 A2 rs W) ∧ (Blk W rv 4 #[.bool false]) ∧ (Blk W bk 27 #[.slice A1 rs.length c1, .slice A2 rs.length c2]) ∧ (RopeN N W b t v ot) ∧ (Blk W tb 9 #[.string (bs t)]) ∧ (Blk W ah 9 #[.string (bs ((pre.map pcB).reverse.flatten))]) ∧ (Blk W bh 9 #[.string (bs [])]) ∧ (Blk W a4 31 #[.pointer (some ⟨b, 0, none⟩)]) ∧ (Blk W b4 3 #[.int .i64 fr]) ∧ (Blk W c4 4 #[.bool false]) ∧ (Marks w.heap.size w28.heap.size ds W)) (fun _ _ _ => False) ?hI37 ?hIx37 ?h037 (fun (⟨A5, c5, p5⟩ : Pc) a W => a = ⟨#[.slice A l.length c, .int .i64 fr, undef, undef, .pointer (some ⟨rv, 0, none⟩), .pointer (some ⟨bk, 0, none⟩), .bool true, .int .i64 i, .pointer (some ⟨tb, 0, none⟩), .pointer (some ⟨ah, 0, none⟩), .pointer (some ⟨bh, 0, none⟩), .func (.func 76) #[] #[.pointer (some ⟨a3, 0, none⟩), .pointer (some ⟨b3, 0, none⟩), .pointer (some ⟨c3, 0, none⟩)], .func (.func 76) #[] #[.pointer (some ⟨a4, 0, none⟩), .pointer (some ⟨b4, 0, none⟩), .pointer (some ⟨c4, 0, none⟩)], .slice A5 p5.length c5, u 14, .bool true, .bool false, .tuple #[.agg #[.slice A1 rs.length c1, .slice A2 rs.length c2], .bool true], .slice A l.length c, .tuple #[.agg #[.slice A1 rs.length c1, .slice A2 rs.length c2], .bool true], .agg #[.slice A1 rs.length c1, .slice A2 rs.length c2], .bool true, .bool true, .bool false, .pointer (some ⟨bk, 0, none⟩), .slice A1 rs.length c1, .int .i64 rs.length, .int .i64 i, .bool true, .int .i64 i, .pointer (some ⟨bk, 1, none⟩), .slice A2 rs.length c2, .int .i64 i, .pointer (some ⟨gs, gt + i, none⟩), .string (bs t), u 35, u 36, u 37, u 38, u 39, u 40, u 41, u 42, u 43, u 44, u 45, u 46, u 47, u 48, .func (.func 76) #[] #[.pointer (some ⟨a3, 0, none⟩), .pointer (some ⟨b3, 0, none⟩), .pointer (some ⟨c3, 0, none⟩)], .bool false, .bool false, .func (.func 76) #[] #[.pointer (some ⟨a4, 0, none⟩), .pointer (some ⟨b4, 0, none⟩), .pointer (some ⟨c4, 0, none⟩)], .bool false, .bool false, .func (.func 76) #[] #[.pointer (some ⟨a3, 0, none⟩), .pointer (some ⟨b3, 0, none⟩), .pointer (some ⟨c3, 0, none⟩)], .slice A5 p5.length c5, u 57, u 58, u 59, u 60, u 61, u 62, u 63, u 64, u 65, u 66, u 67, u 68, u 69, u 70, u 71, undef, u 73, u 74, u 75, u 76, u 77, u 78, u 79, u 80, u 81, u 82, u 83, u 84, u 85, u 86, u 87, u 88, u 89, u 90, u 91, u 92, u 93, u 94, u 95, u 96, u 97, u 98, u 99, u 100, u 101, u 102, u 103, u 104, u 105, u 106, u 107, u 108, u 109, u 110, u 111, u 112, u 113], []⟩ ∧ (pcP N (A5, c5, p5) W)) ?hAx37 ?ha37 ?hb37 ?hd37 ?hs37
   case hI37 =>
    rintro pre W W' row ⟨hT, hB, hP, hrv, hbk, hro, htb, hah, hbh, hj0, hj1, hj2, hMs⟩ hg hr
    exact ⟨hT.kc hg hr (by omega), hB.kc hg hr (by omega), hP.kc hg hr (by omega), hrv.kc hg hr (by omega), hbk.kc hg hr (by omega), hro.kc hg hr (by omega), htb.kc hg hr (by omega), hah.kc hg hr (by omega), hbh.kc hg hr (by omega), hj0.kc hg hr (by omega), hj1.kc hg hr (by omega), hj2.kc hg hr (by omega), hMs.kc hg hr (by omega)⟩
   case hIx37 =>
    exact fun _ _ _ _ _ h _ _ => h
   case h037 =>
    exact ⟨by assumption, by assumption, by assumption, by assumption, by assumption, by assumption, by assumption, hah, hbh, by assumption, by assumption, by assumption, by assumption⟩
   case hAx37 =>
    rintro ⟨A5, c5, p5⟩ a' _ W W' row ⟨rfl, hp⟩ hg hr
    exact ⟨rfl, hp.kc hg hr (by omega)⟩
   case ha37 =>
    skip
    rintro l37 pre ⟨A5, c5, p5⟩ w37a hz37a hi37 hp hok37
    have hLa37 := Ltr.refl w37a
    clear hi37
    simp only [pcEnc, List.setIfInBounds_toArray, List.set_cons_zero, List.set_cons_succ]
    refine rj_begin fun hgK hgo => sk 13 (.slice A5 p5.length c5) ?_
    simp only [pp]
    refine rj_end hgo ?_
    exact And.intro hLa37 (And.intro rfl hp)
   case hb37 =>
    rintro l37 pre ⟨A5, c5, p5⟩ a37 w37b hTwo37 hi37 ⟨rfl, hp⟩ hok37
    obtain ⟨hT, hB, hP, hrv, hbk, hro, htb, hah, hbh, hj0, hj1, hj2, hMs⟩ := hi37
    have hz237 := hTwo37.size
    have hBel37 := Bel.refl N w37b (by omega)
    have hlt_hrv_37 := hrv.lt
    have hlt_hbk_37 := hbk.lt
    have hlt_htb_37 := htb.lt
    have hlt_hah_37 := hah.lt
    have hlt_hbh_37 := hbh.lt
    have hlt_hj0_37 := hj0.lt
    have hlt_hj1_37 := hj1.lt
    have hlt_hj2_37 := hj2.lt
    (obtain ⟨hp0, hpa, hpb⟩ := pc_ok hfB hok37)
    refine wpIn_block <| wpIn_seq_k fun KK38 hKK38 => wpIn_seq_k fun KK39 hKK39 => rj_begin fun hgK hgo => sk 57 (.slice A5 p5.length c5) <| sk 58 (.int .i64 p5.length) ?_
    simp only [pp]
    refine sx 59 (.bool false) (by exact ex_beq (x := p5.length) (y := 0) (by kernel_rfl) ⟨fun q => (by cases q), fun q => absurd q (by omega)⟩) <| sk 60 (.bool false) ?_
    simp only [pp]
    refine sx 61 (.string (bs ((pre.map pcB).reverse.flatten))) (by exact ld1 9 _ rfl ah 0 rfl (fun _ => by kernel_rfl) _ (hah.cell 0)) ?_
    simp only [pp]
    refine sx 62 (.int .i64 ((pre.map pcB).reverse.flatten).length) (by exact ex_len_bs (by kernel_rfl)) ?_
    simp only [pp]
    refine sx 63 (.string (bs t)) (by exact ld1 9 _ rfl tb 0 rfl (fun _ => by kernel_rfl) _ (htb.cell 0)) ?_
    simp only [pp]
    refine sx 64 (.int .i64 t.length) (by exact ex_len_bs (by kernel_rfl)) ?_
    simp only [pp]
    refine sx 65 (.bool false) (by exact ex_bool (c := (((pre.map pcB).reverse.flatten).length : Int) > t.length) (by kernel_rfl) ⟨fun q => (by cases q), fun q => absurd q (by omega)⟩) <| sk 66 (.bool false) ?_
    simp only [pp]
    refine rj_end hgo <| hKK39 _ _ <| wpIn_cond_false (by kernel_rfl) ?_
    refine wpIn_skip ?_
    refine hKK38 _ _ <| rj_begin fun hgK hgo => sk 67 (.slice A5 p5.length c5) ?_
    simp only [pp]
    refine sx 68 (.string (bs p5)) (by exact ex_conv_str _ rfl A5 c5 p5 rfl (BRow.bytes (A := A5) (c := c5) (l := p5) hp)) ?_
    simp only [pp]
    refine sx 69 (.string (bs ((pre.map pcB).reverse.flatten))) (by exact ld1 9 _ rfl ah 0 rfl (fun _ => by kernel_rfl) _ (hah.cell 0)) ?_
    simp only [pp]
    refine sx 70 (.string (bs (((pre ++ [(A5, c5, p5)]).map pcB).reverse.flatten))) (by (rw [acc_back]; exact ex_str_add p5 _ rfl rfl rfl (by omega) _)) ?_
    simp only [pp]
    refine rj_store1 ah (.string (bs (((pre ++ [(A5, c5, p5)]).map pcB).reverse.flatten))) rfl rfl (by kernel_rfl) rfl rfl (by kernel_rfl) hah (by kernel_rfl) fun w40 hU40 hn40 => ?_
    have hz40 := hU40.size
    clear hp
    replace hT := hT.upd hU40 (by omega)
    replace hB := hB.upd hU40 (by omega)
    replace hP := hP.upd hU40 (by omega)
    replace hrv := hrv.upd hU40 (by omega)
    replace hbk := hbk.upd hU40 (by omega)
    replace hro := hro.upd hU40 (by omega)
    replace htb := htb.upd hU40 (by omega)
    replace hbh := hbh.upd hU40 (by omega)
    replace hj0 := hj0.upd hU40 (by omega)
    replace hj1 := hj1.upd hU40 (by omega)
    replace hj2 := hj2.upd hU40 (by omega)
    replace hMs := hMs.upd hU40 (⟨_, _, hah⟩)
    replace hTwo37 := hTwo37.upd hU40 (by omega)
    replace hBel37 := hBel37.upd hU40 (by omega)
    clear hah
    have hah := hn40
    clear hn40
    try simp only [pp]
    refine rj_end hgo ?_
    try simp only [Exit.then, Exit.inBlock]
    exact ⟨hTwo37, hBel37, by assumption, by assumption, by assumption, by assumption, by assumption, by assumption, by assumption, by assumption, by assumption, by assumption, by assumption, by assumption, by assumption⟩
   case hd37 =>
    rintro pre w37d hz37d hS37 hi37 hM37
    obtain ⟨hT, hB, hP, hrv, hbk, hro, htb, hah, hbh, hj0, hj1, hj2, hMs⟩ := hi37
    replace hM37 : Mark w28.heap.size w37d := hM37
    have hlt_hrv_37 := hrv.lt
    have hlt_hbk_37 := hbk.lt
    have hlt_htb_37 := htb.lt
    have hlt_hah_37 := hah.lt
    have hlt_hbh_37 := hbh.lt
    have hlt_hj0_37 := hj0.lt
    have hlt_hj1_37 := hj1.lt
    have hlt_hj2_37 := hj2.lt
    replace hMs := hMs.cons hM37 (by omega) hnm37
    rw [hS37] at hah
    refine hKK35 _ _ <| wp_seq_k fun KK41 hKK41 => wp_seq_k fun KK42 hKK42 => rl_begin fun hgK hgo => tk 71 (.func (.func 76) #[] #[.pointer (some ⟨a4, 0, none⟩), .pointer (some ⟨b4, 0, none⟩), .pointer (some ⟨c4, 0, none⟩)]) ?_
    simp only [pp]
    refine rl_end hgo <| hKK42 _ _ <| wp_block ?_
    have hnm43 := hMs.fresh
    have hbz43 := hB.size
    replace hMs := hMs.top
    refine range_p (n₀ := N) (P := Tryd.prog) rfl (enters_of Tryd.func76 (by kernel_rfl) rfl) (iter_seq N b t v ot fr false (by omega) _ hro a4 b4 c4 hj0 hj1 hj2) (by omega) (fun (pre : List (Pc)) W => (Tabs W) ∧ (Ltr w W) ∧ (Ropes N A1 A2 rs W) ∧ (Blk W rv 4 #[.bool false]) ∧ (Blk W bk 27 #[.slice A1 rs.length c1, .slice A2 rs.length c2]) ∧ (RopeN N W b t v ot) ∧ (Blk W tb 9 #[.string (bs t)]) ∧ (Blk W ah 9 #[.string (bs ((pcsOf ot t fr true).reverse.flatten))]) ∧ (Blk W bh 9 #[.string (bs ((pre.map pcB).flatten))]) ∧ (Marks w.heap.size w37d.heap.size (w28.heap.size :: ds) W)) (fun _ _ _ => False) ?hI43 ?hIx43 ?h043 (fun (⟨A6, c6, p6⟩ : Pc) a W => a = ⟨#[.slice A l.length c, .int .i64 fr, undef, undef, .pointer (some ⟨rv, 0, none⟩), .pointer (some ⟨bk, 0, none⟩), .bool true, .int .i64 i, .pointer (some ⟨tb, 0, none⟩), .pointer (some ⟨ah, 0, none⟩), .pointer (some ⟨bh, 0, none⟩), .func (.func 76) #[] #[.pointer (some ⟨a3, 0, none⟩), .pointer (some ⟨b3, 0, none⟩), .pointer (some ⟨c3, 0, none⟩)], .func (.func 76) #[] #[.pointer (some ⟨a4, 0, none⟩), .pointer (some ⟨b4, 0, none⟩), .pointer (some ⟨c4, 0, none⟩)], u 13, .slice A6 p6.length c6, .bool true, .bool false, .tuple #[.agg #[.slice A1 rs.length c1, .slice A2 rs.length c2], .bool true], .slice A l.length c, .tuple #[.agg #[.slice A1 rs.length c1, .slice A2 rs.length c2], .bool true], .agg #[.slice A1 rs.length c1, .slice A2 rs.length c2], .bool true, .bool true, .bool false, .pointer (some ⟨bk, 0, none⟩), .slice A1 rs.length c1, .int .i64 rs.length, .int .i64 i, .bool true, .int .i64 i, .pointer (some ⟨bk, 1, none⟩), .slice A2 rs.length c2, .int .i64 i, .pointer (some ⟨gs, gt + i, none⟩), .string (bs t), u 35, u 36, u 37, u 38, u 39, u 40, u 41, u 42, u 43, u 44, u 45, u 46, u 47, u 48, .func (.func 76) #[] #[.pointer (some ⟨a3, 0, none⟩), .pointer (some ⟨b3, 0, none⟩), .pointer (some ⟨c3, 0, none⟩)], .bool false, .bool false, .func (.func 76) #[] #[.pointer (some ⟨a4, 0, none⟩), .pointer (some ⟨b4, 0, none⟩), .pointer (some ⟨c4, 0, none⟩)], .bool false, .bool false, .func (.func 76) #[] #[.pointer (some ⟨a3, 0, none⟩), .pointer (some ⟨b3, 0, none⟩), .pointer (some ⟨c3, 0, none⟩)], undef, u 57, u 58, u 59, u 60, u 61, u 62, u 63, u 64, u 65, u 66, u 67, u 68, u 69, u 70, .func (.func 76) #[] #[.pointer (some ⟨a4, 0, none⟩), .pointer (some ⟨b4, 0, none⟩), .pointer (some ⟨c4, 0, none⟩)], .slice A6 p6.length c6, u 73, u 74, u 75, u 76, u 77, u 78, u 79, u 80, u 81, u 82, u 83, u 84, u 85, u 86, u 87, u 88, u 89, u 90, u 91, u 92, u 93, u 94, u 95, u 96, u 97, u 98, u 99, u 100, u 101, u 102, u 103, u 104, u 105, u 106, u 107, u 108, u 109, u 110, u 111, u 112, u 113], []⟩ ∧ (pcP N (A6, c6, p6) W)) ?hAx43 ?ha43 ?hb43 ?hd43 ?hs43
    case hI43 =>
     rintro pre W W' row ⟨hT, hB, hP, hrv, hbk, hro, htb, hah, hbh, hMs⟩ hg hr
     exact ⟨hT.kc hg hr (by omega), hB.kc hg hr (by omega), hP.kc hg hr (by omega), hrv.kc hg hr (by omega), hbk.kc hg hr (by omega), hro.kc hg hr (by omega), htb.kc hg hr (by omega), hah.kc hg hr (by omega), hbh.kc hg hr (by omega), hMs.kc hg hr (by omega)⟩
    case hIx43 =>
     exact fun _ _ _ _ _ h _ _ => h
    case h043 =>
     exact ⟨by assumption, by assumption, by assumption, by assumption, by assumption, by assumption, by assumption, hah, hbh, by assumption⟩
    case hAx43 =>
     rintro ⟨A6, c6, p6⟩ a' _ W W' row ⟨rfl, hp⟩ hg hr
     exact ⟨rfl, hp.kc hg hr (by omega)⟩
    case ha43 =>
     skip
     rintro l43 pre ⟨A6, c6, p6⟩ w43a hz43a hi43 hp hok43
     have hLa43 := Ltr.refl w43a
     clear hi43
     simp only [pcEnc, List.setIfInBounds_toArray, List.set_cons_zero, List.set_cons_succ]
     refine rj_begin fun hgK hgo => sk 14 (.slice A6 p6.length c6) ?_
     simp only [pp]
     refine rj_end hgo ?_
     exact And.intro hLa43 (And.intro rfl hp)
    case hb43 =>
     rintro l43 pre ⟨A6, c6, p6⟩ a43 w43b hTwo43 hi43 ⟨rfl, hp⟩ hok43
     obtain ⟨hT, hB, hP, hrv, hbk, hro, htb, hah, hbh, hMs⟩ := hi43
     have hz243 := hTwo43.size
     have hBel43 := Bel.refl N w43b (by omega)
     have hlt_hrv_43 := hrv.lt
     have hlt_hbk_43 := hbk.lt
     have hlt_htb_43 := htb.lt
     have hlt_hah_43 := hah.lt
     have hlt_hbh_43 := hbh.lt
     (obtain ⟨hp0, hpa, hpb⟩ := pc_ok hfF hok43)
     refine wpIn_block <| wpIn_seq_k fun KK44 hKK44 => wpIn_seq_k fun KK45 hKK45 => rj_begin fun hgK hgo => sk 73 (.slice A6 p6.length c6) <| sk 74 (.int .i64 p6.length) ?_
     simp only [pp]
     refine sx 75 (.bool false) (by exact ex_beq (x := p6.length) (y := 0) (by kernel_rfl) ⟨fun q => (by cases q), fun q => absurd q (by omega)⟩) <| sk 76 (.bool false) ?_
     simp only [pp]
     refine sx 77 (.string (bs ((pre.map pcB).flatten))) (by exact ld1 9 _ rfl bh 0 rfl (fun _ => by kernel_rfl) _ (hbh.cell 0)) ?_
     simp only [pp]
     refine sx 78 (.int .i64 ((pre.map pcB).flatten).length) (by exact ex_len_bs (by kernel_rfl)) ?_
     simp only [pp]
     refine sx 79 (.string (bs t)) (by exact ld1 9 _ rfl tb 0 rfl (fun _ => by kernel_rfl) _ (htb.cell 0)) ?_
     simp only [pp]
     refine sx 80 (.int .i64 t.length) (by exact ex_len_bs (by kernel_rfl)) ?_
     simp only [pp]
     refine sx 81 (.bool false) (by exact ex_bool (c := (((pre.map pcB).flatten).length : Int) > t.length) (by kernel_rfl) ⟨fun q => (by cases q), fun q => absurd q (by omega)⟩) <| sk 82 (.bool false) ?_
     simp only [pp]
     refine rj_end hgo <| hKK45 _ _ <| wpIn_cond_false (by kernel_rfl) ?_
     refine wpIn_skip ?_
     refine hKK44 _ _ <| rj_begin fun hgK hgo => ?_
     refine sx 83 (.string (bs ((pre.map pcB).flatten))) (by exact ld1 9 _ rfl bh 0 rfl (fun _ => by kernel_rfl) _ (hbh.cell 0)) <| sk 84 (.slice A6 p6.length c6) ?_
     simp only [pp]
     refine sx 85 (.string (bs p6)) (by exact ex_conv_str _ rfl A6 c6 p6 rfl (BRow.bytes (A := A6) (c := c6) (l := p6) hp)) ?_
     simp only [pp]
     refine sx 86 (.string (bs (((pre ++ [(A6, c6, p6)]).map pcB).flatten))) (by (rw [acc_fore]; exact ex_str_add _ p6 rfl rfl rfl (by omega) _)) ?_
     simp only [pp]
     refine rj_store1 bh (.string (bs (((pre ++ [(A6, c6, p6)]).map pcB).flatten))) rfl rfl (by kernel_rfl) rfl rfl (by kernel_rfl) hbh (by kernel_rfl) fun w46 hU46 hn46 => ?_
     have hz46 := hU46.size
     clear hp
     replace hT := hT.upd hU46 (by omega)
     replace hB := hB.upd hU46 (by omega)
     replace hP := hP.upd hU46 (by omega)
     replace hrv := hrv.upd hU46 (by omega)
     replace hbk := hbk.upd hU46 (by omega)
     replace hro := hro.upd hU46 (by omega)
     replace htb := htb.upd hU46 (by omega)
     replace hah := hah.upd hU46 (by omega)
     replace hMs := hMs.upd hU46 (⟨_, _, hbh⟩)
     replace hTwo43 := hTwo43.upd hU46 (by omega)
     replace hBel43 := hBel43.upd hU46 (by omega)
     clear hbh
     have hbh := hn46
     clear hn46
     try simp only [pp]
     refine rj_end hgo ?_
     try simp only [Exit.then, Exit.inBlock]
     exact ⟨hTwo43, hBel43, by assumption, by assumption, by assumption, by assumption, by assumption, by assumption, by assumption, by assumption, by assumption, by assumption⟩
    case hd43 =>
     rintro pre w43d hz43d hS43 hi43 hM43
     obtain ⟨hT, hB, hP, hrv, hbk, hro, htb, hah, hbh, hMs⟩ := hi43
     replace hM43 : Mark w37d.heap.size w43d := hM43
     have hlt_hrv_43 := hrv.lt
     have hlt_hbk_43 := hbk.lt
     have hlt_htb_43 := htb.lt
     have hlt_hah_43 := hah.lt
     have hlt_hbh_43 := hbh.lt
     replace hMs := hMs.cons hM43 (by omega) hnm43
     rw [hS43] at hbh
     refine hKK41 _ _ <| wp_seq_k fun KK47 hKK47 => wp_seq_k fun KK48 hKK48 => rl_begin fun hgK hgo => tk 87 (.int .i64 fr) ?_
     simp only [pp]
     by_cases h5 : fr < 0
     ·refine tx 88 (.bool true) (by exact ex_bool (c := (fr : Int) < 0) (by kernel_rfl) ⟨fun _ => by omega, fun _ => rfl⟩) <| tk 89 (.bool true) ?_
      simp only [pp]
      refine rl_pass (some 90) rfl (by kernel_rfl) ?_
      try simp only [pp]
      refine rl_pass (some 91) rfl (by kernel_rfl) ?_
      try simp only [pp]
      refine rl_pass (some 92) rfl (by kernel_rfl) ?_
      try simp only [pp]
      refine rl_pass (some 93) rfl (by kernel_rfl) ?_
      try simp only [pp]
      refine tk 94 (.bool true) ?_
      simp only [pp]
      refine rl_end hgo <| hKK48 _ _ <| wp_cond_true (by kernel_rfl) <| wp_seq_k fun KK49 hKK49 => wp_seq_k fun KK50 hKK50 => rl_begin fun hgK hgo => ?_
      refine tx 95 (.string (bs ((pcsOf ot t fr true).reverse.flatten))) (by exact ld1 9 _ rfl ah 0 rfl (fun _ => by kernel_rfl) _ (hah.cell 0)) ?_
      simp only [pp]
      refine tx 96 (.bool false) (by exact ex_ne_lit (a := (pcsOf ot t fr true).reverse.flatten) (b := []) (by kernel_rfl) (by rw [pcs_out ot t fr true (by omega)]; rfl)) <| tk 97 (.bool false) ?_
      simp only [pp]
      refine tx 98 (.string (bs ((pcsOf ot t fr false).flatten))) (by exact ld1 9 _ rfl bh 0 rfl (fun _ => by kernel_rfl) _ (hbh.cell 0)) ?_
      simp only [pp]
      refine tx 99 (.bool false) (by exact ex_ne_lit (a := (pcsOf ot t fr false).flatten) (b := []) (by kernel_rfl) (by rw [pcs_out ot t fr false (by omega)]; rfl)) <| tk 100 (.bool false) ?_
      simp only [pp]
      refine rl_end hgo <| hKK50 _ _ <| wp_cond_false (by kernel_rfl) <| wp_skip <| hKK49 _ _ <| wp_exit <| hKK17 _ _ <| rl_begin fun hgK hgo => ?_
      refine tx 113 (.int .i64 (((i + 1 : Nat) : Int))) (by exact ex_arith (e := (i : Int) + 1) (r := ((i + 1 : Nat) : Int)) (by kernel_rfl) (by omega) (by omega)) <| tk 27 (.int .i64 (((i + 1 : Nat) : Int))) ?_
      simp only [pp]
      refine rl_end hgo ?_
      exact ⟨_, (by omega), fun gj => (#[.slice A l.length c, .int .i64 fr, undef, undef, .pointer (some ⟨rv, 0, none⟩), .pointer (some ⟨bk, 0, none⟩), .bool true, .int .i64 i, .pointer (some ⟨tb, 0, none⟩), .pointer (some ⟨ah, 0, none⟩), .pointer (some ⟨bh, 0, none⟩), .func (.func 76) #[] #[.pointer (some ⟨a3, 0, none⟩), .pointer (some ⟨b3, 0, none⟩), .pointer (some ⟨c3, 0, none⟩)], .func (.func 76) #[] #[.pointer (some ⟨a4, 0, none⟩), .pointer (some ⟨b4, 0, none⟩), .pointer (some ⟨c4, 0, none⟩)], u 13, u 14, .bool true, .bool false, .tuple #[.agg #[.slice A1 rs.length c1, .slice A2 rs.length c2], .bool true], .slice A l.length c, .tuple #[.agg #[.slice A1 rs.length c1, .slice A2 rs.length c2], .bool true], .agg #[.slice A1 rs.length c1, .slice A2 rs.length c2], .bool true, .bool true, .bool false, .pointer (some ⟨bk, 0, none⟩), .slice A1 rs.length c1, .int .i64 rs.length, .int .i64 (((i + 1 : Nat) : Int)), .bool true, .int .i64 i, .pointer (some ⟨bk, 1, none⟩), .slice A2 rs.length c2, .int .i64 i, .pointer (some ⟨gs, gt + i, none⟩), .string (bs t), u 35, u 36, u 37, u 38, u 39, u 40, u 41, u 42, u 43, u 44, u 45, u 46, u 47, u 48, .func (.func 76) #[] #[.pointer (some ⟨a3, 0, none⟩), .pointer (some ⟨b3, 0, none⟩), .pointer (some ⟨c3, 0, none⟩)], .bool false, .bool false, .func (.func 76) #[] #[.pointer (some ⟨a4, 0, none⟩), .pointer (some ⟨b4, 0, none⟩), .pointer (some ⟨c4, 0, none⟩)], .bool false, .bool false, .func (.func 76) #[] #[.pointer (some ⟨a3, 0, none⟩), .pointer (some ⟨b3, 0, none⟩), .pointer (some ⟨c3, 0, none⟩)], undef, u 57, u 58, u 59, u 60, u 61, u 62, u 63, u 64, u 65, u 66, u 67, u 68, u 69, u 70, .func (.func 76) #[] #[.pointer (some ⟨a4, 0, none⟩), .pointer (some ⟨b4, 0, none⟩), .pointer (some ⟨c4, 0, none⟩)], undef, u 73, u 74, u 75, u 76, u 77, u 78, u 79, u 80, u 81, u 82, u 83, u 84, u 85, u 86, .int .i64 fr, .bool true, .bool true, undef, undef, undef, undef, .bool true, .string (bs ((pcsOf ot t fr true).reverse.flatten)), .bool false, .bool false, .string (bs ((pcsOf ot t fr false).flatten)), .bool false, .bool false, u 101, u 102, u 103, u 104, u 105, u 106, u 107, u 108, u 109, u 110, u 111, u 112, .int .i64 (((i + 1 : Nat) : Int))]).getD gj undef, i + 1, (w37d.heap.size :: (w28.heap.size :: ds)), rfl, rfl, by omega, by assumption, by assumption, by assumption, by assumption, by assumption, hMs.top⟩
     ·refine tx 88 (.bool false) (by exact ex_bool (c := (fr : Int) < 0) (by kernel_rfl) ⟨fun q => (by cases q), fun q => absurd q (by omega)⟩) <| tk 89 (.bool false) <| tk 90 (.int .i64 fr) ?_
      simp only [pp]
      refine tx 91 (.string (bs t)) (by exact ld1 9 _ rfl tb 0 rfl (fun _ => by kernel_rfl) _ (htb.cell 0)) ?_
      simp only [pp]
      refine tx 92 (.int .i64 t.length) (by exact ex_len_bs (by kernel_rfl)) ?_
      simp only [pp]
      by_cases h6 : fr > (t.length : Int)
      ·refine tx 93 (.bool true) (by exact ex_bool (c := (fr : Int) > t.length) (by kernel_rfl) ⟨fun _ => by omega, fun _ => rfl⟩) <| tk 94 (.bool true) ?_
       simp only [pp]
       refine rl_end hgo <| hKK48 _ _ <| wp_cond_true (by kernel_rfl) <| wp_seq_k fun KK51 hKK51 => wp_seq_k fun KK52 hKK52 => rl_begin fun hgK hgo => ?_
       refine tx 95 (.string (bs ((pcsOf ot t fr true).reverse.flatten))) (by exact ld1 9 _ rfl ah 0 rfl (fun _ => by kernel_rfl) _ (hah.cell 0)) ?_
       simp only [pp]
       refine tx 96 (.bool false) (by exact ex_ne_lit (a := (pcsOf ot t fr true).reverse.flatten) (b := []) (by kernel_rfl) (by rw [pcs_out ot t fr true (by omega)]; rfl)) <| tk 97 (.bool false) ?_
       simp only [pp]
       refine tx 98 (.string (bs ((pcsOf ot t fr false).flatten))) (by exact ld1 9 _ rfl bh 0 rfl (fun _ => by kernel_rfl) _ (hbh.cell 0)) ?_
       simp only [pp]
       refine tx 99 (.bool false) (by exact ex_ne_lit (a := (pcsOf ot t fr false).flatten) (b := []) (by kernel_rfl) (by rw [pcs_out ot t fr false (by omega)]; rfl)) <| tk 100 (.bool false) ?_
       simp only [pp]
       refine rl_end hgo <| hKK52 _ _ <| wp_cond_false (by kernel_rfl) <| wp_skip <| hKK51 _ _ <| wp_exit <| hKK17 _ _ <| rl_begin fun hgK hgo => ?_
       refine tx 113 (.int .i64 (((i + 1 : Nat) : Int))) (by exact ex_arith (e := (i : Int) + 1) (r := ((i + 1 : Nat) : Int)) (by kernel_rfl) (by omega) (by omega)) <| tk 27 (.int .i64 (((i + 1 : Nat) : Int))) ?_
       simp only [pp]
       refine rl_end hgo ?_
       exact ⟨_, (by omega), fun gj => (#[.slice A l.length c, .int .i64 fr, undef, undef, .pointer (some ⟨rv, 0, none⟩), .pointer (some ⟨bk, 0, none⟩), .bool true, .int .i64 i, .pointer (some ⟨tb, 0, none⟩), .pointer (some ⟨ah, 0, none⟩), .pointer (some ⟨bh, 0, none⟩), .func (.func 76) #[] #[.pointer (some ⟨a3, 0, none⟩), .pointer (some ⟨b3, 0, none⟩), .pointer (some ⟨c3, 0, none⟩)], .func (.func 76) #[] #[.pointer (some ⟨a4, 0, none⟩), .pointer (some ⟨b4, 0, none⟩), .pointer (some ⟨c4, 0, none⟩)], u 13, u 14, .bool true, .bool false, .tuple #[.agg #[.slice A1 rs.length c1, .slice A2 rs.length c2], .bool true], .slice A l.length c, .tuple #[.agg #[.slice A1 rs.length c1, .slice A2 rs.length c2], .bool true], .agg #[.slice A1 rs.length c1, .slice A2 rs.length c2], .bool true, .bool true, .bool false, .pointer (some ⟨bk, 0, none⟩), .slice A1 rs.length c1, .int .i64 rs.length, .int .i64 (((i + 1 : Nat) : Int)), .bool true, .int .i64 i, .pointer (some ⟨bk, 1, none⟩), .slice A2 rs.length c2, .int .i64 i, .pointer (some ⟨gs, gt + i, none⟩), .string (bs t), u 35, u 36, u 37, u 38, u 39, u 40, u 41, u 42, u 43, u 44, u 45, u 46, u 47, u 48, .func (.func 76) #[] #[.pointer (some ⟨a3, 0, none⟩), .pointer (some ⟨b3, 0, none⟩), .pointer (some ⟨c3, 0, none⟩)], .bool false, .bool false, .func (.func 76) #[] #[.pointer (some ⟨a4, 0, none⟩), .pointer (some ⟨b4, 0, none⟩), .pointer (some ⟨c4, 0, none⟩)], .bool false, .bool false, .func (.func 76) #[] #[.pointer (some ⟨a3, 0, none⟩), .pointer (some ⟨b3, 0, none⟩), .pointer (some ⟨c3, 0, none⟩)], undef, u 57, u 58, u 59, u 60, u 61, u 62, u 63, u 64, u 65, u 66, u 67, u 68, u 69, u 70, .func (.func 76) #[] #[.pointer (some ⟨a4, 0, none⟩), .pointer (some ⟨b4, 0, none⟩), .pointer (some ⟨c4, 0, none⟩)], undef, u 73, u 74, u 75, u 76, u 77, u 78, u 79, u 80, u 81, u 82, u 83, u 84, u 85, u 86, .int .i64 fr, .bool false, .bool false, .int .i64 fr, .string (bs t), .int .i64 t.length, .bool true, .bool true, .string (bs ((pcsOf ot t fr true).reverse.flatten)), .bool false, .bool false, .string (bs ((pcsOf ot t fr false).flatten)), .bool false, .bool false, u 101, u 102, u 103, u 104, u 105, u 106, u 107, u 108, u 109, u 110, u 111, u 112, .int .i64 (((i + 1 : Nat) : Int))]).getD gj undef, i + 1, (w37d.heap.size :: (w28.heap.size :: ds)), rfl, rfl, by omega, by assumption, by assumption, by assumption, by assumption, by assumption, hMs.top⟩
      ·refine tx 93 (.bool false) (by exact ex_bool (c := (fr : Int) > t.length) (by kernel_rfl) ⟨fun q => (by cases q), fun q => absurd q (by omega)⟩) <| tk 94 (.bool false) ?_
       simp only [pp]
       refine rl_end hgo <| hKK48 _ _ <| wp_cond_false (by kernel_rfl) <| wp_skip <| hKK47 _ _ <| wp_seq_k fun KK53 hKK53 => ?_
       (obtain ⟨k, hk⟩ := Int.eq_ofNat_of_zero_le (by omega : 0 ≤ fr)); (have hfb := (pcs_flatB hro k (by omega)).1); (have hff := (pcs_flatF hro k (by omega)).1); (rw [← hk] at hfb hff)
       refine rm_begin (fun W => Ltr w43d W) (by kernel_rfl) (by exact bl_drew (bl_refl _)) fun K54 hgo w54 hE hS54 => ?_
       have hv54 : Ltr w43d w54 := by rw [hE]; exact bl_drew (bl_refl _)
       have hz54 := hv54.size
       clear hE hS54
       refine mx 0 101 (.string (bs ((pcsOf ot t fr true).reverse.flatten))) rfl (fun W hW => by (exact ld1 9 _ rfl ah 0 rfl (fun _ => by kernel_rfl) _ ((hah.later hW).cell 0))) ?_
       try simp only [pp]
       refine mx 1 102 (.string (bs t)) rfl (fun W hW => by (exact ld1 9 _ rfl tb 0 rfl (fun _ => by kernel_rfl) _ ((htb.later hW).cell 0))) <| mk 2 103 (.int .i64 fr) ?_
       try simp only [pp]
       refine mx 3 104 (.string (bs (t.take k))) rfl (fun W hW => by (exact ex_str_take t k rfl rfl (congrArg (Value.int .i64) hk) (by kernel_rfl) (by omega) (by omega) _)) ?_
       try simp only [pp]
       refine mx 4 105 (.bool false) rfl (fun W hW => by (exact ex_ne_lit (a := (pcsOf ot t fr true).reverse.flatten) (b := t.take k) (by kernel_rfl) hfb)) <| mk 5 106 (.bool false) ?_
       try simp only [pp]
       refine mx 6 107 (.string (bs ((pcsOf ot t fr false).flatten))) rfl (fun W hW => by (exact ld1 9 _ rfl bh 0 rfl (fun _ => by kernel_rfl) _ ((hbh.later hW).cell 0))) ?_
       try simp only [pp]
       refine mx 7 108 (.string (bs t)) rfl (fun W hW => by (exact ld1 9 _ rfl tb 0 rfl (fun _ => by kernel_rfl) _ ((htb.later hW).cell 0))) <| mk 8 109 (.int .i64 fr) ?_
       try simp only [pp]
       refine mx 9 110 (.string (bs (t.drop k))) rfl (fun W hW => by (exact ex_str_drop t k rfl rfl (congrArg (Value.int .i64) hk) (by kernel_rfl) (by omega) (by omega) _)) ?_
       try simp only [pp]
       refine mx 10 111 (.bool false) rfl (fun W hW => by (exact ex_ne_lit (a := (pcsOf ot t fr false).flatten) (b := t.drop k) (by kernel_rfl) hff)) <| mk 11 112 (.bool false) ?_
       try simp only [pp]
       refine rm_done (by kernel_rfl) (fun w55 hL55 hS55 => hgo.out _ _ ?_) _
       clear hgo K54
       replace hT := hT.later (show Ltr w43d _ from hS55)
       replace hB := hB.later (show Ltr w43d _ from hS55)
       replace hP := hP.later (show Ltr w43d _ from hS55)
       replace hrv := hrv.later (show Ltr w43d _ from hS55)
       replace hbk := hbk.later (show Ltr w43d _ from hS55)
       replace hro := hro.later (show Ltr w43d _ from hS55)
       replace htb := htb.later (show Ltr w43d _ from hS55)
       replace hah := hah.later (show Ltr w43d _ from hS55)
       replace hbh := hbh.later (show Ltr w43d _ from hS55)
       replace hMs := hMs.later (show Ltr w43d _ from hS55)
       have hz55 := (show Ltr w43d _ from hS55).size
       have hy55 := hL55.size
       refine hKK53 _ _ <| wp_cond_false (by kernel_rfl) <| wp_skip <| hKK17 _ _ <| rl_begin fun hgK hgo => ?_
       refine tx 113 (.int .i64 (((i + 1 : Nat) : Int))) (by exact ex_arith (e := (i : Int) + 1) (r := ((i + 1 : Nat) : Int)) (by kernel_rfl) (by omega) (by omega)) <| tk 27 (.int .i64 (((i + 1 : Nat) : Int))) ?_
       simp only [pp]
       refine rl_end hgo ?_
       exact ⟨_, (by omega), fun gj => (#[.slice A l.length c, .int .i64 fr, undef, undef, .pointer (some ⟨rv, 0, none⟩), .pointer (some ⟨bk, 0, none⟩), .bool true, .int .i64 i, .pointer (some ⟨tb, 0, none⟩), .pointer (some ⟨ah, 0, none⟩), .pointer (some ⟨bh, 0, none⟩), .func (.func 76) #[] #[.pointer (some ⟨a3, 0, none⟩), .pointer (some ⟨b3, 0, none⟩), .pointer (some ⟨c3, 0, none⟩)], .func (.func 76) #[] #[.pointer (some ⟨a4, 0, none⟩), .pointer (some ⟨b4, 0, none⟩), .pointer (some ⟨c4, 0, none⟩)], u 13, u 14, .bool true, .bool false, .tuple #[.agg #[.slice A1 rs.length c1, .slice A2 rs.length c2], .bool true], .slice A l.length c, .tuple #[.agg #[.slice A1 rs.length c1, .slice A2 rs.length c2], .bool true], .agg #[.slice A1 rs.length c1, .slice A2 rs.length c2], .bool true, .bool true, .bool false, .pointer (some ⟨bk, 0, none⟩), .slice A1 rs.length c1, .int .i64 rs.length, .int .i64 (((i + 1 : Nat) : Int)), .bool true, .int .i64 i, .pointer (some ⟨bk, 1, none⟩), .slice A2 rs.length c2, .int .i64 i, .pointer (some ⟨gs, gt + i, none⟩), .string (bs t), u 35, u 36, u 37, u 38, u 39, u 40, u 41, u 42, u 43, u 44, u 45, u 46, u 47, u 48, .func (.func 76) #[] #[.pointer (some ⟨a3, 0, none⟩), .pointer (some ⟨b3, 0, none⟩), .pointer (some ⟨c3, 0, none⟩)], .bool false, .bool false, .func (.func 76) #[] #[.pointer (some ⟨a4, 0, none⟩), .pointer (some ⟨b4, 0, none⟩), .pointer (some ⟨c4, 0, none⟩)], .bool false, .bool false, .func (.func 76) #[] #[.pointer (some ⟨a3, 0, none⟩), .pointer (some ⟨b3, 0, none⟩), .pointer (some ⟨c3, 0, none⟩)], undef, u 57, u 58, u 59, u 60, u 61, u 62, u 63, u 64, u 65, u 66, u 67, u 68, u 69, u 70, .func (.func 76) #[] #[.pointer (some ⟨a4, 0, none⟩), .pointer (some ⟨b4, 0, none⟩), .pointer (some ⟨c4, 0, none⟩)], undef, u 73, u 74, u 75, u 76, u 77, u 78, u 79, u 80, u 81, u 82, u 83, u 84, u 85, u 86, .int .i64 fr, .bool false, .bool false, .int .i64 fr, .string (bs t), .int .i64 t.length, .bool false, .bool false, u 95, u 96, u 97, u 98, u 99, u 100, .string (bs ((pcsOf ot t fr true).reverse.flatten)), .string (bs t), .int .i64 fr, .string (bs (t.take k)), .bool false, .bool false, .string (bs ((pcsOf ot t fr false).flatten)), .string (bs t), .int .i64 fr, .string (bs (t.drop k)), .bool false, .bool false, .int .i64 (((i + 1 : Nat) : Int))]).getD gj undef, i + 1, (w37d.heap.size :: (w28.heap.size :: ds)), rfl, rfl, by omega, by assumption, by assumption, by assumption, by assumption, by assumption, hMs.top⟩
    case hs43 =>
     exact fun _ _ _ _ _ h _ => h.elim
   case hs37 =>
    exact fun _ _ _ _ _ h _ => h.elim
  ·refine tx 28 (.bool false) (by exact ex_bool (c := (i : Int) < rs.length) (by kernel_rfl) ⟨fun q => (by cases q), fun q => absurd q (by omega)⟩) ?_
   simp only [pp]
   refine rl_end hgo <| hKK15 _ _ <| wp_seq_k fun KK56 hKK56 => wp_cond_false (by kernel_rfl) <| wp_exit <| hKK12 _ _ <| wp_seq_k fun KK57 hKK57 => rl_begin fun hgK hgo => ?_
   refine rl_store1 rv (.bool true) rfl rfl (by kernel_rfl) rfl rfl (by kernel_rfl) hrv (by kernel_rfl) fun w58 hU58 hn58 => ?_
   have hz58 := hU58.size
   clear hP
   replace hT := hT.upd hU58 (by omega)
   replace hB := hB.upd hU58 (by omega)
   replace hbk := hbk.upd hU58 (by omega)
   replace hMs := hMs.upd hU58 (⟨_, _, hrv⟩)
   clear hrv
   have hrv := hn58
   clear hn58
   try simp only [pp]
   refine rl_end hgo <| hKK57 _ _ ?_
   refine wp_ret ?_
   try simp only [Exit.then, Exit.inBlock]
   refine bm_marks hMs ?_
   rintro w59 hK59
   replace hB := hB.kcn hK59 (by omega)
   replace hrv := hrv.kcn hK59 (by omega)
   refine bm_ret (v := .bool true) (res1 rfl (res_cell1 (b := rv) (v := .bool true) (by kernel_rfl) (fun _ => by kernel_rfl) hrv)) ?_
   exact ⟨rfl, hB⟩
end Go.Proofs.YtliphfgiaioebaaDoor
namespace Go.Proofs.YtliphfgiaioebaaDoor
set_option linter.unusedVariables false
set_option linter.unusedSimpArgs false
open Go.RowKit
theorem frozen_set (w : World) (a b : Addr) (v : Value) : (w.setCell a v).frozen? b = w.frozen? b := by
  unfold World.frozen? World.setCell
  simp only [Array.getElem?_modify]
  by_cases h : a.block = b.block
  · rw [if_pos h]
    cases w.heap[b.block]? with
    | none => rfl
    | some o => cases o <;> rfl
  · rw [if_neg h]
/-- one byte has been written -/
structure U8W (g j : Nat) (w w' : World) : Prop where
  upd : Upd g w w'
  cell : ∀ c v, w.cell? c = some v → (∀ x, v ≠ .int .u8 x) → w'.cell? c = some v
  was : ∃ x, w.cell? ⟨g, j, none⟩ = some (.int .u8 x)
theorem U8W.size {g j : Nat} {w w' : World} (h : U8W g j w w') : w'.heap.size = w.heap.size := h.upd.size
def nu8 : Value → Bool
  | .int .u8 _ => false
  | _ => true
theorem nu8_ne {v : Value} (h : nu8 v = true) : ∀ x, v ≠ .int .u8 x := fun x e => by subst e; cases h
theorem U8W.obj {g j : Nat} {w w' : World} (h : U8W g j w w') {D : Nat} {o : Obj} (ho : w.heap[D]? = some o) (hc : o.isCells = false) : D ≠ g := fun e => by
  subst e
  obtain ⟨x, hx⟩ := h.was
  unfold World.cell? at hx
  rw [ho] at hx
  cases o <;> simp_all [Obj.isCells]
theorem Blk.u8 {g j B : Nat} {t : TypeId} {cs : Array Value} {w w' : World} (hb : Blk w B t cs) (h : U8W g j w w') (hn : cs.toList.all nu8 = true) : Blk w' B t cs := hb.upd h.upd fun e => by
  subst e
  obtain ⟨x, hx⟩ := h.was
  rw [hb.cell] at hx
  obtain ⟨h1, h2⟩ := Array.getElem?_eq_some_iff.1 hx
  have := List.all_eq_true.1 hn cs[j] (Array.mem_toList_iff.2 (Array.getElem_mem h1))
  rw [h2] at this; cases this
theorem CellsAt.u8 {g j : Nat} {A : Option Addr} {xs : List Value} {w w' : World} (hc : CellsAt w A xs) (h : U8W g j w w') (hn : ∀ v ∈ xs, nu8 v = true) : CellsAt w' A xs := fun h0 => by
  obtain ⟨b, off, e, hcc⟩ := hc h0
  exact ⟨b, off, e, fun i v hi => h.cell _ _ (hcc i v hi) (nu8_ne (hn v (List.mem_of_getElem? hi)))⟩
theorem Two.u8 {g j B : Nat} {W w w' : World} (ht : Two B W w) (h : U8W g j w w') (_ : 0 ≤ 0) : Two B W w' := by
  obtain ⟨o, h1, h2⟩ := ht.na
  obtain ⟨p, h3, h4⟩ := ht.nb
  exact ht.step (by rw [h.upd.size]; exact Nat.le_refl _) (h.upd.block B (h.obj h1 h2)) (h.upd.block (B + 1) (h.obj h3 h4))
theorem Marks.u8 {g j n m : Nat} {ds : List Nat} {w w' : World} (hm : Marks n m ds w) (h : U8W g j w w') (_ : 0 ≤ 0) : Marks n m ds w' := ⟨fun D hD => ⟨(hm.1 D hD).1, (hm.1 D hD).2.1, (hm.1 D hD).2.2.upd h.upd (h.obj (hm.1 D hD).2.2 rfl)⟩, hm.2⟩
theorem ex_storeB {o : Oper} {ρ : Operand → Value} {ty : TypeId} {x y : Operand} {n g off c k : Nat} {l : List UInt8} {u : UInt8} {w : World} (ho : o.op = .store ty x y) (hb : BRow n w (some ⟨g, off, none⟩) c l) (hk : k < l.length)
    (hx : ρ x = .pointer (some ⟨g, off + k, none⟩)) (hy : ρ y = .int .u8 (u.toNat : Int)) (hn : (Tryd.prog.info? ty).map (·.size) = some 1) :
    ∃ w', (execOp ρ o).run Tryd.prog w = .ok .skip w' ∧ U8W g (off + k) w w' ∧ BRow n w' (some ⟨g, off, none⟩) c (l.set k u) ∧ n ≤ g := by
  obtain ⟨h1, h2, g', off', e, h3, h4, h5⟩ := hb
  cases e
  obtain ⟨hc, hf⟩ := h5 k hk
  have hst : (store (⟨g, off + k, none⟩ : Addr) (.int .u8 (u.toNat : Int))).run Tryd.prog w = .ok () (w.setCell ⟨g, off + k, none⟩ (.int .u8 (u.toNat : Int))) := by
    rw [run_store Tryd.prog w _ _ _ rfl, hc]; simp [hf]
  have hs : (storeVar ty ⟨g, off + k, none⟩ (.int .u8 (u.toNat : Int))).run Tryd.prog w = .ok () (w.setCell ⟨g, off + k, none⟩ (.int .u8 (u.toNat : Int))) := by
    cases hi' : Tryd.prog.info? ty with
    | none => simp [hi'] at hn
    | some f =>
      have hs : f.size = 1 := by simpa [hi'] using hn
      have ha : (⟨g, off + k, none⟩ : Addr).add 0 = ⟨g, off + k, none⟩ := by rw [add_none]; rfl
      simp [storeVar, sizeOf, typeInfo, hi', hs, Value.cells, storeCells, ha, hst]
  have hu : Upd g w (w.setCell ⟨g, off + k, none⟩ (.int .u8 (u.toNat : Int))) := ⟨rfl, rfl, rfl, by simp [World.setCell], fun q hq => by simp [World.setCell, Array.getElem?_modify, Ne.symm hq]⟩
  refine ⟨_, ?_, ⟨hu, fun a v hv hne => ?_, _, hc⟩, ⟨by rw [hu.size]; exact h1, by rw [List.length_set]; exact h2, g, off, rfl, h3, by rw [hu.size]; exact h4, fun i hi => ?_⟩, h3⟩
  · unfold execOp
    simp only [ho, hx, hy, Instr.storeAt, Instr.sureAddr, Sem.run_bind, Sem.run_pure, Result.andThen_ok, hs]
  · by_cases e : (⟨g, off + k, none⟩ : Addr) = a
    · subst e; rw [hc] at hv; cases hv; exact absurd rfl (hne _)
    · exact (World.cell?_setCell_other _ _ _ _ e).trans hv
  · rw [List.length_set] at hi
    rw [frozen_set]
    refine ⟨?_, (h5 i hi).2⟩
    by_cases e : i = k
    · subst e
      rw [World.cell?_setCell_same _ _ _ hc]
      unfold gb; simp [List.getD_eq_getElem?_getD, hi]
    · rw [World.cell?_setCell_other _ _ _ _ (by intro h; have := congrArg Addr.off h; simp only at this; omega)]
      rw [(h5 i hi).1]
      unfold gb; simp [List.getD_eq_getElem?_getD, List.getElem?_set, Ne.symm e]
theorem rj_upd {r : Option Nat} {P : Program} {ops : Array Oper} {K : Act → World → Prop} {o : Oper} {rest : List Oper} {a : Act} {w : World} {R : World → Prop} (hd : o.dst = none) (hw : Region.wanted o (yielded ops a.tmps) = true) (he : ∃ w', (execOp a.eval o).run P w = .ok .skip w' ∧ R w')
    (h : ∀ w', R w' → wpJ r P ops K rest (a.put none undef) w') : wpJ r P ops K (o :: rest) a w := by
  unfold wpJ; rw [if_pos hw]
  obtain ⟨w', hr, hR⟩ := he
  exact wpIn_skp hr (hd ▸ h w' hR)
def noDef (ops : Array Oper) : Bool := ops.all fun o => match o.op with | .defer _ => false | _ => true
theorem noDef_spec {ops : Array Oper} (h : noDef ops = true) {i : Nat} {o : Oper} (hi : ops[i]? = some o) : ∀ c, o.op ≠ .defer c := fun c e => by
  obtain ⟨h1, h2⟩ := Array.getElem?_eq_some_iff.1 hi
  unfold noDef at h
  rw [Array.all_eq_true] at h
  have := h i h1
  rw [h2, e] at this; cases this
section
variable {r : Option Nat} {P : Program} {ops : Array Oper} {K : Act → World → Prop} {Q : Exit → Act → World → Prop}
theorem wp_fn {o : Oper} {a : Act} {w : World} {K' : Act → World → Prop} (hnd : ∀ c, o.op ≠ .defer c) (h : o.wp P a w K' (Ko K)) : o.wpIn (Fn r) 0 P a w K' (Ko K) := by
  refine ⟨fun f _ => Fn_fn r f, ?_⟩
  rw [Oper.semAt_eq _ _ _ hnd]
  unfold Oper.wp at h
  generalize (execOp a.eval o).run P w = x at h ⊢
  cases x with
  | ok v w' =>
    cases v with
    | value v => exact h
    | skip => exact h
    | defer d => exact h
    | enter f args =>
      rw [Oper.uponIn_enter]; rw [Oper.upon_enter] at h
      exact ⟨Fn_depth r 0, Fn_calls (h.mono fun e w h => by cases e <;> exact h)⟩
    | row row args =>
      rw [Oper.uponIn_row]
      refine ⟨Fn_depth r 0, fun c cs _ => ?_⟩
      obtain ⟨v, w'', h1, h2⟩ := h c cs
      refine ⟨v, w'', h1, ?_⟩
      rw [show Machine.fenced P (Fn r) = Machine.fenced P Fence.wide by cases r <;> (unfold Fn; rfl)]
      exact stepsIn_wide.2 h2
    | _ => exact h.elim
  | halt s w' => cases s <;> first | exact h | exact h.elim
theorem wpOp_fn {i : Nat} {a : Act} {w : World} {K' : Act → World → Prop} (hnd : noDef ops = true) (h : wpOp P ops (Ko K) i K' a w) : wpOpIn (Fn r) 0 P ops (Ko K) i K' a w := by
  unfold wpOp at h
  unfold wpOpIn
  cases hi : ops[i]? with
  | none => simpa only [hi] using h
  | some o =>
    simp only [hi] at h ⊢
    split at h
    · rename_i hw
      rw [if_pos hw]
      rcases h with h | ⟨-, a', w', e, -⟩
      · exact wp_fn (noDef_spec hnd hi) h
      · cases e
    · rename_i hw
      rw [if_neg hw]
      exact ⟨fun f _ => Fn_fn r f, h⟩
theorem wpAny_fn (hnd : noDef ops = true) : ∀ (fuel : Nat) (listed : Array Bool) (a : Act) (w : World), wpAny P .any ops (Ko K) fuel listed a w → wpAnyIn (Fn r) 0 P .any ops (Ko K) fuel listed a w
  | 0, _, _, _, h => h
  | fuel + 1, _, _, _, h => ⟨h.1, fun i hi => wpOpIn_mono (fun a w => wpAny_fn hnd fuel _ a w) (wpOp_fn hnd (h.2 i hi))⟩
theorem rm_beginF {id : Nat} {a : Act} {w : World} (S : World → Prop) (hm : P.follows .mixedOrders = true) (hS : S w.drew)
    (h : ∀ K : Act → World → Prop, RowKit.Hid (∀ a w, Q .normal a w → K a w) → ∀ w0, w0 = w.drew → S w0 → wpM P ops K S ops.size (Array.replicate ops.size false) a w0) (hnd : noDef ops = true := by kernel_rfl) :
    (Code.region id ops true).wpIn (Fn r) 0 P Q a w := by
  have h1 := h (fun a w => Q .normal a w) (Lib.hid fun _ _ h => h) _ rfl hS
  exact wpIn_mono (wpIn_region_any hm (wpAny_fn hnd _ _ _ _ (wpM_any _ _ _ _ hS h1))) (fun e a w h => by obtain ⟨rfl, h⟩ := h; exact h)
end
theorem Marks.gr {n m : Nat} {ds : List Nat} {v : Value} {w w' : World} (h : Marks n m ds w) (hg : w.grownBy w' v.ownBlock) (ho : ∃ q E xs, Own q E w v xs) : Marks n m ds w' := ⟨fun D hD => ⟨(h.1 D hD).1, (h.1 D hD).2.1, (hg.block D (h.1 D hD).2.2.lt fun e => by
  obtain ⟨q, E, xs, ho⟩ := ho
  have hM := (h.1 D hD).2.2
  have h1 : w.heap[D]? = some (.deferred (some [])) := hM
  rcases ho.2.2 with ⟨rfl, _⟩ | ⟨g, cap, cur, rfl, _, hgb, _⟩
  · simp [Value.ownBlock] at e
  · obtain rfl : D = g := by simpa [Value.ownBlock] using e
    rw [hgb] at h1; cases h1).trans (h.1 D hD).2.2⟩, h.2⟩
end Go.Proofs.YtliphfgiaioebaaDoor
