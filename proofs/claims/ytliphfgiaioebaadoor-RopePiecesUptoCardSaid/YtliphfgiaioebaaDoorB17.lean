/-
  Law 9: RopePieces' function.
  The four laid variables: what the rows' list says of their cells.
  Law 9: an input's acts and bytes, opened; read again behind the call; a world that the cards start from.
  RopePieces, where what it reads is of bulk at most 1048576: whatever the acts and the place, it answers true, and its input reads as it did.
-/
import Derived.Test.YtliphfgiaioebaaDoorB16
import Derived.Test.YtliphfgiaioebaaDoorCards
import Derived.Test.YtliphfgiaioebaaDoorTie
import Derived.Lib.LaidTab
import Derived.Deep.Strs
import Derived.OpenShut
import Derived.ProofKit
import Derived.Deep.DeepHandedRow
import Derived.Deep.Slices
import Derived.Deep.Fields
import Derived.ChangeSame
namespace Go.Proofs.YtliphfgiaioebaaDoor
set_option linter.unusedVariables false
set_option linter.unusedSimpArgs false
open Go.RowKit
set_option maxRecDepth 100000
set_option maxHeartbeats 16000000
/-- the iterator's captured variables, by themselves -/
def PiecesB (b : Nat) (f : Int) (back : Bool) (w : World) (e : Ending) (w' : World) : Prop :=
  ∃ p q r, e = .returned (.func (.func 76) #[] #[.pointer (some ⟨p, 0, none⟩), .pointer (some ⟨q, 0, none⟩), .pointer (some ⟨r, 0, none⟩)]) ∧ Ltr w w' ∧
    Blk w' p 31 #[.pointer (some ⟨b, 0, none⟩)] ∧ Blk w' q 3 #[.int .i64 f] ∧ Blk w' r 4 #[.bool back] ∧ w.heap.size ≤ p ∧ w.heap.size ≤ q ∧ w.heap.size ≤ r
theorem Pieces_blk (b : Nat) (f : Int) (back : Bool) (w : World) : Calls Tryd.prog 32 #[.pointer (some ⟨b, 0, none⟩), .int .i64 f, .bool back] w (PiecesB b f back w) := by
  have hB := Ltr.refl w
  go_enter Tryd.func32, Tryd.ntmps32
  refine wp_seq_k fun KK1 hKK1 => rl_begin fun hgK hgo => ?_
  refine rl_alloc (some 3) 31 #[.pointer (some ⟨b, 0, none⟩)] rfl (by kernel_rfl) (fun W => by kernel_rfl) fun p w2 hL2 hp2 hp => ?_
  replace hB := hB.later hL2
  have hz2 := hL2.size
  have hlt2 := hp.lt
  try simp only [pp]
  refine rl_alloc (some 4) 3 #[.int .i64 f] rfl (by kernel_rfl) (fun W => by kernel_rfl) fun q w3 hL3 hp3 hq => ?_
  replace hB := hB.later hL3
  replace hp := hp.later hL3
  have hz3 := hL3.size
  have hlt3 := hq.lt
  try simp only [pp]
  refine rl_alloc (some 5) 4 #[.bool back] rfl (by kernel_rfl) (fun W => by kernel_rfl) fun r_ w4 hL4 hp4 hr_ => ?_
  replace hB := hB.later hL4
  replace hp := hp.later hL4
  replace hq := hq.later hL4
  have hz4 := hL4.size
  have hlt4 := hr_.lt
  try simp only [pp]
  refine tk 6 .nilFunc ?_
  simp only [pp]
  refine rl_end hgo <| hKK1 _ _ <| wp_seq_k fun KK5 hKK5 => rl_begin fun hgK hgo => tk 7 (.func (.func 76) #[] #[.pointer (some ⟨p, 0, none⟩), .pointer (some ⟨q, 0, none⟩), .pointer (some ⟨r_, 0, none⟩)]) <| tk 6 (.func (.func 76) #[] #[.pointer (some ⟨p, 0, none⟩), .pointer (some ⟨q, 0, none⟩), .pointer (some ⟨r_, 0, none⟩)]) ?_
  simp only [pp]
  refine rl_end hgo <| hKK5 _ _ ?_
  refine wp_ret ?_
  try simp only [Exit.then, Exit.inBlock]
  refine bp_ret (v := .func (.func 76) #[] #[.pointer (some ⟨p, 0, none⟩), .pointer (some ⟨q, 0, none⟩), .pointer (some ⟨r_, 0, none⟩)]) (res1 rfl (res_tmp (by kernel_rfl))) ?_
  exact ⟨p, q, r_, rfl, hB, hp, hq, hr_, by omega, by omega, by omega⟩
theorem flat_len_rev (ps : List (List UInt8)) : ps.reverse.flatten.length = ps.flatten.length := by
  rw [List.length_flatten, List.map_reverse, List.sum_reverse, ← List.length_flatten]
theorem pcs_facts {n : Nat} {w : World} {b : Nat} {l : List UInt8} {v : Value} {ot : Option Tr} (h : RopeN n w b l v ot) (fr : Int) (back : Bool) : (∀ p ∈ pcsOf ot l fr back, 0 < p.length) ∧ (pcsOf ot l fr back).flatten.length ≤ l.length := by
  by_cases hin : 0 ≤ fr ∧ fr ≤ (l.length : Int)
  · obtain ⟨k, rfl⟩ := Int.eq_ofNat_of_zero_le hin.1
    cases back
    · obtain ⟨h1, h2⟩ := pcs_flatF h k (by omega)
      exact ⟨h2, by rw [show pcsOf ot l (k : Int) false = pcsOf ot l k false from rfl] at *; rw [h1, List.length_drop]; omega⟩
    · obtain ⟨h1, h2⟩ := pcs_flatB h k (by omega)
      exact ⟨h2, by rw [← flat_len_rev]; rw [show pcsOf ot l (k : Int) true = pcsOf ot l k true from rfl] at *; rw [h1, List.length_take]; omega⟩
  · rw [pcs_out ot l fr back hin]; exact ⟨by simp, by simp⟩
theorem pc_ok {ps : List (List UInt8)} {pre : List Pc} {A : Option Addr} {c : Nat} {p : List UInt8} {m : Nat} (hf : (∀ p ∈ ps, 0 < p.length) ∧ ps.flatten.length ≤ m) (h : PcOk ps (pre ++ [(A, c, p)])) : 0 < p.length ∧ ((pre.map pcB).flatten).length + p.length ≤ m ∧ ((pre.map pcB).reverse.flatten).length + p.length ≤ m := by
  have hl := pcok_len h
  obtain ⟨r, hr⟩ := h
  have h1 : p ∈ ps := by rw [← hr]; simp [pcB]
  have h2 : ((pre ++ [(A, c, p)]).map pcB).flatten.length = ((pre.map pcB).flatten).length + p.length := by simp [pcB]
  refine ⟨hf.1 p h1, by have := hf.2; omega, ?_⟩
  rw [flat_len_rev]; have := hf.2; omega
theorem acc_back (pre : List Pc) (A : Option Addr) (c : Nat) (p : List UInt8) : ((pre ++ [(A, c, p)]).map pcB).reverse.flatten = p ++ (pre.map pcB).reverse.flatten := by simp [pcB]
theorem acc_fore (pre : List Pc) (A : Option Addr) (c : Nat) (p : List UInt8) : ((pre ++ [(A, c, p)]).map pcB).flatten = (pre.map pcB).flatten ++ p := by simp [pcB]
theorem RopePieces_walk {n : Nat} (A : Option Addr) (c : Nat) (l : List ActD) (fr : Int) (w : World) (hT : Tabs w) (hA : ActsAt n w A l) (hc : l.length ≤ c) (hm : l.length ≤ 1100000) :
    Calls Tryd.prog 7 #[.slice A l.length c, .int .i64 fr] w fun e w' => e = .returned (.bool true) ∧ Ltr w w' := by
  have hB := Ltr.refl w
  refine (callsIn_wide (n := 0)).1 ?_
  refine callsIn_of_wp_marks Tryd.func7 rfl trivial ?_ rfl
  simp only [Tryd.ntmps7, List.size_toArray, List.length_cons, List.length_nil, Nat.reduceAdd, Nat.reduceSub, Array.replicate_succ, Array.replicate_zero, List.push_toArray, List.append_toArray, List.nil_append, List.cons_append]
  refine (wpIn_wide (n := 0)).2 ?_
  have hMs : Marks w.heap.size w.heap.size [] w := Marks.nil _ _ _
  have h4 := hT.four
  refine wp_seq_k fun KK1 hKK1 => rl_begin fun hgK hgo => ?_
  refine rl_alloc (some 4) 4 #[.bool false] rfl (by kernel_rfl) (fun W => by kernel_rfl) fun rv w2 hL2 hp2 hrv => ?_
  replace hT := hT.later hL2
  replace hB := hB.later hL2
  replace hA := hA.later hL2
  replace hMs := hMs.later hL2
  have hz2 := hL2.size
  have hlt2 := hrv.lt
  try simp only [pp]
  refine rl_end hgo <| hKK1 _ _ <| wp_seq_k fun KK3 hKK3 => wp_seq_k fun KK4 hKK4 => rl_begin fun hgK hgo => ?_
  refine rl_call (some 15) 17 #[] rfl (by kernel_rfl) (by kernel_rfl) (wakes_any _ hT) ?_
  rintro e w5 ⟨rfl, hL5⟩
  refine ⟨_, rfl, ?_⟩
  replace hT := hT.later hL5
  replace hB := hB.later hL5
  replace hA := hA.later hL5
  replace hMs := hMs.later hL5
  replace hrv := hrv.later hL5
  have hz5 := hL5.size
  try simp only [pp]
  refine tk 16 (.bool false) ?_
  simp only [pp]
  refine rl_end hgo <| hKK4 _ _ <| wp_cond_false (by kernel_rfl) <| wp_skip <| hKK3 _ _ <| wp_seq_k fun KK6 hKK6 => rl_begin fun hgK hgo => tk 18 (.slice A l.length c) ?_
  simp only [pp]
  refine rl_call (some 19) 18 #[.slice A l.length c] rfl (by kernel_rfl) (by kernel_rfl) (play_r A c l _ hT hA hc hm) ?_
  rintro e w7 ⟨A1, A2, c1, c2, rs, N, rfl, hL7, hP, hN⟩
  refine ⟨_, rfl, ?_⟩
  replace hT := hT.later hL7
  replace hB := hB.later hL7
  replace hA := hA.later hL7
  replace hMs := hMs.later hL7
  replace hrv := hrv.later hL7
  have hz7 := hL7.size
  have hrl := hP.len
  clear hA
  try simp only [pp]
  refine tk 17 (.tuple #[.agg #[.slice A1 rs.length c1, .slice A2 rs.length c2], .bool true]) <| tk 20 (.agg #[.slice A1 rs.length c1, .slice A2 rs.length c2]) <| tk 21 (.bool true) ?_
  simp only [pp]
  refine rl_alloc (some 5) 27 #[.slice none 0 0, .slice none 0 0] rfl (by kernel_rfl) (fun W => by kernel_rfl) fun bk w8 hL8 hp8 hbk => ?_
  replace hT := hT.later hL8
  replace hB := hB.later hL8
  replace hMs := hMs.later hL8
  replace hrv := hrv.later hL8
  replace hP := hP.later hL8
  have hz8 := hL8.size
  have hlt8 := hbk.lt
  try simp only [pp]
  refine rl_store bk #[.slice A1 rs.length c1, .slice A2 rs.length c2] rfl rfl (by kernel_rfl) rfl rfl (by kernel_rfl) hbk rfl (by kernel_rfl) fun w9 hU9 hn9 => ?_
  have hz9 := hU9.size
  replace hT := hT.upd hU9 (by omega)
  replace hB := hB.upd hU9 (by omega)
  replace hMs := hMs.upd hU9 (⟨_, _, hbk⟩)
  replace hrv := hrv.upd hU9 (by omega)
  replace hP := hP.upd hU9 (by omega)
  clear hbk
  have hbk := hn9
  clear hn9
  try simp only [pp]
  refine tk 6 (.bool true) ?_
  simp only [pp]
  refine rl_end hgo <| hKK6 _ _ <| wp_seq_k fun KK10 hKK10 => wp_seq_k fun KK11 hKK11 => rl_begin fun hgK hgo => tk 22 (.bool true) <| tk 23 (.bool false) ?_
  simp only [pp]
  refine rl_end hgo <| hKK11 _ _ <| wp_cond_false (by kernel_rfl) <| wp_skip <| hKK10 _ _ <| wp_seq_k fun KK12 hKK12 => wp_seq_k fun KK13 hKK13 => rl_begin fun hgK hgo => tk 24 (.pointer (some ⟨bk, 0, none⟩)) ?_
  simp only [pp]
  refine tx 25 (.slice A1 rs.length c1) (by exact ld1 24 _ rfl bk 0 rfl (fun _ => by kernel_rfl) _ (hbk.cell 0)) <| tk 26 (.int .i64 rs.length) <| tk 27 (.int .i64 0) ?_
  simp only [pp]
  refine rl_end hgo <| hKK13 _ _ <| wp_block ?_
  refine wp_loop_ghost (fun gn ga wl => ∃ (u : Nat → Value) (i : Nat) (ds : List Nat), gn = rs.length - i ∧ ga = ⟨#[.slice A l.length c, .int .i64 fr, undef, undef, .pointer (some ⟨rv, 0, none⟩), .pointer (some ⟨bk, 0, none⟩), .bool true, u 7, u 8, u 9, u 10, u 11, u 12, u 13, u 14, .bool true, .bool false, .tuple #[.agg #[.slice A1 rs.length c1, .slice A2 rs.length c2], .bool true], .slice A l.length c, .tuple #[.agg #[.slice A1 rs.length c1, .slice A2 rs.length c2], .bool true], .agg #[.slice A1 rs.length c1, .slice A2 rs.length c2], .bool true, .bool true, .bool false, .pointer (some ⟨bk, 0, none⟩), .slice A1 rs.length c1, .int .i64 rs.length, .int .i64 i, u 28, u 29, u 30, u 31, u 32, u 33, u 34, u 35, u 36, u 37, u 38, u 39, u 40, u 41, u 42, u 43, u 44, u 45, u 46, u 47, u 48, u 49, u 50, u 51, u 52, u 53, u 54, u 55, undef, u 57, u 58, u 59, u 60, u 61, u 62, u 63, u 64, u 65, u 66, u 67, u 68, u 69, u 70, u 71, undef, u 73, u 74, u 75, u 76, u 77, u 78, u 79, u 80, u 81, u 82, u 83, u 84, u 85, u 86, u 87, u 88, u 89, u 90, u 91, u 92, u 93, u 94, u 95, u 96, u 97, u 98, u 99, u 100, u 101, u 102, u 103, u 104, u 105, u 106, u 107, u 108, u 109, u 110, u 111, u 112, u 113], ds.map mkd⟩ ∧ (i ≤ rs.length) ∧ (Tabs wl) ∧ (Ltr w wl) ∧ (Ropes N A1 A2 rs wl) ∧ (Blk wl rv 4 #[.bool false]) ∧ (Blk wl bk 27 #[.slice A1 rs.length c1, .slice A2 rs.length c2]) ∧ (Marks w.heap.size wl.heap.size ds wl)) ((fun (i : Nat) (ds : List Nat) => (rs.length - i : Nat)) 0 []) ?_ ?_
  ·exact ⟨fun gj => (#[.slice A l.length c, .int .i64 fr, undef, undef, .pointer (some ⟨rv, 0, none⟩), .pointer (some ⟨bk, 0, none⟩), .bool true, undef, undef, undef, undef, undef, undef, undef, undef, .bool true, .bool false, .tuple #[.agg #[.slice A1 rs.length c1, .slice A2 rs.length c2], .bool true], .slice A l.length c, .tuple #[.agg #[.slice A1 rs.length c1, .slice A2 rs.length c2], .bool true], .agg #[.slice A1 rs.length c1, .slice A2 rs.length c2], .bool true, .bool true, .bool false, .pointer (some ⟨bk, 0, none⟩), .slice A1 rs.length c1, .int .i64 rs.length, .int .i64 0, undef, undef, undef, undef, undef, undef, undef, undef, undef, undef, undef, undef, undef, undef, undef, undef, undef, undef, undef, undef, undef, undef, undef, undef, undef, undef, undef, undef, undef, undef, undef, undef, undef, undef, undef, undef, undef, undef, undef, undef, undef, undef, undef, undef, undef, undef, undef, undef, undef, undef, undef, undef, undef, undef, undef, undef, undef, undef, undef, undef, undef, undef, undef, undef, undef, undef, undef, undef, undef, undef, undef, undef, undef, undef, undef, undef, undef, undef, undef, undef, undef, undef, undef, undef, undef, undef]).getD gj undef, 0, [], rfl, rfl, Nat.zero_le _, by assumption, by assumption, by assumption, by assumption, by assumption, hMs.top⟩
  rintro n14 a14 w14 ⟨u, i, ds, rfl, rfl, hil', hT', hB', hP', hrv', hbk', hMs'⟩
  clear hbk hP hrv hMs hB hT
  have hil := hil'
  clear hil'
  have hT := hT'
  clear hT'
  have hB := hB'
  clear hB'
  have hP := hP'
  clear hP'
  have hrv := hrv'
  clear hrv'
  have hbk := hbk'
  clear hbk'
  have hMs := hMs'
  clear hMs'
  have hlt_hrv_14 := hrv.lt
  have hlt_hbk_14 := hbk.lt
  refine wp_seq_k fun KK15 hKK15 => rl_begin fun hgK hgo => ?_
  by_cases h1 : (i : Int) < rs.length
  ·refine tx 28 (.bool true) (by exact ex_bool (c := (i : Int) < rs.length) (by kernel_rfl) ⟨fun _ => by omega, fun _ => rfl⟩) ?_
   simp only [pp]
   refine rl_end hgo <| hKK15 _ _ <| wp_seq_k fun KK16 hKK16 => wp_cond_true (by kernel_rfl) <| wp_skip <| hKK16 _ _ <| wp_seq_k fun KK17 hKK17 => wp_block <| wp_seq_k fun KK18 hKK18 => rl_begin fun hgK hgo => ?_
   (obtain ⟨b, t, hbt⟩ := rope_i i (by omega : i < rs.length)); (have htl := hP.lt hbt); (obtain ⟨gb, go', he1, hgn, -⟩ := hP.p i (by omega)); (obtain ⟨gs, gt, he2, hgn2, -⟩ := hP.s i (by omega)); (have hNs := hP.size); (have hbs := hB.size)
   refine tk 29 (.int .i64 i) <| tk 7 (.int .i64 i) ?_
   simp only [pp]
   refine rl_end hgo <| hKK18 _ _ <| wp_seq_k fun KK19 hKK19 => rl_begin fun hgK hgo => tk 30 (.pointer (some ⟨bk, 1, none⟩)) ?_
   simp only [pp]
   refine tx 31 (.slice A2 rs.length c2) (by exact ld1 25 _ rfl bk 1 rfl (fun _ => by kernel_rfl) _ (hbk.cell 1)) <| tk 32 (.int .i64 i) ?_
   simp only [pp]
   refine tx 33 (.pointer (some ⟨gs, gt + i, none⟩)) (by exact ex_indexA i rfl rfl he2 rfl (by kernel_rfl) (fun _ => by kernel_rfl) (by omega) _) ?_
   simp only [pp]
   refine tx 34 (.string (bs t)) (by exact ld1 9 _ rfl gs (gt + i) rfl (fun _ => by kernel_rfl) _ (hP.sc he2 (strs_at hbt))) ?_
   simp only [pp]
   refine rl_alloc (some 8) 9 #[.string ⟨#[]⟩] rfl (by kernel_rfl) (fun W => by kernel_rfl) fun tb w20 hL20 hp20 htb => ?_
   replace hT := hT.later hL20
   replace hB := hB.later hL20
   replace hP := hP.later hL20
   replace hrv := hrv.later hL20
   replace hbk := hbk.later hL20
   replace hMs := hMs.later hL20
   have hz20 := hL20.size
   have hlt20 := htb.lt
   try simp only [pp]
   refine rl_store1 tb (.string (bs t)) rfl rfl (by kernel_rfl) rfl rfl (by kernel_rfl) htb (by kernel_rfl) fun w21 hU21 hn21 => ?_
   have hz21 := hU21.size
   replace hT := hT.upd hU21 (by omega)
   replace hB := hB.upd hU21 (by omega)
   replace hP := hP.upd hU21 (by omega)
   replace hrv := hrv.upd hU21 (by omega)
   replace hbk := hbk.upd hU21 (by omega)
   replace hMs := hMs.upd hU21 (⟨_, _, htb⟩)
   clear htb
   have htb := hn21
   clear hn21
   try simp only [pp]
   refine rl_end hgo <| hKK19 _ _ <| wp_seq_k fun KK22 hKK22 => rl_begin fun hgK hgo => ?_
   refine rl_alloc (some 9) 9 #[.string ⟨#[]⟩] rfl (by kernel_rfl) (fun W => by kernel_rfl) fun ah w23 hL23 hp23 hah => ?_
   replace hT := hT.later hL23
   replace hB := hB.later hL23
   replace hP := hP.later hL23
   replace hrv := hrv.later hL23
   replace hbk := hbk.later hL23
   replace hMs := hMs.later hL23
   replace htb := htb.later hL23
   have hz23 := hL23.size
   have hlt23 := hah.lt
   try simp only [pp]
   refine rl_alloc (some 10) 9 #[.string ⟨#[]⟩] rfl (by kernel_rfl) (fun W => by kernel_rfl) fun bh w24 hL24 hp24 hbh => ?_
   replace hT := hT.later hL24
   replace hB := hB.later hL24
   replace hP := hP.later hL24
   replace hrv := hrv.later hL24
   replace hbk := hbk.later hL24
   replace hMs := hMs.later hL24
   replace htb := htb.later hL24
   replace hah := hah.later hL24
   have hz24 := hL24.size
   have hlt24 := hbh.lt
   try simp only [pp]
   refine rl_store1 ah (.string { data := #[] }) rfl rfl (by kernel_rfl) rfl rfl (by kernel_rfl) hah (by kernel_rfl) fun w25 hU25 hn25 => ?_
   have hz25 := hU25.size
   replace hT := hT.upd hU25 (by omega)
   replace hB := hB.upd hU25 (by omega)
   replace hP := hP.upd hU25 (by omega)
   replace hrv := hrv.upd hU25 (by omega)
   replace hbk := hbk.upd hU25 (by omega)
   replace hMs := hMs.upd hU25 (⟨_, _, hah⟩)
   replace htb := htb.upd hU25 (by omega)
   replace hbh := hbh.upd hU25 (by omega)
   clear hah
   have hah := hn25
   clear hn25
   try simp only [pp]
   refine rl_store1 bh (.string { data := #[] }) rfl rfl (by kernel_rfl) rfl rfl (by kernel_rfl) hbh (by kernel_rfl) fun w26 hU26 hn26 => ?_
   have hz26 := hU26.size
   replace hT := hT.upd hU26 (by omega)
   replace hB := hB.upd hU26 (by omega)
   replace hP := hP.upd hU26 (by omega)
   replace hrv := hrv.upd hU26 (by omega)
   replace hbk := hbk.upd hU26 (by omega)
   replace hMs := hMs.upd hU26 (⟨_, _, hbh⟩)
   replace htb := htb.upd hU26 (by omega)
   replace hah := hah.upd hU26 (by omega)
   clear hbh
   have hbh := hn26
   clear hn26
   try simp only [pp]
   refine rl_end hgo <| hKK22 _ _ <| wp_seq_k fun KK27 hKK27 => ?_
   (obtain ⟨v, ot, hro⟩ := hP.rn hbt); (have hfB := pcs_facts hro fr true); (have hfF := pcs_facts hro fr false)
   refine wp_meet (fun ga wl => ∃ (u : Nat → Value) (a3 b3 c3 a4 b4 c4 : Nat), ga = ⟨#[.slice A l.length c, .int .i64 fr, undef, undef, .pointer (some ⟨rv, 0, none⟩), .pointer (some ⟨bk, 0, none⟩), .bool true, .int .i64 i, .pointer (some ⟨tb, 0, none⟩), .pointer (some ⟨ah, 0, none⟩), .pointer (some ⟨bh, 0, none⟩), .func (.func 76) #[] #[.pointer (some ⟨a3, 0, none⟩), .pointer (some ⟨b3, 0, none⟩), .pointer (some ⟨c3, 0, none⟩)], .func (.func 76) #[] #[.pointer (some ⟨a4, 0, none⟩), .pointer (some ⟨b4, 0, none⟩), .pointer (some ⟨c4, 0, none⟩)], u 13, u 14, .bool true, .bool false, .tuple #[.agg #[.slice A1 rs.length c1, .slice A2 rs.length c2], .bool true], .slice A l.length c, .tuple #[.agg #[.slice A1 rs.length c1, .slice A2 rs.length c2], .bool true], .agg #[.slice A1 rs.length c1, .slice A2 rs.length c2], .bool true, .bool true, .bool false, .pointer (some ⟨bk, 0, none⟩), .slice A1 rs.length c1, .int .i64 rs.length, .int .i64 i, .bool true, .int .i64 i, .pointer (some ⟨bk, 1, none⟩), .slice A2 rs.length c2, .int .i64 i, .pointer (some ⟨gs, gt + i, none⟩), .string (bs t), u 35, u 36, u 37, u 38, u 39, u 40, u 41, u 42, u 43, u 44, u 45, u 46, u 47, u 48, u 49, u 50, u 51, u 52, u 53, u 54, u 55, undef, u 57, u 58, u 59, u 60, u 61, u 62, u 63, u 64, u 65, u 66, u 67, u 68, u 69, u 70, u 71, undef, u 73, u 74, u 75, u 76, u 77, u 78, u 79, u 80, u 81, u 82, u 83, u 84, u 85, u 86, u 87, u 88, u 89, u 90, u 91, u 92, u 93, u 94, u 95, u 96, u 97, u 98, u 99, u 100, u 101, u 102, u 103, u 104, u 105, u 106, u 107, u 108, u 109, u 110, u 111, u 112, u 113], (ds).map mkd⟩ ∧ (bh < a4 ∧ bh < b4 ∧ bh < c4) ∧ (Tabs wl) ∧ (Ltr w wl) ∧ (Ropes N A1 A2 rs wl) ∧ (Blk wl rv 4 #[.bool false]) ∧ (Blk wl bk 27 #[.slice A1 rs.length c1, .slice A2 rs.length c2]) ∧ (RopeN N wl b t v ot) ∧ (Blk wl tb 9 #[.string (bs t)]) ∧ (Blk wl ah 9 #[.string (bs [])]) ∧ (Blk wl bh 9 #[.string (bs [])]) ∧ (Blk wl a3 31 #[.pointer (some ⟨b, 0, none⟩)]) ∧ (Blk wl b3 3 #[.int .i64 fr]) ∧ (Blk wl c3 4 #[.bool true]) ∧ (Blk wl a4 31 #[.pointer (some ⟨b, 0, none⟩)]) ∧ (Blk wl b4 3 #[.int .i64 fr]) ∧ (Blk wl c4 4 #[.bool false]) ∧ (Marks w.heap.size wl.heap.size ds wl)) ?_ ?_
   ·refine rm_begin (fun W => Ltr w26 W) (by kernel_rfl) (by exact bl_drew (bl_refl _)) fun K29 hgo w29 hE hS29 => ?_
    have hv29 : Ltr w26 w29 := by rw [hE]; exact bl_drew (bl_refl _)
    have hz29 := hv29.size
    clear hE hS29
    refine mk 0 35 (.pointer (some ⟨bk, 0, none⟩)) ?_
    try simp only [pp]
    refine mx 1 36 (.slice A1 rs.length c1) rfl (fun W hW => by (exact ld1 24 _ rfl bk 0 rfl (fun _ => by kernel_rfl) _ ((hbk.later hW).cell 0))) <| mk 2 37 (.int .i64 i) ?_
    try simp only [pp]
    refine mx 3 38 (.pointer (some ⟨gb, go' + i, none⟩)) rfl (fun W hW => by (exact ex_indexA i rfl rfl he1 rfl (by kernel_rfl) (fun _ => by kernel_rfl) (by omega) _)) ?_
    try simp only [pp]
    refine mx 4 39 (.pointer (some ⟨b, 0, none⟩)) rfl (fun W hW => by (exact ld1 31 _ rfl gb (go' + i) rfl (fun _ => by kernel_rfl) _ ((hP.later hW).pc he1 (ptrs_at hbt)))) <| mk 5 40 (.int .i64 fr) <| mk 7 42 (.pointer (some ⟨bk, 0, none⟩)) ?_
    try simp only [pp]
    refine mx 8 43 (.slice A1 rs.length c1) rfl (fun W hW => by (exact ld1 24 _ rfl bk 0 rfl (fun _ => by kernel_rfl) _ ((hbk.later hW).cell 0))) <| mk 9 44 (.int .i64 i) ?_
    try simp only [pp]
    refine mx 10 45 (.pointer (some ⟨gb, go' + i, none⟩)) rfl (fun W hW => by (exact ex_indexA i rfl rfl he1 rfl (by kernel_rfl) (fun _ => by kernel_rfl) (by omega) _)) ?_
    try simp only [pp]
    refine mx 11 46 (.pointer (some ⟨b, 0, none⟩)) rfl (fun W hW => by (exact ld1 31 _ rfl gb (go' + i) rfl (fun _ => by kernel_rfl) _ ((hP.later hW).pc he1 (ptrs_at hbt)))) <| mk 12 47 (.int .i64 fr) ?_
    try simp only [pp]
    refine rm_pick1 (i := 6) (by kernel_rfl) ?_
    refine rm_callx (some 41) 32 #[.pointer (some ⟨b, 0, none⟩), .int .i64 fr, .bool true] (oi := { dst := some 41, op := Go.Op.call { callee := Go.Callee.value (Go.Operand.func 32), args := #[Go.Operand.tmp 39, Go.Operand.tmp 40, Go.Operand.const (Go.Value.bool true)], argTypes := #[31, 3, 4] }, type := 64, pos := "law.go:268", after := #[{ on := 4, ground := Go.Ground.data }, { on := 5, ground := Go.Ground.data }], guard := none }) rfl rfl (by kernel_rfl) (fun W hW => by kernel_rfl) (fun W hlz hW => Pieces_blk b fr true W) (by rintro W e w' ⟨a3, b3, c3, rfl, hL30, hi0, hi1, hi2, hga, hgb, hgc⟩; exact hL30) (fun _ _ h k => Ltr.trans h k) ?_
    rintro q30 e w30 hq30 hQ30 ⟨a3, b3, c3, rfl, hL30, hi0, hi1, hi2, hga, hgb, hgc⟩ hS30
    refine ⟨_, rfl, ?_⟩
    have hz30 := hL30.size
    have hy30 := hq30.size
    try simp only [pp]
    refine rm_pick1 (i := 13) (by kernel_rfl) ?_
    refine rm_callx (some 48) 32 #[.pointer (some ⟨b, 0, none⟩), .int .i64 fr, .bool false] (oi := { dst := some 48, op := Go.Op.call { callee := Go.Callee.value (Go.Operand.func 32), args := #[Go.Operand.tmp 46, Go.Operand.tmp 47, Go.Operand.const (Go.Value.bool false)], argTypes := #[31, 3, 4] }, type := 64, pos := "law.go:268", after := #[{ on := 11, ground := Go.Ground.data }, { on := 12, ground := Go.Ground.data }, { on := 6, ground := Go.Ground.chain }], guard := none }) rfl rfl (by kernel_rfl) (fun W hW => by kernel_rfl) (fun W hlz hW => Pieces_blk b fr false W) (by rintro W e w' ⟨a4, b4, c4, rfl, hL31, hj0, hj1, hj2, hgd, hge, hgf⟩; exact hL31) (fun _ _ h k => Ltr.trans h k) ?_
    rintro q31 e w31 hq31 hQ31 ⟨a4, b4, c4, rfl, hL31, hj0, hj1, hj2, hgd, hge, hgf⟩ hS31
    refine ⟨_, rfl, ?_⟩
    replace hi0 := (hi0.later hq31).later hL31
    replace hi1 := (hi1.later hq31).later hL31
    replace hi2 := (hi2.later hq31).later hL31
    have hz31 := hL31.size
    have hy31 := hq31.size
    try simp only [pp]
    refine mk 14 11 (.func (.func 76) #[] #[.pointer (some ⟨a3, 0, none⟩), .pointer (some ⟨b3, 0, none⟩), .pointer (some ⟨c3, 0, none⟩)]) <| mk 15 12 (.func (.func 76) #[] #[.pointer (some ⟨a4, 0, none⟩), .pointer (some ⟨b4, 0, none⟩), .pointer (some ⟨c4, 0, none⟩)]) ?_
    try simp only [pp]
    refine rm_done (by kernel_rfl) (fun w32 hL32 hS32 => hgo.out _ _ ?_) _
    clear hgo K29
    replace hi0 := hi0.later hL32
    replace hi1 := hi1.later hL32
    replace hi2 := hi2.later hL32
    replace hj0 := hj0.later hL32
    replace hj1 := hj1.later hL32
    replace hj2 := hj2.later hL32
    replace hT := hT.later (show Ltr w26 _ from hS32)
    replace hB := hB.later (show Ltr w26 _ from hS32)
    replace hP := hP.later (show Ltr w26 _ from hS32)
    replace hrv := hrv.later (show Ltr w26 _ from hS32)
    replace hbk := hbk.later (show Ltr w26 _ from hS32)
    replace hMs := hMs.later (show Ltr w26 _ from hS32)
    replace htb := htb.later (show Ltr w26 _ from hS32)
    replace hah := hah.later (show Ltr w26 _ from hS32)
    replace hbh := hbh.later (show Ltr w26 _ from hS32)
    have hz32 := (show Ltr w26 _ from hS32).size
    have hy32 := hL32.size
    exact ⟨rfl, fun gj => (#[.slice A l.length c, .int .i64 fr, undef, undef, .pointer (some ⟨rv, 0, none⟩), .pointer (some ⟨bk, 0, none⟩), .bool true, .int .i64 i, .pointer (some ⟨tb, 0, none⟩), .pointer (some ⟨ah, 0, none⟩), .pointer (some ⟨bh, 0, none⟩), .func (.func 76) #[] #[.pointer (some ⟨a3, 0, none⟩), .pointer (some ⟨b3, 0, none⟩), .pointer (some ⟨c3, 0, none⟩)], .func (.func 76) #[] #[.pointer (some ⟨a4, 0, none⟩), .pointer (some ⟨b4, 0, none⟩), .pointer (some ⟨c4, 0, none⟩)], u 13, u 14, .bool true, .bool false, .tuple #[.agg #[.slice A1 rs.length c1, .slice A2 rs.length c2], .bool true], .slice A l.length c, .tuple #[.agg #[.slice A1 rs.length c1, .slice A2 rs.length c2], .bool true], .agg #[.slice A1 rs.length c1, .slice A2 rs.length c2], .bool true, .bool true, .bool false, .pointer (some ⟨bk, 0, none⟩), .slice A1 rs.length c1, .int .i64 rs.length, .int .i64 i, .bool true, .int .i64 i, .pointer (some ⟨bk, 1, none⟩), .slice A2 rs.length c2, .int .i64 i, .pointer (some ⟨gs, gt + i, none⟩), .string (bs t), .pointer (some ⟨bk, 0, none⟩), .slice A1 rs.length c1, .int .i64 i, .pointer (some ⟨gb, go' + i, none⟩), .pointer (some ⟨b, 0, none⟩), .int .i64 fr, .func (.func 76) #[] #[.pointer (some ⟨a3, 0, none⟩), .pointer (some ⟨b3, 0, none⟩), .pointer (some ⟨c3, 0, none⟩)], .pointer (some ⟨bk, 0, none⟩), .slice A1 rs.length c1, .int .i64 i, .pointer (some ⟨gb, go' + i, none⟩), .pointer (some ⟨b, 0, none⟩), .int .i64 fr, .func (.func 76) #[] #[.pointer (some ⟨a4, 0, none⟩), .pointer (some ⟨b4, 0, none⟩), .pointer (some ⟨c4, 0, none⟩)], u 49, u 50, u 51, u 52, u 53, u 54, u 55, undef, u 57, u 58, u 59, u 60, u 61, u 62, u 63, u 64, u 65, u 66, u 67, u 68, u 69, u 70, u 71, undef, u 73, u 74, u 75, u 76, u 77, u 78, u 79, u 80, u 81, u 82, u 83, u 84, u 85, u 86, u 87, u 88, u 89, u 90, u 91, u 92, u 93, u 94, u 95, u 96, u 97, u 98, u 99, u 100, u 101, u 102, u 103, u 104, u 105, u 106, u 107, u 108, u 109, u 110, u 111, u 112, u 113]).getD gj undef, a3, b3, c3, a4, b4, c4, rfl, (by omega), by assumption, by assumption, by assumption, by assumption, by assumption, hro.later (show Ltr _ _ from by assumption), by assumption, hah, hbh, by assumption, by assumption, by assumption, by assumption, by assumption, by assumption, hMs.top⟩
   rintro a28 w28 ⟨u, a3, b3, c3, a4, b4, c4, rfl, hgg', hT', hB', hP', hrv', hbk', hro', htb', hah', hbh', hi0', hi1', hi2', hj0', hj1', hj2', hMs'⟩
   clear hbh hah htb hMs hbk hrv hP hB hT
   have hgg := hgg'
   clear hgg'
   have hT := hT'
   clear hT'
   have hB := hB'
   clear hB'
   have hP := hP'
   clear hP'
   have hrv := hrv'
   clear hrv'
   have hbk := hbk'
   clear hbk'
   have hro := hro'
   clear hro'
   have htb := htb'
   clear htb'
   have hah := hah'
   clear hah'
   have hbh := hbh'
   clear hbh'
   have hi0 := hi0'
   clear hi0'
   have hi1 := hi1'
   clear hi1'
   have hi2 := hi2'
   clear hi2'
   have hj0 := hj0'
   clear hj0'
   have hj1 := hj1'
   clear hj1'
   have hj2 := hj2'
   clear hj2'
   have hMs := hMs'
   clear hMs'
   have hlt_hrv_28 := hrv.lt
   have hlt_hbk_28 := hbk.lt
   have hlt_htb_28 := htb.lt
   have hlt_hah_28 := hah.lt
   have hlt_hbh_28 := hbh.lt
   have hlt_hi0_28 := hi0.lt
   have hlt_hi1_28 := hi1.lt
   have hlt_hi2_28 := hi2.lt
   have hlt_hj0_28 := hj0.lt
   have hlt_hj1_28 := hj1.lt
   have hlt_hj2_28 := hj2.lt
   refine hKK27 _ _ <| wp_seq_k fun KK33 hKK33 => wp_seq_k fun KK34 hKK34 => rl_begin fun hgK hgo => tk 49 (.func (.func 76) #[] #[.pointer (some ⟨a3, 0, none⟩), .pointer (some ⟨b3, 0, none⟩), .pointer (some ⟨c3, 0, none⟩)]) <| tk 50 (.bool false) <| tk 51 (.bool false) <| tk 52 (.func (.func 76) #[] #[.pointer (some ⟨a4, 0, none⟩), .pointer (some ⟨b4, 0, none⟩), .pointer (some ⟨c4, 0, none⟩)]) <| tk 53 (.bool false) <| tk 54 (.bool false) ?_
   simp only [pp]
   refine rl_end hgo <| hKK34 _ _ <| wp_cond_false (by kernel_rfl) <| wp_skip <| hKK33 _ _ <| wp_seq_k fun KK35 hKK35 => wp_seq_k fun KK36 hKK36 => rl_begin fun hgK hgo => tk 55 (.func (.func 76) #[] #[.pointer (some ⟨a3, 0, none⟩), .pointer (some ⟨b3, 0, none⟩), .pointer (some ⟨c3, 0, none⟩)]) ?_
   simp only [pp]
   refine rl_end hgo <| hKK36 _ _ <| wp_block ?_
   have hnm37 := hMs.fresh
   have hbz37 := hB.size
   replace hMs := hMs.top
   refine range_p (n₀ := N) (P := Tryd.prog) rfl (enters_of Tryd.func76 (by kernel_rfl) rfl) (iter_seq N b t v ot fr true (by omega) _ hro a3 b3 c3 hi0 hi1 hi2) (by omega) (fun (pre : List (Pc)) W => (Tabs W) ∧ (Ltr w W) ∧ (Ropes N A1 A2 rs W) ∧ (Blk W rv 4 #[.bool false]) ∧ (Blk W bk 27 #[.slice A1 rs.length c1, .slice A2 rs.length c2]) ∧ (RopeN N W b t v ot) ∧ (Blk W tb 9 #[.string (bs t)]) ∧ (Blk W ah 9 #[.string (bs ((pre.map pcB).reverse.flatten))]) ∧ (Blk W bh 9 #[.string (bs [])]) ∧ (Blk W a4 31 #[.pointer (some ⟨b, 0, none⟩)]) ∧ (Blk W b4 3 #[.int .i64 fr]) ∧ (Blk W c4 4 #[.bool false]) ∧ (Marks w.heap.size w28.heap.size ds W)) (fun _ _ _ => False) ?hI37 ?hIx37 ?h037 (fun (⟨A5, c5, p5⟩ : Pc) a W => a = ⟨#[.slice A l.length c, .int .i64 fr, undef, undef, .pointer (some ⟨rv, 0, none⟩), .pointer (some ⟨bk, 0, none⟩), .bool true, .int .i64 i, .pointer (some ⟨tb, 0, none⟩), .pointer (some ⟨ah, 0, none⟩), .pointer (some ⟨bh, 0, none⟩), .func (.func 76) #[] #[.pointer (some ⟨a3, 0, none⟩), .pointer (some ⟨b3, 0, none⟩), .pointer (some ⟨c3, 0, none⟩)], .func (.func 76) #[] #[.pointer (some ⟨a4, 0, none⟩), .pointer (some ⟨b4, 0, none⟩), .pointer (some ⟨c4, 0, none⟩)], .slice A5 p5.length c5, u 14, .bool true, .bool false, .tuple #[.agg #[.slice A1 rs.length c1, .slice A2 rs.length c2], .bool true], .slice A l.length c, .tuple #[.agg #[.slice A1 rs.length c1, .slice A2 rs.length c2], .bool true], .agg #[.slice A1 rs.length c1, .slice A2 rs.length c2], .bool true, .bool true, .bool false, .pointer (some ⟨bk, 0, none⟩), .slice A1 rs.length c1, .int .i64 rs.length, .int .i64 i, .bool true, .int .i64 i, .pointer (some ⟨bk, 1, none⟩), .slice A2 rs.length c2, .int .i64 i, .pointer (some ⟨gs, gt + i, none⟩), .string (bs t), u 35, u 36, u 37, u 38, u 39, u 40, u 41, u 42, u 43, u 44, u 45, u 46, u 47, u 48, .func (.func 76) #[] #[.pointer (some ⟨a3, 0, none⟩), .pointer (some ⟨b3, 0, none⟩), .pointer (some ⟨c3, 0, none⟩)], .bool false, .bool false, .func (.func 76) #[] #[.pointer (some ⟨a4, 0, none⟩), .pointer (some ⟨b4, 0, none⟩), .pointer (some ⟨c4, 0, none⟩)], .bool false, .bool false, .func (.func 76) #[] #[.pointer (some ⟨a3, 0, none⟩), .pointer (some ⟨b3, 0, none⟩), .pointer (some ⟨c3, 0, none⟩)], .slice A5 p5.length c5, u 57, u 58, u 59, u 60, u 61, u 62, u 63, u 64, u 65, u 66, u 67, u 68, u 69, u 70, u 71, undef, u 73, u 74, u 75, u 76, u 77, u 78, u 79, u 80, u 81, u 82, u 83, u 84, u 85, u 86, u 87, u 88, u 89, u 90, u 91, u 92, u 93, u 94, u 95, u 96, u 97, u 98, u 99, u 100, u 101, u 102, u 103, u 104, u 105, u 106, u 107, u 108, u 109, u 110, u 111, u 112, u 113], []⟩ ∧ (pcP N (A5, c5, p5) W)) ?hAx37 ?ha37 ?hb37 ?hd37 ?hs37
   case hI37 =>
    rintro pre W W' row ⟨hT, hB, hP, hrv, hbk, hro, htb, hah, hbh, hj0, hj1, hj2, hMs⟩ hg hr
    exact ⟨hT.kc hg hr (by omega), hB.kc hg hr (by omega), hP.kc hg hr (by omega), hrv.kc hg hr (by omega), hbk.kc hg hr (by omega), hro.kc hg hr (by omega), htb.kc hg hr (by omega), hah.kc hg hr (by omega), hbh.kc hg hr (by omega), hj0.kc hg hr (by omega), hj1.kc hg hr (by omega), hj2.kc hg hr (by omega), hMs.kc hg hr (by omega)⟩
   case hIx37 =>
    exact fun _ _ _ _ _ h _ _ => h
   case h037 =>
    exact ⟨by assumption, by assumption, by assumption, by assumption, by assumption, by assumption, by assumption, hah, hbh, by assumption, by assumption, by assumption, by assumption⟩
   case hAx37 =>
    rintro ⟨A5, c5, p5⟩ a' _ W W' row ⟨rfl, hp⟩ hg hr
    exact ⟨rfl, hp.kc hg hr (by omega)⟩
   case ha37 =>
    skip
    rintro l37 pre ⟨A5, c5, p5⟩ w37a hz37a hi37 hp hok37
    have hLa37 := Ltr.refl w37a
    clear hi37
    simp only [pcEnc, List.setIfInBounds_toArray, List.set_cons_zero, List.set_cons_succ]
    refine rj_begin fun hgK hgo => sk 13 (.slice A5 p5.length c5) ?_
    simp only [pp]
    refine rj_end hgo ?_
    exact And.intro hLa37 (And.intro rfl hp)
   case hb37 =>
    rintro l37 pre ⟨A5, c5, p5⟩ a37 w37b hTwo37 hi37 ⟨rfl, hp⟩ hok37
    obtain ⟨hT, hB, hP, hrv, hbk, hro, htb, hah, hbh, hj0, hj1, hj2, hMs⟩ := hi37
    have hz237 := hTwo37.size
    have hBel37 := Bel.refl N w37b (by omega)
    have hlt_hrv_37 := hrv.lt
    have hlt_hbk_37 := hbk.lt
    have hlt_htb_37 := htb.lt
    have hlt_hah_37 := hah.lt
    have hlt_hbh_37 := hbh.lt
    have hlt_hj0_37 := hj0.lt
    have hlt_hj1_37 := hj1.lt
    have hlt_hj2_37 := hj2.lt
    (obtain ⟨hp0, hpa, hpb⟩ := pc_ok hfB hok37)
    refine wpIn_block <| wpIn_seq_k fun KK38 hKK38 => wpIn_seq_k fun KK39 hKK39 => rj_begin fun hgK hgo => sk 57 (.slice A5 p5.length c5) <| sk 58 (.int .i64 p5.length) ?_
    simp only [pp]
    refine sx 59 (.bool false) (by exact ex_beq (x := p5.length) (y := 0) (by kernel_rfl) ⟨fun q => (by cases q), fun q => absurd q (by omega)⟩) <| sk 60 (.bool false) ?_
    simp only [pp]
    refine sx 61 (.string (bs ((pre.map pcB).reverse.flatten))) (by exact ld1 9 _ rfl ah 0 rfl (fun _ => by kernel_rfl) _ (hah.cell 0)) ?_
    simp only [pp]
    refine sx 62 (.int .i64 ((pre.map pcB).reverse.flatten).length) (by exact ex_len_bs (by kernel_rfl)) ?_
    simp only [pp]
    refine sx 63 (.string (bs t)) (by exact ld1 9 _ rfl tb 0 rfl (fun _ => by kernel_rfl) _ (htb.cell 0)) ?_
    simp only [pp]
    refine sx 64 (.int .i64 t.length) (by exact ex_len_bs (by kernel_rfl)) ?_
    simp only [pp]
    refine sx 65 (.bool false) (by exact ex_bool (c := (((pre.map pcB).reverse.flatten).length : Int) > t.length) (by kernel_rfl) ⟨fun q => (by cases q), fun q => absurd q (by omega)⟩) <| sk 66 (.bool false) ?_
    simp only [pp]
    refine rj_end hgo <| hKK39 _ _ <| wpIn_cond_false (by kernel_rfl) ?_
    refine wpIn_skip ?_
    refine hKK38 _ _ <| rj_begin fun hgK hgo => sk 67 (.slice A5 p5.length c5) ?_
    simp only [pp]
    refine sx 68 (.string (bs p5)) (by exact ex_conv_str _ rfl A5 c5 p5 rfl (BRow.bytes (A := A5) (c := c5) (l := p5) hp)) ?_
    simp only [pp]
    refine sx 69 (.string (bs ((pre.map pcB).reverse.flatten))) (by exact ld1 9 _ rfl ah 0 rfl (fun _ => by kernel_rfl) _ (hah.cell 0)) ?_
    simp only [pp]
    refine sx 70 (.string (bs (((pre ++ [(A5, c5, p5)]).map pcB).reverse.flatten))) (by (rw [acc_back]; exact ex_str_add p5 _ rfl rfl rfl (by omega) _)) ?_
    simp only [pp]
    refine rj_store1 ah (.string (bs (((pre ++ [(A5, c5, p5)]).map pcB).reverse.flatten))) rfl rfl (by kernel_rfl) rfl rfl (by kernel_rfl) hah (by kernel_rfl) fun w40 hU40 hn40 => ?_
    have hz40 := hU40.size
    clear hp
    replace hT := hT.upd hU40 (by omega)
    replace hB := hB.upd hU40 (by omega)
    replace hP := hP.upd hU40 (by omega)
    replace hrv := hrv.upd hU40 (by omega)
    replace hbk := hbk.upd hU40 (by omega)
    replace hro := hro.upd hU40 (by omega)
    replace htb := htb.upd hU40 (by omega)
    replace hbh := hbh.upd hU40 (by omega)
    replace hj0 := hj0.upd hU40 (by omega)
    replace hj1 := hj1.upd hU40 (by omega)
    replace hj2 := hj2.upd hU40 (by omega)
    replace hMs := hMs.upd hU40 (⟨_, _, hah⟩)
    replace hTwo37 := hTwo37.upd hU40 (by omega)
    replace hBel37 := hBel37.upd hU40 (by omega)
    clear hah
    have hah := hn40
    clear hn40
    try simp only [pp]
    refine rj_end hgo ?_
    try simp only [Exit.then, Exit.inBlock]
    exact ⟨hTwo37, hBel37, by assumption, by assumption, by assumption, by assumption, by assumption, by assumption, by assumption, by assumption, by assumption, by assumption, by assumption, by assumption, by assumption⟩
   case hd37 =>
    rintro pre w37d hz37d hS37 hi37 hM37
    obtain ⟨hT, hB, hP, hrv, hbk, hro, htb, hah, hbh, hj0, hj1, hj2, hMs⟩ := hi37
    replace hM37 : Mark w28.heap.size w37d := hM37
    have hlt_hrv_37 := hrv.lt
    have hlt_hbk_37 := hbk.lt
    have hlt_htb_37 := htb.lt
    have hlt_hah_37 := hah.lt
    have hlt_hbh_37 := hbh.lt
    have hlt_hj0_37 := hj0.lt
    have hlt_hj1_37 := hj1.lt
    have hlt_hj2_37 := hj2.lt
    replace hMs := hMs.cons hM37 (by omega) hnm37
    rw [hS37] at hah
    refine hKK35 _ _ <| wp_seq_k fun KK41 hKK41 => wp_seq_k fun KK42 hKK42 => rl_begin fun hgK hgo => tk 71 (.func (.func 76) #[] #[.pointer (some ⟨a4, 0, none⟩), .pointer (some ⟨b4, 0, none⟩), .pointer (some ⟨c4, 0, none⟩)]) ?_
    simp only [pp]
    refine rl_end hgo <| hKK42 _ _ <| wp_block ?_
    have hnm43 := hMs.fresh
    have hbz43 := hB.size
    replace hMs := hMs.top
    refine range_p (n₀ := N) (P := Tryd.prog) rfl (enters_of Tryd.func76 (by kernel_rfl) rfl) (iter_seq N b t v ot fr false (by omega) _ hro a4 b4 c4 hj0 hj1 hj2) (by omega) (fun (pre : List (Pc)) W => (Tabs W) ∧ (Ltr w W) ∧ (Ropes N A1 A2 rs W) ∧ (Blk W rv 4 #[.bool false]) ∧ (Blk W bk 27 #[.slice A1 rs.length c1, .slice A2 rs.length c2]) ∧ (RopeN N W b t v ot) ∧ (Blk W tb 9 #[.string (bs t)]) ∧ (Blk W ah 9 #[.string (bs ((pcsOf ot t fr true).reverse.flatten))]) ∧ (Blk W bh 9 #[.string (bs ((pre.map pcB).flatten))]) ∧ (Marks w.heap.size w37d.heap.size (w28.heap.size :: ds) W)) (fun _ _ _ => False) ?hI43 ?hIx43 ?h043 (fun (⟨A6, c6, p6⟩ : Pc) a W => a = ⟨#[.slice A l.length c, .int .i64 fr, undef, undef, .pointer (some ⟨rv, 0, none⟩), .pointer (some ⟨bk, 0, none⟩), .bool true, .int .i64 i, .pointer (some ⟨tb, 0, none⟩), .pointer (some ⟨ah, 0, none⟩), .pointer (some ⟨bh, 0, none⟩), .func (.func 76) #[] #[.pointer (some ⟨a3, 0, none⟩), .pointer (some ⟨b3, 0, none⟩), .pointer (some ⟨c3, 0, none⟩)], .func (.func 76) #[] #[.pointer (some ⟨a4, 0, none⟩), .pointer (some ⟨b4, 0, none⟩), .pointer (some ⟨c4, 0, none⟩)], u 13, .slice A6 p6.length c6, .bool true, .bool false, .tuple #[.agg #[.slice A1 rs.length c1, .slice A2 rs.length c2], .bool true], .slice A l.length c, .tuple #[.agg #[.slice A1 rs.length c1, .slice A2 rs.length c2], .bool true], .agg #[.slice A1 rs.length c1, .slice A2 rs.length c2], .bool true, .bool true, .bool false, .pointer (some ⟨bk, 0, none⟩), .slice A1 rs.length c1, .int .i64 rs.length, .int .i64 i, .bool true, .int .i64 i, .pointer (some ⟨bk, 1, none⟩), .slice A2 rs.length c2, .int .i64 i, .pointer (some ⟨gs, gt + i, none⟩), .string (bs t), u 35, u 36, u 37, u 38, u 39, u 40, u 41, u 42, u 43, u 44, u 45, u 46, u 47, u 48, .func (.func 76) #[] #[.pointer (some ⟨a3, 0, none⟩), .pointer (some ⟨b3, 0, none⟩), .pointer (some ⟨c3, 0, none⟩)], .bool false, .bool false, .func (.func 76) #[] #[.pointer (some ⟨a4, 0, none⟩), .pointer (some ⟨b4, 0, none⟩), .pointer (some ⟨c4, 0, none⟩)], .bool false, .bool false, .func (.func 76) #[] #[.pointer (some ⟨a3, 0, none⟩), .pointer (some ⟨b3, 0, none⟩), .pointer (some ⟨c3, 0, none⟩)], undef, u 57, u 58, u 59, u 60, u 61, u 62, u 63, u 64, u 65, u 66, u 67, u 68, u 69, u 70, .func (.func 76) #[] #[.pointer (some ⟨a4, 0, none⟩), .pointer (some ⟨b4, 0, none⟩), .pointer (some ⟨c4, 0, none⟩)], .slice A6 p6.length c6, u 73, u 74, u 75, u 76, u 77, u 78, u 79, u 80, u 81, u 82, u 83, u 84, u 85, u 86, u 87, u 88, u 89, u 90, u 91, u 92, u 93, u 94, u 95, u 96, u 97, u 98, u 99, u 100, u 101, u 102, u 103, u 104, u 105, u 106, u 107, u 108, u 109, u 110, u 111, u 112, u 113], []⟩ ∧ (pcP N (A6, c6, p6) W)) ?hAx43 ?ha43 ?hb43 ?hd43 ?hs43
    case hI43 =>
     rintro pre W W' row ⟨hT, hB, hP, hrv, hbk, hro, htb, hah, hbh, hMs⟩ hg hr
     exact ⟨hT.kc hg hr (by omega), hB.kc hg hr (by omega), hP.kc hg hr (by omega), hrv.kc hg hr (by omega), hbk.kc hg hr (by omega), hro.kc hg hr (by omega), htb.kc hg hr (by omega), hah.kc hg hr (by omega), hbh.kc hg hr (by omega), hMs.kc hg hr (by omega)⟩
    case hIx43 =>
     exact fun _ _ _ _ _ h _ _ => h
    case h043 =>
     exact ⟨by assumption, by assumption, by assumption, by assumption, by assumption, by assumption, by assumption, hah, hbh, by assumption⟩
    case hAx43 =>
     rintro ⟨A6, c6, p6⟩ a' _ W W' row ⟨rfl, hp⟩ hg hr
     exact ⟨rfl, hp.kc hg hr (by omega)⟩
    case ha43 =>
     skip
     rintro l43 pre ⟨A6, c6, p6⟩ w43a hz43a hi43 hp hok43
     have hLa43 := Ltr.refl w43a
     clear hi43
     simp only [pcEnc, List.setIfInBounds_toArray, List.set_cons_zero, List.set_cons_succ]
     refine rj_begin fun hgK hgo => sk 14 (.slice A6 p6.length c6) ?_
     simp only [pp]
     refine rj_end hgo ?_
     exact And.intro hLa43 (And.intro rfl hp)
    case hb43 =>
     rintro l43 pre ⟨A6, c6, p6⟩ a43 w43b hTwo43 hi43 ⟨rfl, hp⟩ hok43
     obtain ⟨hT, hB, hP, hrv, hbk, hro, htb, hah, hbh, hMs⟩ := hi43
     have hz243 := hTwo43.size
     have hBel43 := Bel.refl N w43b (by omega)
     have hlt_hrv_43 := hrv.lt
     have hlt_hbk_43 := hbk.lt
     have hlt_htb_43 := htb.lt
     have hlt_hah_43 := hah.lt
     have hlt_hbh_43 := hbh.lt
     (obtain ⟨hp0, hpa, hpb⟩ := pc_ok hfF hok43)
     refine wpIn_block <| wpIn_seq_k fun KK44 hKK44 => wpIn_seq_k fun KK45 hKK45 => rj_begin fun hgK hgo => sk 73 (.slice A6 p6.length c6) <| sk 74 (.int .i64 p6.length) ?_
     simp only [pp]
     refine sx 75 (.bool false) (by exact ex_beq (x := p6.length) (y := 0) (by kernel_rfl) ⟨fun q => (by cases q), fun q => absurd q (by omega)⟩) <| sk 76 (.bool false) ?_
     simp only [pp]
     refine sx 77 (.string (bs ((pre.map pcB).flatten))) (by exact ld1 9 _ rfl bh 0 rfl (fun _ => by kernel_rfl) _ (hbh.cell 0)) ?_
     simp only [pp]
     refine sx 78 (.int .i64 ((pre.map pcB).flatten).length) (by exact ex_len_bs (by kernel_rfl)) ?_
     simp only [pp]
     refine sx 79 (.string (bs t)) (by exact ld1 9 _ rfl tb 0 rfl (fun _ => by kernel_rfl) _ (htb.cell 0)) ?_
     simp only [pp]
     refine sx 80 (.int .i64 t.length) (by exact ex_len_bs (by kernel_rfl)) ?_
     simp only [pp]
     refine sx 81 (.bool false) (by exact ex_bool (c := (((pre.map pcB).flatten).length : Int) > t.length) (by kernel_rfl) ⟨fun q => (by cases q), fun q => absurd q (by omega)⟩) <| sk 82 (.bool false) ?_
     simp only [pp]
     refine rj_end hgo <| hKK45 _ _ <| wpIn_cond_false (by kernel_rfl) ?_
     refine wpIn_skip ?_
     refine hKK44 _ _ <| rj_begin fun hgK hgo => ?_
     refine sx 83 (.string (bs ((pre.map pcB).flatten))) (by exact ld1 9 _ rfl bh 0 rfl (fun _ => by kernel_rfl) _ (hbh.cell 0)) <| sk 84 (.slice A6 p6.length c6) ?_
     simp only [pp]
     refine sx 85 (.string (bs p6)) (by exact ex_conv_str _ rfl A6 c6 p6 rfl (BRow.bytes (A := A6) (c := c6) (l := p6) hp)) ?_
     simp only [pp]
     refine sx 86 (.string (bs (((pre ++ [(A6, c6, p6)]).map pcB).flatten))) (by (rw [acc_fore]; exact ex_str_add _ p6 rfl rfl rfl (by omega) _)) ?_
     simp only [pp]
     refine rj_store1 bh (.string (bs (((pre ++ [(A6, c6, p6)]).map pcB).flatten))) rfl rfl (by kernel_rfl) rfl rfl (by kernel_rfl) hbh (by kernel_rfl) fun w46 hU46 hn46 => ?_
     have hz46 := hU46.size
     clear hp
     replace hT := hT.upd hU46 (by omega)
     replace hB := hB.upd hU46 (by omega)
     replace hP := hP.upd hU46 (by omega)
     replace hrv := hrv.upd hU46 (by omega)
     replace hbk := hbk.upd hU46 (by omega)
     replace hro := hro.upd hU46 (by omega)
     replace htb := htb.upd hU46 (by omega)
     replace hah := hah.upd hU46 (by omega)
     replace hMs := hMs.upd hU46 (⟨_, _, hbh⟩)
     replace hTwo43 := hTwo43.upd hU46 (by omega)
     replace hBel43 := hBel43.upd hU46 (by omega)
     clear hbh
     have hbh := hn46
     clear hn46
     try simp only [pp]
     refine rj_end hgo ?_
     try simp only [Exit.then, Exit.inBlock]
     exact ⟨hTwo43, hBel43, by assumption, by assumption, by assumption, by assumption, by assumption, by assumption, by assumption, by assumption, by assumption, by assumption⟩
    case hd43 =>
     rintro pre w43d hz43d hS43 hi43 hM43
     obtain ⟨hT, hB, hP, hrv, hbk, hro, htb, hah, hbh, hMs⟩ := hi43
     replace hM43 : Mark w37d.heap.size w43d := hM43
     have hlt_hrv_43 := hrv.lt
     have hlt_hbk_43 := hbk.lt
     have hlt_htb_43 := htb.lt
     have hlt_hah_43 := hah.lt
     have hlt_hbh_43 := hbh.lt
     replace hMs := hMs.cons hM43 (by omega) hnm43
     rw [hS43] at hbh
     refine hKK41 _ _ <| wp_seq_k fun KK47 hKK47 => wp_seq_k fun KK48 hKK48 => rl_begin fun hgK hgo => tk 87 (.int .i64 fr) ?_
     simp only [pp]
     by_cases h5 : fr < 0
     ·refine tx 88 (.bool true) (by exact ex_bool (c := (fr : Int) < 0) (by kernel_rfl) ⟨fun _ => by omega, fun _ => rfl⟩) <| tk 89 (.bool true) ?_
      simp only [pp]
      refine rl_pass (some 90) rfl (by kernel_rfl) ?_
      try simp only [pp]
      refine rl_pass (some 91) rfl (by kernel_rfl) ?_
      try simp only [pp]
      refine rl_pass (some 92) rfl (by kernel_rfl) ?_
      try simp only [pp]
      refine rl_pass (some 93) rfl (by kernel_rfl) ?_
      try simp only [pp]
      refine tk 94 (.bool true) ?_
      simp only [pp]
      refine rl_end hgo <| hKK48 _ _ <| wp_cond_true (by kernel_rfl) <| wp_seq_k fun KK49 hKK49 => wp_seq_k fun KK50 hKK50 => rl_begin fun hgK hgo => ?_
      refine tx 95 (.string (bs ((pcsOf ot t fr true).reverse.flatten))) (by exact ld1 9 _ rfl ah 0 rfl (fun _ => by kernel_rfl) _ (hah.cell 0)) ?_
      simp only [pp]
      refine tx 96 (.bool false) (by exact ex_ne_lit (a := (pcsOf ot t fr true).reverse.flatten) (b := []) (by kernel_rfl) (by rw [pcs_out ot t fr true (by omega)]; rfl)) <| tk 97 (.bool false) ?_
      simp only [pp]
      refine tx 98 (.string (bs ((pcsOf ot t fr false).flatten))) (by exact ld1 9 _ rfl bh 0 rfl (fun _ => by kernel_rfl) _ (hbh.cell 0)) ?_
      simp only [pp]
      refine tx 99 (.bool false) (by exact ex_ne_lit (a := (pcsOf ot t fr false).flatten) (b := []) (by kernel_rfl) (by rw [pcs_out ot t fr false (by omega)]; rfl)) <| tk 100 (.bool false) ?_
      simp only [pp]
      refine rl_end hgo <| hKK50 _ _ <| wp_cond_false (by kernel_rfl) <| wp_skip <| hKK49 _ _ <| wp_exit <| hKK17 _ _ <| rl_begin fun hgK hgo => ?_
      refine tx 113 (.int .i64 (((i + 1 : Nat) : Int))) (by exact ex_arith (e := (i : Int) + 1) (r := ((i + 1 : Nat) : Int)) (by kernel_rfl) (by omega) (by omega)) <| tk 27 (.int .i64 (((i + 1 : Nat) : Int))) ?_
      simp only [pp]
      refine rl_end hgo ?_
      exact ⟨_, (by omega), fun gj => (#[.slice A l.length c, .int .i64 fr, undef, undef, .pointer (some ⟨rv, 0, none⟩), .pointer (some ⟨bk, 0, none⟩), .bool true, .int .i64 i, .pointer (some ⟨tb, 0, none⟩), .pointer (some ⟨ah, 0, none⟩), .pointer (some ⟨bh, 0, none⟩), .func (.func 76) #[] #[.pointer (some ⟨a3, 0, none⟩), .pointer (some ⟨b3, 0, none⟩), .pointer (some ⟨c3, 0, none⟩)], .func (.func 76) #[] #[.pointer (some ⟨a4, 0, none⟩), .pointer (some ⟨b4, 0, none⟩), .pointer (some ⟨c4, 0, none⟩)], u 13, u 14, .bool true, .bool false, .tuple #[.agg #[.slice A1 rs.length c1, .slice A2 rs.length c2], .bool true], .slice A l.length c, .tuple #[.agg #[.slice A1 rs.length c1, .slice A2 rs.length c2], .bool true], .agg #[.slice A1 rs.length c1, .slice A2 rs.length c2], .bool true, .bool true, .bool false, .pointer (some ⟨bk, 0, none⟩), .slice A1 rs.length c1, .int .i64 rs.length, .int .i64 (((i + 1 : Nat) : Int)), .bool true, .int .i64 i, .pointer (some ⟨bk, 1, none⟩), .slice A2 rs.length c2, .int .i64 i, .pointer (some ⟨gs, gt + i, none⟩), .string (bs t), u 35, u 36, u 37, u 38, u 39, u 40, u 41, u 42, u 43, u 44, u 45, u 46, u 47, u 48, .func (.func 76) #[] #[.pointer (some ⟨a3, 0, none⟩), .pointer (some ⟨b3, 0, none⟩), .pointer (some ⟨c3, 0, none⟩)], .bool false, .bool false, .func (.func 76) #[] #[.pointer (some ⟨a4, 0, none⟩), .pointer (some ⟨b4, 0, none⟩), .pointer (some ⟨c4, 0, none⟩)], .bool false, .bool false, .func (.func 76) #[] #[.pointer (some ⟨a3, 0, none⟩), .pointer (some ⟨b3, 0, none⟩), .pointer (some ⟨c3, 0, none⟩)], undef, u 57, u 58, u 59, u 60, u 61, u 62, u 63, u 64, u 65, u 66, u 67, u 68, u 69, u 70, .func (.func 76) #[] #[.pointer (some ⟨a4, 0, none⟩), .pointer (some ⟨b4, 0, none⟩), .pointer (some ⟨c4, 0, none⟩)], undef, u 73, u 74, u 75, u 76, u 77, u 78, u 79, u 80, u 81, u 82, u 83, u 84, u 85, u 86, .int .i64 fr, .bool true, .bool true, undef, undef, undef, undef, .bool true, .string (bs ((pcsOf ot t fr true).reverse.flatten)), .bool false, .bool false, .string (bs ((pcsOf ot t fr false).flatten)), .bool false, .bool false, u 101, u 102, u 103, u 104, u 105, u 106, u 107, u 108, u 109, u 110, u 111, u 112, .int .i64 (((i + 1 : Nat) : Int))]).getD gj undef, i + 1, (w37d.heap.size :: (w28.heap.size :: ds)), rfl, rfl, by omega, by assumption, by assumption, by assumption, by assumption, by assumption, hMs.top⟩
     ·refine tx 88 (.bool false) (by exact ex_bool (c := (fr : Int) < 0) (by kernel_rfl) ⟨fun q => (by cases q), fun q => absurd q (by omega)⟩) <| tk 89 (.bool false) <| tk 90 (.int .i64 fr) ?_
      simp only [pp]
      refine tx 91 (.string (bs t)) (by exact ld1 9 _ rfl tb 0 rfl (fun _ => by kernel_rfl) _ (htb.cell 0)) ?_
      simp only [pp]
      refine tx 92 (.int .i64 t.length) (by exact ex_len_bs (by kernel_rfl)) ?_
      simp only [pp]
      by_cases h6 : fr > (t.length : Int)
      ·refine tx 93 (.bool true) (by exact ex_bool (c := (fr : Int) > t.length) (by kernel_rfl) ⟨fun _ => by omega, fun _ => rfl⟩) <| tk 94 (.bool true) ?_
       simp only [pp]
       refine rl_end hgo <| hKK48 _ _ <| wp_cond_true (by kernel_rfl) <| wp_seq_k fun KK51 hKK51 => wp_seq_k fun KK52 hKK52 => rl_begin fun hgK hgo => ?_
       refine tx 95 (.string (bs ((pcsOf ot t fr true).reverse.flatten))) (by exact ld1 9 _ rfl ah 0 rfl (fun _ => by kernel_rfl) _ (hah.cell 0)) ?_
       simp only [pp]
       refine tx 96 (.bool false) (by exact ex_ne_lit (a := (pcsOf ot t fr true).reverse.flatten) (b := []) (by kernel_rfl) (by rw [pcs_out ot t fr true (by omega)]; rfl)) <| tk 97 (.bool false) ?_
       simp only [pp]
       refine tx 98 (.string (bs ((pcsOf ot t fr false).flatten))) (by exact ld1 9 _ rfl bh 0 rfl (fun _ => by kernel_rfl) _ (hbh.cell 0)) ?_
       simp only [pp]
       refine tx 99 (.bool false) (by exact ex_ne_lit (a := (pcsOf ot t fr false).flatten) (b := []) (by kernel_rfl) (by rw [pcs_out ot t fr false (by omega)]; rfl)) <| tk 100 (.bool false) ?_
       simp only [pp]
       refine rl_end hgo <| hKK52 _ _ <| wp_cond_false (by kernel_rfl) <| wp_skip <| hKK51 _ _ <| wp_exit <| hKK17 _ _ <| rl_begin fun hgK hgo => ?_
       refine tx 113 (.int .i64 (((i + 1 : Nat) : Int))) (by exact ex_arith (e := (i : Int) + 1) (r := ((i + 1 : Nat) : Int)) (by kernel_rfl) (by omega) (by omega)) <| tk 27 (.int .i64 (((i + 1 : Nat) : Int))) ?_
       simp only [pp]
       refine rl_end hgo ?_
       exact ⟨_, (by omega), fun gj => (#[.slice A l.length c, .int .i64 fr, undef, undef, .pointer (some ⟨rv, 0, none⟩), .pointer (some ⟨bk, 0, none⟩), .bool true, .int .i64 i, .pointer (some ⟨tb, 0, none⟩), .pointer (some ⟨ah, 0, none⟩), .pointer (some ⟨bh, 0, none⟩), .func (.func 76) #[] #[.pointer (some ⟨a3, 0, none⟩), .pointer (some ⟨b3, 0, none⟩), .pointer (some ⟨c3, 0, none⟩)], .func (.func 76) #[] #[.pointer (some ⟨a4, 0, none⟩), .pointer (some ⟨b4, 0, none⟩), .pointer (some ⟨c4, 0, none⟩)], u 13, u 14, .bool true, .bool false, .tuple #[.agg #[.slice A1 rs.length c1, .slice A2 rs.length c2], .bool true], .slice A l.length c, .tuple #[.agg #[.slice A1 rs.length c1, .slice A2 rs.length c2], .bool true], .agg #[.slice A1 rs.length c1, .slice A2 rs.length c2], .bool true, .bool true, .bool false, .pointer (some ⟨bk, 0, none⟩), .slice A1 rs.length c1, .int .i64 rs.length, .int .i64 (((i + 1 : Nat) : Int)), .bool true, .int .i64 i, .pointer (some ⟨bk, 1, none⟩), .slice A2 rs.length c2, .int .i64 i, .pointer (some ⟨gs, gt + i, none⟩), .string (bs t), u 35, u 36, u 37, u 38, u 39, u 40, u 41, u 42, u 43, u 44, u 45, u 46, u 47, u 48, .func (.func 76) #[] #[.pointer (some ⟨a3, 0, none⟩), .pointer (some ⟨b3, 0, none⟩), .pointer (some ⟨c3, 0, none⟩)], .bool false, .bool false, .func (.func 76) #[] #[.pointer (some ⟨a4, 0, none⟩), .pointer (some ⟨b4, 0, none⟩), .pointer (some ⟨c4, 0, none⟩)], .bool false, .bool false, .func (.func 76) #[] #[.pointer (some ⟨a3, 0, none⟩), .pointer (some ⟨b3, 0, none⟩), .pointer (some ⟨c3, 0, none⟩)], undef, u 57, u 58, u 59, u 60, u 61, u 62, u 63, u 64, u 65, u 66, u 67, u 68, u 69, u 70, .func (.func 76) #[] #[.pointer (some ⟨a4, 0, none⟩), .pointer (some ⟨b4, 0, none⟩), .pointer (some ⟨c4, 0, none⟩)], undef, u 73, u 74, u 75, u 76, u 77, u 78, u 79, u 80, u 81, u 82, u 83, u 84, u 85, u 86, .int .i64 fr, .bool false, .bool false, .int .i64 fr, .string (bs t), .int .i64 t.length, .bool true, .bool true, .string (bs ((pcsOf ot t fr true).reverse.flatten)), .bool false, .bool false, .string (bs ((pcsOf ot t fr false).flatten)), .bool false, .bool false, u 101, u 102, u 103, u 104, u 105, u 106, u 107, u 108, u 109, u 110, u 111, u 112, .int .i64 (((i + 1 : Nat) : Int))]).getD gj undef, i + 1, (w37d.heap.size :: (w28.heap.size :: ds)), rfl, rfl, by omega, by assumption, by assumption, by assumption, by assumption, by assumption, hMs.top⟩
      ·refine tx 93 (.bool false) (by exact ex_bool (c := (fr : Int) > t.length) (by kernel_rfl) ⟨fun q => (by cases q), fun q => absurd q (by omega)⟩) <| tk 94 (.bool false) ?_
       simp only [pp]
       refine rl_end hgo <| hKK48 _ _ <| wp_cond_false (by kernel_rfl) <| wp_skip <| hKK47 _ _ <| wp_seq_k fun KK53 hKK53 => ?_
       (obtain ⟨k, hk⟩ := Int.eq_ofNat_of_zero_le (by omega : 0 ≤ fr)); (have hfb := (pcs_flatB hro k (by omega)).1); (have hff := (pcs_flatF hro k (by omega)).1); (rw [← hk] at hfb hff)
       refine rm_begin (fun W => Ltr w43d W) (by kernel_rfl) (by exact bl_drew (bl_refl _)) fun K54 hgo w54 hE hS54 => ?_
       have hv54 : Ltr w43d w54 := by rw [hE]; exact bl_drew (bl_refl _)
       have hz54 := hv54.size
       clear hE hS54
       refine mx 0 101 (.string (bs ((pcsOf ot t fr true).reverse.flatten))) rfl (fun W hW => by (exact ld1 9 _ rfl ah 0 rfl (fun _ => by kernel_rfl) _ ((hah.later hW).cell 0))) ?_
       try simp only [pp]
       refine mx 1 102 (.string (bs t)) rfl (fun W hW => by (exact ld1 9 _ rfl tb 0 rfl (fun _ => by kernel_rfl) _ ((htb.later hW).cell 0))) <| mk 2 103 (.int .i64 fr) ?_
       try simp only [pp]
       refine mx 3 104 (.string (bs (t.take k))) rfl (fun W hW => by (exact ex_str_take t k rfl rfl (congrArg (Value.int .i64) hk) (by kernel_rfl) (by omega) (by omega) _)) ?_
       try simp only [pp]
       refine mx 4 105 (.bool false) rfl (fun W hW => by (exact ex_ne_lit (a := (pcsOf ot t fr true).reverse.flatten) (b := t.take k) (by kernel_rfl) hfb)) <| mk 5 106 (.bool false) ?_
       try simp only [pp]
       refine mx 6 107 (.string (bs ((pcsOf ot t fr false).flatten))) rfl (fun W hW => by (exact ld1 9 _ rfl bh 0 rfl (fun _ => by kernel_rfl) _ ((hbh.later hW).cell 0))) ?_
       try simp only [pp]
       refine mx 7 108 (.string (bs t)) rfl (fun W hW => by (exact ld1 9 _ rfl tb 0 rfl (fun _ => by kernel_rfl) _ ((htb.later hW).cell 0))) <| mk 8 109 (.int .i64 fr) ?_
       try simp only [pp]
       refine mx 9 110 (.string (bs (t.drop k))) rfl (fun W hW => by (exact ex_str_drop t k rfl rfl (congrArg (Value.int .i64) hk) (by kernel_rfl) (by omega) (by omega) _)) ?_
       try simp only [pp]
       refine mx 10 111 (.bool false) rfl (fun W hW => by (exact ex_ne_lit (a := (pcsOf ot t fr false).flatten) (b := t.drop k) (by kernel_rfl) hff)) <| mk 11 112 (.bool false) ?_
       try simp only [pp]
       refine rm_done (by kernel_rfl) (fun w55 hL55 hS55 => hgo.out _ _ ?_) _
       clear hgo K54
       replace hT := hT.later (show Ltr w43d _ from hS55)
       replace hB := hB.later (show Ltr w43d _ from hS55)
       replace hP := hP.later (show Ltr w43d _ from hS55)
       replace hrv := hrv.later (show Ltr w43d _ from hS55)
       replace hbk := hbk.later (show Ltr w43d _ from hS55)
       replace hro := hro.later (show Ltr w43d _ from hS55)
       replace htb := htb.later (show Ltr w43d _ from hS55)
       replace hah := hah.later (show Ltr w43d _ from hS55)
       replace hbh := hbh.later (show Ltr w43d _ from hS55)
       replace hMs := hMs.later (show Ltr w43d _ from hS55)
       have hz55 := (show Ltr w43d _ from hS55).size
       have hy55 := hL55.size
       refine hKK53 _ _ <| wp_cond_false (by kernel_rfl) <| wp_skip <| hKK17 _ _ <| rl_begin fun hgK hgo => ?_
       refine tx 113 (.int .i64 (((i + 1 : Nat) : Int))) (by exact ex_arith (e := (i : Int) + 1) (r := ((i + 1 : Nat) : Int)) (by kernel_rfl) (by omega) (by omega)) <| tk 27 (.int .i64 (((i + 1 : Nat) : Int))) ?_
       simp only [pp]
       refine rl_end hgo ?_
       exact ⟨_, (by omega), fun gj => (#[.slice A l.length c, .int .i64 fr, undef, undef, .pointer (some ⟨rv, 0, none⟩), .pointer (some ⟨bk, 0, none⟩), .bool true, .int .i64 i, .pointer (some ⟨tb, 0, none⟩), .pointer (some ⟨ah, 0, none⟩), .pointer (some ⟨bh, 0, none⟩), .func (.func 76) #[] #[.pointer (some ⟨a3, 0, none⟩), .pointer (some ⟨b3, 0, none⟩), .pointer (some ⟨c3, 0, none⟩)], .func (.func 76) #[] #[.pointer (some ⟨a4, 0, none⟩), .pointer (some ⟨b4, 0, none⟩), .pointer (some ⟨c4, 0, none⟩)], u 13, u 14, .bool true, .bool false, .tuple #[.agg #[.slice A1 rs.length c1, .slice A2 rs.length c2], .bool true], .slice A l.length c, .tuple #[.agg #[.slice A1 rs.length c1, .slice A2 rs.length c2], .bool true], .agg #[.slice A1 rs.length c1, .slice A2 rs.length c2], .bool true, .bool true, .bool false, .pointer (some ⟨bk, 0, none⟩), .slice A1 rs.length c1, .int .i64 rs.length, .int .i64 (((i + 1 : Nat) : Int)), .bool true, .int .i64 i, .pointer (some ⟨bk, 1, none⟩), .slice A2 rs.length c2, .int .i64 i, .pointer (some ⟨gs, gt + i, none⟩), .string (bs t), u 35, u 36, u 37, u 38, u 39, u 40, u 41, u 42, u 43, u 44, u 45, u 46, u 47, u 48, .func (.func 76) #[] #[.pointer (some ⟨a3, 0, none⟩), .pointer (some ⟨b3, 0, none⟩), .pointer (some ⟨c3, 0, none⟩)], .bool false, .bool false, .func (.func 76) #[] #[.pointer (some ⟨a4, 0, none⟩), .pointer (some ⟨b4, 0, none⟩), .pointer (some ⟨c4, 0, none⟩)], .bool false, .bool false, .func (.func 76) #[] #[.pointer (some ⟨a3, 0, none⟩), .pointer (some ⟨b3, 0, none⟩), .pointer (some ⟨c3, 0, none⟩)], undef, u 57, u 58, u 59, u 60, u 61, u 62, u 63, u 64, u 65, u 66, u 67, u 68, u 69, u 70, .func (.func 76) #[] #[.pointer (some ⟨a4, 0, none⟩), .pointer (some ⟨b4, 0, none⟩), .pointer (some ⟨c4, 0, none⟩)], undef, u 73, u 74, u 75, u 76, u 77, u 78, u 79, u 80, u 81, u 82, u 83, u 84, u 85, u 86, .int .i64 fr, .bool false, .bool false, .int .i64 fr, .string (bs t), .int .i64 t.length, .bool false, .bool false, u 95, u 96, u 97, u 98, u 99, u 100, .string (bs ((pcsOf ot t fr true).reverse.flatten)), .string (bs t), .int .i64 fr, .string (bs (t.take k)), .bool false, .bool false, .string (bs ((pcsOf ot t fr false).flatten)), .string (bs t), .int .i64 fr, .string (bs (t.drop k)), .bool false, .bool false, .int .i64 (((i + 1 : Nat) : Int))]).getD gj undef, i + 1, (w37d.heap.size :: (w28.heap.size :: ds)), rfl, rfl, by omega, by assumption, by assumption, by assumption, by assumption, by assumption, hMs.top⟩
    case hs43 =>
     exact fun _ _ _ _ _ h _ => h.elim
   case hs37 =>
    exact fun _ _ _ _ _ h _ => h.elim
  ·refine tx 28 (.bool false) (by exact ex_bool (c := (i : Int) < rs.length) (by kernel_rfl) ⟨fun q => (by cases q), fun q => absurd q (by omega)⟩) ?_
   simp only [pp]
   refine rl_end hgo <| hKK15 _ _ <| wp_seq_k fun KK56 hKK56 => wp_cond_false (by kernel_rfl) <| wp_exit <| hKK12 _ _ <| wp_seq_k fun KK57 hKK57 => rl_begin fun hgK hgo => ?_
   refine rl_store1 rv (.bool true) rfl rfl (by kernel_rfl) rfl rfl (by kernel_rfl) hrv (by kernel_rfl) fun w58 hU58 hn58 => ?_
   have hz58 := hU58.size
   clear hP
   replace hT := hT.upd hU58 (by omega)
   replace hB := hB.upd hU58 (by omega)
   replace hbk := hbk.upd hU58 (by omega)
   replace hMs := hMs.upd hU58 (⟨_, _, hrv⟩)
   clear hrv
   have hrv := hn58
   clear hn58
   try simp only [pp]
   refine rl_end hgo <| hKK57 _ _ ?_
   refine wp_ret ?_
   try simp only [Exit.then, Exit.inBlock]
   refine bm_marks hMs ?_
   rintro w59 hK59
   replace hB := hB.kcn hK59 (by omega)
   replace hrv := hrv.kcn hK59 (by omega)
   refine bm_ret (v := .bool true) (res1 rfl (res_cell1 (b := rv) (v := .bool true) (by kernel_rfl) (fun _ => by kernel_rfl) hrv)) ?_
   exact ⟨rfl, hB⟩
end Go.Proofs.YtliphfgiaioebaaDoor
namespace Go.Proofs.YtliphfgiaioebaaDoor
set_option linter.unusedVariables false
set_option linter.unusedSimpArgs false
open Go.ChangeShapes Go.WideShapes Go.ChangeAt Go.RowKit Go.Deep
theorem chunks (k : Nat) : ∀ (n : Nat) (cs : List Value) (T : Nat → List Value), cs.length = n * k → (∀ i, i < n → (cs.drop (i * k)).take k = T i) → cs = (List.range n).flatMap T
  | 0, cs, T, h, _ => by simp at h; simp [h]
  | n + 1, cs, T, h, hT => by
    rw [List.range_succ_eq_map, List.flatMap_cons, List.flatMap_map]
    have h0 := hT 0 (by omega)
    simp only [Nat.zero_mul, List.drop_zero] at h0
    have ih := chunks k n (cs.drop k) (fun i => T (i + 1)) (by rw [List.length_drop, h, Nat.add_mul]; omega) fun i hi => by
      have := hT (i + 1) (by omega)
      rw [List.drop_drop, show k + i * k = (i + 1) * k by rw [Nat.add_mul]; omega]
      exact this
    conv => lhs; rw [← List.take_append_drop k cs, h0, ih]
theorem three {cs : List Value} (h : cs.length = 3) : ∃ x y z, cs = [x, y, z] := by
  match cs, h with
  | [x, y, z], _ => exact ⟨x, y, z, rfl⟩
section
variable {H : Type} {enc : TypeId × Value → H} {W : World} {base : Nat} {sp : Nat → Bool} {held : Bool} {fuel : Nat} {cs : List Value} {p : List MemPlace}
theorem span_cells {a b c : Int} (h : DataW.trod enc Tryd.prog W base sp held fuel 201 cs = some (.agg [.lit (.int .i64 a), .lit (.int .i64 b), .lit (.int .i64 c)], p)) : cs = [.int .i64 a, .int .i64 b, .int .i64 c] := by
  obtain ⟨y0, y1, y2, n, hx, hl, h0, h1, h2⟩ := trod_struct3 (show Tryd.prog.underlying 201 = some (.struct #[_, _, _]) from Tryd.underlying201) h
  obtain ⟨z0, c0, e0, -⟩ := DataW.trod_int (k := .i64) (by kernel_rfl) h0
  obtain ⟨z1, c1, e1, -⟩ := DataW.trod_int (k := .i64) (by kernel_rfl) h1
  obtain ⟨z2, c2, e2, -⟩ := DataW.trod_int (k := .i64) (by kernel_rfl) h2
  subst e0 e1 e2
  simp only [Prod.mk.injEq, DataW.agg.injEq, List.cons.injEq, DataW.lit.injEq, Lit.int.injEq, true_and, and_true] at hx
  obtain ⟨⟨rfl, rfl, rfl⟩, -⟩ := hx
  rw [show Tryd.prog.cellsOf 201 = 3 by kernel_rfl] at hl
  clear h h0 h1 h2
  obtain ⟨x, y, z, rfl⟩ := three hl
  rw [show Tryd.prog.cellsOf 3 = 1 by kernel_rfl] at c0 c1
  rw [show Tryd.prog.cellsOf 196 = 1 by kernel_rfl] at c2
  simp at c0 c1 c2
  rw [c0, c1, c2]
theorem step_cells {a b : Int} {c : Bool} (h : DataW.trod enc Tryd.prog W base sp held fuel 158 cs = some (.agg [.lit (.int .i32 a), .lit (.int .i64 b), .lit (.bool c)], p)) : cs = [.int .i32 a, .int .i64 b, .bool c] := by
  obtain ⟨y0, y1, y2, n, hx, hl, h0, h1, h2⟩ := trod_struct3 (show Tryd.prog.underlying 158 = some (.struct #[_, _, _]) from Tryd.underlying158) h
  obtain ⟨z0, c0, e0, -⟩ := DataW.trod_int (k := .i32) (by kernel_rfl) h0
  obtain ⟨z1, c1, e1, -⟩ := DataW.trod_int (k := .i64) (by kernel_rfl) h1
  obtain ⟨z2, c2, e2⟩ := DataW.trod_bool (by kernel_rfl) h2
  subst e0 e1 e2
  simp only [Prod.mk.injEq, DataW.agg.injEq, List.cons.injEq, DataW.lit.injEq, Lit.int.injEq, Lit.bool.injEq, true_and, and_true] at hx
  obtain ⟨⟨rfl, rfl, rfl⟩, -⟩ := hx
  rw [show Tryd.prog.cellsOf 158 = 3 by kernel_rfl] at hl
  clear h h0 h1 h2
  obtain ⟨x, y, z, rfl⟩ := three hl
  rw [show Tryd.prog.cellsOf 21 = 1 by kernel_rfl] at c0
  rw [show Tryd.prog.cellsOf 3 = 1 by kernel_rfl] at c1
  rw [show Tryd.prog.cellsOf 4 = 1 by kernel_rfl] at c2
  simp at c0 c1 c2
  rw [c0, c1, c2]
theorem spans_cells {T : List (Int × Int × Int)} (hT : T.length = 7) (h : DataW.trod enc Tryd.prog W base sp held fuel 202 cs = some (.agg (T.map fun x => .agg [.lit (.int .i64 x.1), .lit (.int .i64 x.2.1), .lit (.int .i64 x.2.2)]), p)) :
    cs = (List.range 7).flatMap fun i => (match T[i]? with | some x => [.int .i64 x.1, .int .i64 x.2.1, .int .i64 x.2.2] | none => []) := by
  obtain ⟨xs, m, -, hx, hl, hlen, hi⟩ := DataW.trod_array Tryd.underlying202 h
  rw [show Tryd.prog.cellsOf 202 = 7 * 3 by kernel_rfl] at hl
  simp only [show Tryd.prog.cellsOf 201 = 3 by kernel_rfl] at hi
  simp only [Prod.mk.injEq, DataW.agg.injEq] at hx
  refine chunks 3 7 cs _ hl fun i hi7 => ?_
  have h1 := hi i hi7
  have h2 := congrArg (·[i]?) hx.1
  simp only [List.getElem?_map] at h2
  rw [List.getElem?_eq_getElem (by omega : i < T.length), List.getElem?_eq_getElem (by omega : i < xs.length)] at h2
  rw [List.getElem?_eq_getElem (by omega : i < xs.length)] at h1
  rw [List.getElem?_eq_getElem (by omega : i < T.length)]
  simp only [Option.map_some, Option.some.injEq] at h2
  refine span_cells (p := xs[i].2) (h1.trans ?_)
  rw [h2]
end
theorem tabs_laid {W : World} (h : laidMetH Tryd.prog Rows.ropeNilUptoRow.laid W) : Tabs W := by
  have h' : laidMet Tryd.prog [("galley/octet.spans", Rows.laid_galley_octet_spans), ("galley/octet.needs", Rows.laid_galley_octet_needs), ("galley/octet.masks", Rows.laid_galley_octet_masks), ("galley/step.bad", Rows.laid_galley_step_bad)] W := h
  obtain ⟨ps, ⟨g1, t1, cs1, f1, p1, q1, hg1, ht1, hv1, hd1, ⟨g2, t2, cs2, f2, p2, q2, hg2, ht2, hv2, hd2, ⟨g3, t3, cs3, f3, p3, q3, hg3, ht3, hv3, hd3, ⟨g4, t4, cs4, f4, p4, q4, hg4, ht4, hv4, hd4, -, -⟩, -⟩, -⟩, -⟩, -⟩ := h'
  obtain rfl := Option.some.inj ((show Tryd.prog.globalNamed "galley/octet.spans" = some 3 by kernel_rfl).symm.trans hg1)
  obtain rfl := Option.some.inj ((show Tryd.prog.globalNamed "galley/octet.needs" = some 2 by kernel_rfl).symm.trans hg2)
  obtain rfl := Option.some.inj ((show Tryd.prog.globalNamed "galley/octet.masks" = some 0 by kernel_rfl).symm.trans hg3)
  obtain rfl := Option.some.inj ((show Tryd.prog.globalNamed "galley/step.bad" = some 1 by kernel_rfl).symm.trans hg4)
  obtain rfl := Option.some.inj ((show (Tryd.prog.globals[3]?).map (·.type) = some 202 by kernel_rfl).symm.trans ht1)
  obtain rfl := Option.some.inj ((show (Tryd.prog.globals[2]?).map (·.type) = some 199 by kernel_rfl).symm.trans ht2)
  obtain rfl := Option.some.inj ((show (Tryd.prog.globals[0]?).map (·.type) = some 192 by kernel_rfl).symm.trans ht3)
  obtain rfl := Option.some.inj ((show (Tryd.prog.globals[1]?).map (·.type) = some 158 by kernel_rfl).symm.trans ht4)
  have e1 : cs1.toList = spanCells := spans_cells (T := [(0, 127, 1), (128, 191, 2), (192, 193, 6), (194, 223, 3), (224, 239, 4), (240, 244, 5), (245, 255, 6)]) rfl hd1
  have e2 : cs2.toList = needCells := Lib.cells_of_tab (k := .i64) (zs := [0, 1, 0, 2, 3, 4, 0]) Tryd.underlying199 Tryd.underlying3 (by kernel_rfl) (by kernel_rfl) hd2
  have e3 : cs3.toList = maskCells := Lib.cells_of_tab (k := .u8) (zs := [0, 127, 31, 15, 7]) Tryd.underlying192 Tryd.underlying5 (by kernel_rfl) (by kernel_rfl) hd3
  have e4 : cs4.toList = badCells := step_cells hd4
  have key : ∀ {n : String} {g : Nat} {cs : Array Value} {l : List Value}, Tryd.prog.globalNamed n = some g → W.var? Tryd.prog n = some cs → cs.toList = l → ∀ i v, l[i]? = some v → W.cell? ⟨g, i, none⟩ = some v := fun hg hv e i v hi => by
    rw [World.var?_cell hg hv i, ← Array.getElem?_toList, e]; exact hi
  exact ⟨key hg1 hv1 e1, key hg2 hv2 e2, key hg3 hv3 e3, key hg4 hv4 e4⟩
end Go.Proofs.YtliphfgiaioebaaDoor
namespace Go.Proofs.YtliphfgiaioebaaDoor
set_option linter.unusedVariables false
set_option linter.unusedSimpArgs false
open Go.ChangeShapes Go.WideShapes Go.ChangeAt Go.RowKit Go.Deep
set_option maxRecDepth 100000
namespace glue
theorem one_le {H : Type} (d : DataW H) : 1 ≤ Rows.uptoBulk d := by
  cases d with
  | lit l => cases l <;> simp [Rows.uptoBulk]
  | nil => simp [Rows.uptoBulk]
  | ptr d => simp [Rows.uptoBulk]
  | slice elems spare => simp [Rows.uptoBulk]
  | agg parts => simp [Rows.uptoBulk]
  | iface t d => simp [Rows.uptoBulk]
  | map entries => simp [Rows.uptoBulk]
  | held h => simp [Rows.uptoBulk]
theorem length_le {H : Type} (l : List (DataW H)) : l.length ≤ Rows.uptoBulkAll l := by
  induction l with
  | nil => simp [Rows.uptoBulkAll]
  | cons x r ih => have := one_le x; simp only [Rows.uptoBulkAll, List.length_cons]; omega
theorem mem_le {H : Type} {l : List (DataW H)} {d : DataW H} (h : d ∈ l) : Rows.uptoBulk d ≤ Rows.uptoBulkAll l := by
  induction l with
  | nil => cases h
  | cons x r ih =>
    simp only [Rows.uptoBulkAll]
    rcases List.mem_cons.1 h with rfl | h
    · omega
    · have := ih h; omega
theorem slice_le {H : Type} (elems spare : List (DataW H)) : elems.length + spare.length + 1 ≤ Rows.uptoBulk (.slice elems spare) := by
  have h1 := length_le elems
  have h2 := length_le spare
  simp only [Rows.uptoBulk]
  omega
def setG (h : Array Obj) (g : Nat) (cs : List Value) : Array Obj := h.modify g fun
  | .cells _ t frozen => .cells cs.toArray t frozen
  | o => o
/-- a world that holds the four laid variables -/
noncomputable def laidWorld (os : Os) : World :=
  { World.holding Tryd.prog os ⟨#[], #[], []⟩ with heap := setG (setG (setG (setG (World.holding Tryd.prog os ⟨#[], #[], []⟩).heap 3 spanCells) 2 needCells) 0 maskCells) 1 badCells }
theorem own : ownKnob Tryd.prog.godebug = none := by kernel_rfl
theorem laidOut : laidOutB Tryd.prog = true := by kernel_rfl
section
variable {H : Type} {enc : TypeId × Value → H}
theorem back {W W' : World} (hb : Below W.heap.size W W') : ∀ (ts : List TypeId) (vs : List Value) (ds : List (DataW H)) (p : List MemPlace), DataW.TrodAll enc Tryd.prog W 0 (fun _ => true) true ts vs ds p →
    (∀ t ∈ ts, Tryd.prog.readableRec t = true ∧ t < Tryd.prog.types.size) → (∀ x ∈ p, x.block < W.heap.size) → DataW.TrodAll enc Tryd.prog W' 0 (fun b => decide (b < W.heap.size)) true ts vs ds p
  | [], [], [], p, h, _, _ => h
  | t :: ts, v :: vs, d :: ds, p, ⟨p1, p2, h1, h2, e⟩, ht, hp =>
    ⟨p1, p2, Below.trod laidOut (ht t (by simp)).1 (ht t (by simp)).2 h1 hb (fun x hx => hp x (by rw [e]; simp [hx])), back hb ts vs ds p2 h2 (fun t h => ht t (by simp [h])) (fun x hx => hp x (by rw [e]; simp [hx])), e⟩
  | [], _ :: _, _, _, h, _, _ => by cases h
  | [], [], _ :: _, _, h, _, _ => by cases h
  | _ :: _, [], _, _, h, _, _ => by cases h
  | _ :: _, _ :: _, [], _, h, _, _ => by cases h
/-- a slice of bytes that came in -/
theorem open_bytes0 {W : World} {a1 : Value} {fuel : Nat} {x : DataW H × List MemPlace} (hf : DataW.trod enc Tryd.prog W 0 (fun _ => true) true fuel 41 [a1] = some x) :
    ∃ (A : Option Addr) (c : Nat) (l : List UInt8), a1 = .slice A l.length c ∧ BytesAt W A l ∧ l.length ≤ c ∧ (A = none → c = 0) ∧ l.length ≤ Rows.uptoBulk x.1 := by
  rcases open_ints Tryd.underlying41 Tryd.underlying5 (by kernel_rfl) hf with ⟨hcs, hx⟩ | ⟨a, len', cap', zs, hcs, _, hl, hm, hz, hx, hcell, hwz⟩
  · simp only [List.cons.injEq, and_true] at hcs
    subst hcs
    exact ⟨none, 0, [], rfl, BytesAt.nil _ _, Nat.le_refl _, fun _ => rfl, Nat.zero_le _⟩
  · simp only [List.cons.injEq, and_true] at hcs
    subst hcs hx
    simp only [if_true] at hz
    have hlen : ((zs.take len').map fun n => UInt8.ofNat n.toNat).length = len' := by simp; omega
    refine ⟨some a, cap', (zs.take len').map fun n => UInt8.ofNat n.toNat, by rw [hlen], fun h0 => ?_, by rw [hlen]; exact hl, (fun e => by cases e), ?_⟩
    · rw [hlen] at h0
      obtain ⟨ab, ao, spot⟩ := a
      have hspot : spot = none := by simpa [Addr.add] using World.cell?_spot (hcell 0 (by omega))
      subst hspot
      refine ⟨ab, ao, rfl, fun i hi => ?_⟩
      rw [hlen] at hi
      have hc := hcell i (by omega)
      rw [Addr.add_lit] at hc
      rw [hc]
      have hb := range_u8 hwz i
      have e : zs[i]? = some (zs[i]'(by omega)) := List.getElem?_eq_getElem (by omega)
      have hg : gb ((zs.take len').map fun n => UInt8.ofNat n.toNat) i = zs.getD i 0 := by
        unfold gb
        rw [List.getD_eq_getElem?_getD, List.getElem?_map, List.getElem?_take, if_pos hi, e, List.getD_eq_getElem?_getD, e]
        rw [e] at hb
        simp only [Option.map_some, Option.getD_some, UInt8.toNat_ofNat'] at hb ⊢
        omega
      rw [hg]
    · rw [hlen]
      have := slice_le (lits (H := H) .u8 (zs.take len')) (lits .u8 (zs.drop len'))
      have h1 : (lits (H := H) .u8 (zs.take len')).length = len' := by simp [lits]; omega
      simp only
      omega
theorem open_bytes {W : World} {base : Nat} {v : Value} {d : DataW H} {p : List MemPlace} (hval : Value.okWide Tryd.prog W .any base 41 v) (h : DataW.Trod enc Tryd.prog W 0 (fun _ => true) true 41 v d p) :
    ∃ (A : Option Addr) (c : Nat) (l : List UInt8), v = .slice A l.length c ∧ BytesAt W A l ∧ l.length ≤ c ∧ (A = none → c = 0) ∧ l.length ≤ Rows.uptoBulk d := by
  obtain ⟨a1, len, cap, rfl⟩ := okWide_slice Tryd.underlying41 hval
  obtain ⟨fuel, hf⟩ := h
  exact open_bytes0 (x := (d, p)) (hf : DataW.trod enc Tryd.prog W 0 (fun _ => true) true fuel 41 [.slice a1 len cap] = some (d, p))
theorem list_of {α : Type} {P : Nat → α → Prop} : ∀ n : Nat, (∀ i, i < n → ∃ x, P i x) → ∃ l : List α, l.length = n ∧ ∀ i x, l[i]? = some x → P i x
  | 0, _ => ⟨[], rfl, fun i x h => by simp at h⟩
  | n + 1, h => by
    obtain ⟨l, h1, h2⟩ := list_of n fun i hi => h i (by omega)
    obtain ⟨x, hx⟩ := h n (by omega)
    refine ⟨l ++ [x], by simp [h1], fun i y hy => ?_⟩
    rcases Nat.lt_or_ge i l.length with hi | hi
    · rw [List.getElem?_append_left hi] at hy; exact h2 i y hy
    · rw [List.getElem?_append_right hi] at hy
      have : i - l.length = 0 := by
        have := (List.getElem?_eq_some_iff.1 hy).1; simp at this; omega
      rw [this] at hy; simp at hy; subst hy
      rwa [show i = n by omega]
theorem open_slice_fields {P : Program} {w : World} {base : Nat} {spare : Nat → Bool} {held : Bool} {t e : TypeId} {fs : Array Field} {fuel : Nat} {cs : List Value} {x : DataW H × List MemPlace} (ht : P.underlying t = some (.slice e)) (he : P.underlying e = some (.struct fs))
    (hone : oneCellFields P fs = true) (hC : P.cellsOf e = fs.size) (h : DataW.trod enc P w base spare held fuel t cs = some x) :
    (cs = [.slice none 0 0] ∧ x = (.nil, [])) ∨
    ∃ (a : Addr) (len cap m : Nat) (D : Nat → DataW H) (Pl : Nat → List MemPlace), cs = [.slice (some a) len cap] ∧ base ≤ a.block ∧ len ≤ cap ∧ cap ≤ maxLen ∧ m = (if spare a.block then cap else len) ∧
      x = (.slice ((List.range len).map D) ((List.range (m - len)).map fun j => D (len + j)), MemPlace.row a (m * fs.size) ++ (List.range m).flatMap Pl) ∧
      ∀ i, i < m → ∃ (ys : List (DataW H × List MemPlace)) (n : Nat), D i = .agg (ys.map (·.1)) ∧ Pl i = ys.flatMap (·.2) ∧ ys.length = fs.size ∧
        ∀ (j : Nat) (f : Field), fs[j]? = some f → ∃ (v : Value) (y : DataW H × List MemPlace), w.cell? (a.add (i * fs.size + j)) = some v ∧ ys[j]? = some y ∧ DataW.trod enc P w base spare held n f.type [v] = some y := by
  rcases open_slice ht h with h0 | ⟨a, len, cap, m, n, D, Pl, hcs, hb, hl, hm, hmm, hx, hi⟩
  · exact .inl h0
  · refine .inr ⟨a, len, cap, m, D, Pl, hcs, hb, hl, hm, hmm, by rw [hC] at hx; exact hx, fun i him => ?_⟩
    obtain ⟨cs', hc, ht'⟩ := hi i him
    rw [hC] at hc
    obtain ⟨ys, n', hn', hy, hlen, hyl, hf⟩ := DataW.trod_struct he ht'
    obtain ⟨_, hcl, hat⟩ := World.cells?_some hc
    simp only [Prod.mk.injEq] at hy
    refine ⟨ys, n', hy.1, hy.2, hyl, fun j f hj => ?_⟩
    obtain ⟨ho, hk⟩ := hone_of hone j f hj
    have hjl : j < fs.size := (Array.getElem?_eq_some_iff.1 hj).1
    have hcell := hat j hjl
    have hv : cs'[j]? = some (cs'[j]'(by omega)) := List.getElem?_eq_getElem (by omega)
    have h1 := hf j f hj
    rw [ho, hk] at h1
    have hone' : (cs'.drop j).take 1 = [cs'[j]'(by omega)] := by
      rw [List.drop_eq_getElem_cons (by omega)]
      rfl
    rw [hone'] at h1
    have hys : ys[j]? = some (ys[j]'(by omega)) := List.getElem?_eq_getElem (by omega)
    refine ⟨_, _, ?_, hys, h1.trans hys⟩
    rw [← Go.Deep.add_add, hcell, hv]
/-- acts that came in -/
theorem open_acts {W : World} {base : Nat} {v : Value} {d : DataW H} {p : List MemPlace} (hval : Value.okWide Tryd.prog W .any base 22 v) (h : DataW.Trod enc Tryd.prog W 0 (fun _ => true) true 22 v d p) (hk : Rows.uptoBulk d ≤ 1048576) :
    ∃ (A : Option Addr) (c : Nat) (l : List ActD), v = .slice A l.length c ∧ ActsAt W.heap.size W A l ∧ l.length ≤ c ∧ l.length ≤ 1100000 := by
  obtain ⟨a1, len, cap, rfl⟩ := okWide_slice Tryd.underlying22 hval
  obtain ⟨fuel, hf⟩ := h
  rcases open_slice_fields Tryd.underlying22 Tryd.underlying105 (by kernel_rfl) (by kernel_rfl) hf with ⟨hcs, hx⟩ | ⟨a, len', cap', m, D, Pl, hcs, _, hl, _, hm, hx, hi⟩
  · simp [Value.cells] at hcs
    obtain ⟨rfl, rfl, rfl⟩ := hcs
    exact ⟨none, 0, [], rfl, ⟨Nat.le_refl _, by simp, fun h => absurd h (by simp)⟩, Nat.le_refl _, Nat.zero_le _⟩
  · simp [Value.cells] at hcs
    obtain ⟨rfl, rfl, rfl⟩ := hcs
    simp only [Prod.mk.injEq] at hx
    obtain ⟨rfl, rfl⟩ := hx
    simp only [if_true] at hm
    have hbulk := slice_le ((List.range len).map D) ((List.range (m - len)).map fun j => D (len + j))
    simp only [List.length_map, List.length_range] at hbulk
    have hall : Rows.uptoBulkAll ((List.range len).map D) ≤ 1048576 := by simp only [Rows.uptoBulk] at hk; omega
    have key : ∀ i, i < len → ∃ x : ActD, x.ok W.heap.size W ∧ ∀ j v, x.v[j]? = some v → W.cell? (a.add (i * 6 + j)) = some v := fun i hil => by
      obtain ⟨ys, n, hD, -, hyl, hj⟩ := hi i (by omega)
      obtain ⟨v0, y0, k0, g0, t0⟩ := hj 0 _ rfl
      obtain ⟨v1, y1, k1, g1, t1⟩ := hj 1 _ rfl
      obtain ⟨v2, y2, k2, g2, t2⟩ := hj 2 _ rfl
      obtain ⟨v3, y3, k3, g3, t3⟩ := hj 3 _ rfl
      obtain ⟨v4, y4, k4, g4, t4⟩ := hj 4 _ rfl
      obtain ⟨v5, y5, k5, g5, t5⟩ := hj 5 _ rfl
      obtain ⟨z0, e0, -⟩ := DataW.trod_int (k := .i64) Tryd.underlying3 t0
      obtain ⟨z1, e1, -⟩ := DataW.trod_int (k := .i64) Tryd.underlying3 t1
      obtain ⟨z2, e2, -⟩ := DataW.trod_int (k := .i64) Tryd.underlying3 t2
      obtain ⟨z3, e3, -⟩ := DataW.trod_int (k := .i64) Tryd.underlying3 t3
      obtain ⟨z4, e4, -⟩ := DataW.trod_int (k := .i64) Tryd.underlying3 t4
      simp only [List.cons.injEq, and_true] at e0 e1 e2 e3 e4
      obtain ⟨A, c, l, rfl, hb, hc, hn, hu⟩ := open_bytes0 t5
      have hle : Rows.uptoBulk y5.1 ≤ 1048576 := by
        have h1 : y5.1 ∈ ys.map (·.1) := List.mem_map.2 ⟨y5, List.mem_of_getElem? g5, rfl⟩
        have h2 := mem_le h1
        have h3 : D i ∈ (List.range len).map D := List.mem_map.2 ⟨i, List.mem_range.2 hil, rfl⟩
        have h4 := mem_le h3
        rw [hD] at h4
        simp only [Rows.uptoBulk] at h4
        omega
      refine ⟨⟨z0, z1, z2, z3, z4, A, c, l⟩, ⟨hb.n, hc, hn, by show l.length ≤ 2000000; omega⟩, fun j v hv => ?_⟩
      subst e0 e1 e2 e3 e4
      simp only [ActD.v] at hv
      match j, hv with
      | 0, hv => cases hv; exact k0
      | 1, hv => cases hv; exact k1
      | 2, hv => cases hv; exact k2
      | 3, hv => cases hv; exact k3
      | 4, hv => cases hv; exact k4
      | 5, hv => cases hv; exact k5
      | _ + 6, hv => simp at hv
    obtain ⟨l, rfl, hll⟩ := list_of len key
    refine ⟨some a, cap, l, rfl, ⟨Nat.le_refl _, fun x hx => ?_, fun h0 => ?_⟩, hl, by omega⟩
    · obtain ⟨i, hi'⟩ := List.getElem?_of_mem hx
      exact (hll i x hi').1
    · obtain ⟨x, hx⟩ : ∃ x, l[0]? = some x := ⟨_, List.getElem?_eq_getElem h0⟩
      have hc0 := (hll 0 x hx).2 0 _ rfl
      obtain ⟨ab, ao, spot⟩ := a
      have hspot : spot = none := by simpa [Addr.add] using World.cell?_spot hc0
      subst hspot
      have hlt := World.block_lt_of_cell? W _ hc0
      rw [add_none] at hlt
      refine ⟨ab, ao, rfl, hlt, fun i x j v hx hv => ?_⟩
      have := (hll i x hx).2 j v hv
      rwa [add_none, ← Nat.add_assoc] at this
end
end glue
end Go.Proofs.YtliphfgiaioebaaDoor
namespace Go.Proofs.YtliphfgiaioebaaDoor.ropePieces
set_option linter.unusedVariables false
set_option linter.unusedSimpArgs false
open Go.ChangeShapes Go.WideShapes Go.ChangeAt Go.RowKit Go.Deep Go.Proofs.YtliphfgiaioebaaDoor
set_option maxRecDepth 100000
section
variable {H : Type} {enc : TypeId × Value → H}
theorem contract (W : World) (base : Nat) (args : Array Value) (ds gs : List (DataW H)) (before : List MemPlace)
    (hval : ∀ (j : Nat) t v, Tryd.f7.params[j]? = some t → args[j]? = some v → Value.okWide Tryd.prog W .any base t v)
    (hW : DataW.Whole enc Tryd.prog Tryd.f7.params.toList Rows.ropePiecesSpec.vars false W args.toList ds gs before) (hL : laidMetH Tryd.prog Rows.ropePiecesUptoRow.laid W) (hk : Rows.uptoSmall H (ds ++ gs) = true) :
    Calls Tryd.prog 7 args W fun e W' => ∃ v, e = .returned v ∧ Rows.ropePiecesSpec.post enc Tryd.prog Tryd.f7 false true false false W args v W' := by
  have hW' := hW
  obtain ⟨p, q, hA0, hV, rfl, hfz, hnd⟩ := hW
  have hlt : ∀ x ∈ p, x.block < W.heap.size := fun x hx => hW'.lt x (List.mem_append_left _ hx)
  have hA : DataW.TrodAll enc Tryd.prog W 0 (fun _ => true) true Tryd.f7.params.toList args.toList ds p := hA0
  rw [Tryd.params7] at hA hval
  obtain ⟨v0, v1, d0, d1, p0, p1, hargs, rfl, rfl, h0, h1⟩ := trodAll_two hA
  obtain rfl : args = #[v0, v1] := by cases args; simp_all
  obtain ⟨rfl, rfl⟩ := trodVars_none hV
  have hsm : Rows.uptoBulkAll [d0, d1] ≤ 1048576 := by simpa [Rows.uptoSmall] using hk
  simp only [Rows.uptoBulkAll] at hsm
  obtain ⟨A0, c0, l0, rfl, hb0, hc0, hm0⟩ := glue.open_acts (hval 0 22 v0 rfl rfl) h0 (by omega)
  obtain ⟨a1, rfl, rfl, -, w1⟩ := open_int Tryd.underlying3 (hval 1 3 v1 rfl rfl) h1
  refine (RopePieces_walk A0 c0 l0 a1 W (tabs_laid hL) hb0 hc0 hm0).mono fun e W' ⟨he, hl⟩ => ?_
  subst he
  have ht : ∀ t ∈ Tryd.f7.params.toList, Tryd.prog.readableRec t = true ∧ t < Tryd.prog.types.size := by
    rw [Tryd.params7]
    intro t ht
    simp only [List.mem_cons, List.not_mem_nil, or_false] at ht
    rcases ht with rfl | rfl
    all_goals exact ⟨by kernel_rfl, of_decide_eq_true (by kernel_rfl)⟩
  exact ⟨_, rfl, _, _, _, _, _, _, hW', trodAll_cons_mk (shut_bool Tryd.underlying4 _) trodAll_mk0, glue.back hl _ _ _ _ hA0 ht hlt, rfl, Below.frame hl _, fun h => by cases h⟩
end
end Go.Proofs.YtliphfgiaioebaaDoor.ropePieces
