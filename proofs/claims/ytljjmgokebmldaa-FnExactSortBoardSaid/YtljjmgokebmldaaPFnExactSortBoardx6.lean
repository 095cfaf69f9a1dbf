-- WRITTEN by xprint.py, a program of this session's. Not trusted: Lean checks it.
-- packed by pack.py
import Derived.Shelf.SlSortCmp.WholeK
import Derived.Ground.SlsfProg
import Derived.Test.YtljjmgokebmldaaPFnExactSortBoardx0
import Derived.Test.YtljjmgokebmldaaPFnExactSortBoardx5
import Derived.Test.YtljjmgokebmldaaTFnExactSortBoarda
namespace Go.Proofs.Ytljjmgokebmldaa.PFnExactSortBoard
open Go.RowKit Go.Proofs.YtljjmgokebmldaaW.PrintWords Go.Proofs.YtljjmgokebmldaaW.PrintLast Go.Proofs.YtljjmgokebmldaaW.PrintMore Go.Proofs.YtljjmgokebmldaaX
attribute [local go_sem] max2_int min2_int max_two min_two max_three min_three max_four min_four   -- for this text's walks alone
set_option maxRecDepth 100000
set_option linter.unusedVariables false
set_option linter.unusedSimpArgs false

/-- A world that an elder one leads to by draws and new blocks alone. -/
def Gr (W w' : World) : Prop := ∃ (q : Nat) (os : Array Obj), w' = Go.Sort.grow (W.drewN q) os
theorem Gr.refl (W : World) : Gr W W := ⟨0, #[], by rw [Go.Sort.grow_empty]; rfl⟩
theorem Gr.alloc {W w : World} (h : Gr W w) (o : Obj) : Gr W (w.alloc o) := by
 obtain ⟨q, os, rfl⟩ := h
 exact ⟨q, os ++ #[o], by rw [Go.Sort.alloc_eq_grow, Go.Sort.grow_grow]⟩
theorem Gr.drewN {W w : World} (h : Gr W w) (m : Nat) : Gr W (w.drewN m) := by
 obtain ⟨q, os, rfl⟩ := h
 exact ⟨q + m, os, by rw [← World.drewN_drewN]; rfl⟩
theorem Gr.drew {W w : World} (h : Gr W w) : Gr W w.drew := h.drewN 1
theorem Gr.trans {W w w1 : World} (h : Gr W w) (h1 : Gr w w1) : Gr W w1 := by
 obtain ⟨q, os, rfl⟩ := h1
 obtain ⟨q0, os0, e⟩ := (Gr.drewN h q)
 exact ⟨q0, os0 ++ os, by rw [e, Go.Sort.grow_grow]⟩
def cmp3 (a b : Int) : Int := if a < b then -1 else if a > b then 1 else 0
set_option maxHeartbeats 4000000 in
theorem nan8 (a : Int) (W : World) : Calls Try.prog 48 #[.int .i8 a] W fun e w' => e = .returned (.bool false) ∧ Gr W w' := by
 go_enter Try.func48, Try.ntmps48
 go_wp2
 go_ret
 exact ⟨rfl, Gr.refl _⟩
set_option maxHeartbeats 4000000 in
theorem cmp8 (a b : Int) (W : World) : Calls Try.prog 34 #[.int .i8 a, .int .i8 b] W fun e w' => e = .returned (.int .i64 (cmp3 a b)) ∧ Gr W w' := by
 unfold cmp3
 go_enter Try.func34, Try.ntmps34
 go_wp2_with (first | ((with_reducible refine gate_callee (f := 48) rfl ?_); refine goesL_ (some 8) rfl rfl Try.func48 (by kernel_rfl) rfl #[.int .i8 a] rfl zm ?_; (refine (nan8 a _).mono ?_); rintro e w1 ⟨rfl, h1⟩; refine ⟨_, rfl, ?_⟩) | ((with_reducible refine gate_callee (f := 48) rfl ?_); refine goesL_ (some 10) rfl rfl Try.func48 (by kernel_rfl) rfl #[.int .i8 b] rfl zm ?_; (refine (nan8 b _).mono ?_); rintro e w2 ⟨rfl, h2⟩; refine ⟨_, rfl, ?_⟩))
 all_goals (go_ret; exact ⟨rfl, h1.trans h2⟩)
theorem cmp8_ {a b c : Int} (h : cmp3 a b = c) (W : World) : Calls Try.prog 34 #[.int .i8 a, .int .i8 b] W fun e w' => e = .returned (.int .i64 c) ∧ Gr W w' := h ▸ cmp8 a b W
theorem dec_eq_f {p : Prop} [Decidable p] (h : ¬ p) : decide p = false := decide_eq_false h
def or2 (x y : Int) : Int := if x = 0 then y else x
set_option maxHeartbeats 4000000 in
theorem or_calls (g : Nat) (x y : Int) (W : World) (h0 : W.cell? ⟨g, 0, none⟩ = some (.int .i64 x)) (h1 : W.cell? ⟨g, 1, none⟩ = some (.int .i64 y)) : Calls Try.prog 33 #[.slice (some ⟨g, 0, none⟩) 2 2] W fun e w' => e = .returned (.int .i64 (or2 x y)) ∧ Gr W w' := by
 unfold or2
 go_enter Try.func33, Try.ntmps33
 go_wp2
 go_loop [8] (fun v8 => ∃ i : Nat, v8 = .int .i64 (i : Int) ∧ i ≤ 2 ∧ (1 ≤ i → x = 0) ∧ (2 ≤ i → y = 0)) (fun v8 => 2 - (intOf v8).toNat)
 case atStart => exact ⟨0, rfl, by omega, by omega, by omega⟩
 obtain ⟨i, rfl, hi, hx, hy⟩ := hrel
 have h3 : i = 0 ∨ i = 1 ∨ i = 2 := by omega
 rcases h3 with rfl | rfl | rfl
 rotate_left 2
 ·obtain rfl := hx (by omega)
  obtain rfl := hy (by omega)
  go_wp2
  go_ret
  exact ⟨rfl, Gr.refl _⟩
 ·by_cases c : x = 0
  ·subst c
   go_wp2
   exact ⟨⟨1, rfl, by omega, fun _ => trivial, fun h => by omega⟩, by decide⟩
  have c1 : (x != 0) = true := by simpa using c
  have c2 : (x == 0) = false := by simpa using c
  go_wp2
  go_ret
  exact ⟨rfl, Gr.refl _⟩
 obtain rfl := hx (Nat.le_refl _)
 by_cases c : y = 0
 ·subst c
  go_wp2
  exact ⟨⟨2, rfl, by omega, fun _ => trivial, fun _ => trivial⟩, by decide⟩
 have c1 : (y != 0) = true := by simpa using c
 have c2 : (y == 0) = false := by simpa using c
 go_wp2
 go_ret
 exact ⟨rfl, Gr.refl _⟩
theorem Gr.blk {W w : World} (h : Gr W w) {g : Nat} {o : Obj} (hb : W.heap[g]? = some o) : w.heap[g]? = some o := by
 obtain ⟨q, os, rfl⟩ := h
 have hl := (Array.getElem?_eq_some_iff.1 hb).1
 show (W.heap ++ os)[g]? = some o
 rw [Array.getElem?_append_left hl]
 exact hb
def cellCmp (x0 x1 y0 y1 : Int) : Int := or2 (cmp3 x1 y1) (cmp3 x0 y0)
def ordT1 : Bool × List (List Nat × List Nat) := (true, [([], []), ([0], [0]), ([], []), ([2], [2]), ([1, 3], [1, 3]), ([], []), ([5], [5]), ([], []), ([7], [7]), ([6, 8, 4], [6, 8]), ([4, 9], [4, 9]), ([10, 9], [10]), ([11, 11, 0, 1, 2, 3, 4, 5, 6, 7, 8, 9, 10, 11], [11])])
def ordB1 : List Nat := [0, 1, 0, 4, 15, 0, 32, 0, 128, 511, 1023, 2047, 4095]
theorem ordtab1 : rtab .any (opsOf Try.f20 1) = ordT1 := by kernel_rfl
theorem ordbits1 : waitsOk ordT1.2 ordB1 = true := by kernel_rfl
set_option maxHeartbeats 4000000 in
theorem order_calls (x0 x1 y0 y1 : Int) (W : World) : Calls Try.prog 20 #[.agg #[.int .i8 x0, .int .i8 x1], .agg #[.int .i8 y0, .int .i8 y1]] W fun e w' => e = .returned (.int .i64 (cellCmp x0 x1 y0 y1)) ∧ Gr W w' := by
 unfold cellCmp
 obtain ⟨c1, hc1⟩ : ∃ c, cmp3 x1 y1 = c := ⟨_, rfl⟩
 obtain ⟨c0, hc0⟩ : ∃ c, cmp3 x0 y0 = c := ⟨_, rfl⟩
 rw [hc1, hc0]
 have C1 := Aside0.mk hc1
 have C0 := Aside0.mk hc0
 clear hc1 hc0
 have hu41 := Try.underlying41
 go_enter Try.func20, Try.ntmps20
 go_wp2_with fail
 obtain ⟨w7, h7⟩ : ∃ w7, w7 = (W.alloc (.cells #[.int .i8 x0, .int .i8 x1] 41)).alloc (.cells #[.int .i8 y0, .int .i8 y1] 41) := ⟨_, rfl⟩
 have BK182 : Aside0 (w7.heap[W.heap.size]? = some (.cells #[.int .i8 x0, .int .i8 x1] 41)) := ⟨by rw [h7]; exact (heap_alloc_old _ _ (by simp)).trans (heap_alloc_new _ _)⟩
 have BK183 : Aside0 (w7.heap[W.heap.size + 1]? = some (.cells #[.int .i8 y0, .int .i8 y1] 41)) := ⟨by rw [h7]; have := heap_alloc_new (W.alloc (.cells #[.int .i8 x0, .int .i8 x1] 41)) (.cells #[.int .i8 y0, .int .i8 y1] 41); simpa using this⟩
 have HG : Aside0 (Gr W w7) := ⟨by rw [h7]; exact ((Gr.refl W).alloc _).alloc _⟩
 rw [← h7]
 clear h7
 have n_ : _ ∧ _ ∧ _ := ⟨Aside0.mk (blk_drew BK182.out), Aside0.mk (blk_drew BK183.out), Aside0.mk HG.out.drew⟩
 clear BK182 BK183 HG
 obtain ⟨BK182, BK183, HG⟩ := n_
 refine start_ (n := 13) (S := fun w' => w'.cell? ⟨W.heap.size, 0, none⟩ = some (.int .i8 x0) ∧ w'.cell? ⟨W.heap.size, 1, none⟩ = some (.int .i8 x1) ∧ w'.cell? ⟨W.heap.size + 1, 0, none⟩ = some (.int .i8 y0) ∧ w'.cell? ⟨W.heap.size + 1, 1, none⟩ = some (.int .i8 y1)) (ds := []) (zq 13 0) (by kernel_rfl) rfl rfl ⟨(blk_cell BK182.out 0).trans rfl, (blk_cell BK182.out 1).trans rfl, (blk_cell BK183.out 0).trans rfl, (blk_cell BK183.out 1).trans rfl⟩ (fun hHeld => ?_); refine with_tabW ordtab1 ordbits1 (fun HT_ HW_ => ?_)
 generalize w7.drew = w8 at BK182 BK183 HG hHeld ⊢
 refine zpu 0 (some 5) (zq 13 1) HT_ ?_
 refine zpu 2 (some 7) (zq 13 5) HT_ ?_
 refine zpu 5 (some 10) (zq 13 37) HT_ ?_
 refine zpu 7 (some 12) (zq 13 165) HT_ ?_
 refine ztk 1 (some 6) (zq 13 167) HT_ HW_ rfl hHeld (Or.inl ⟨by rfl, by (rintro w' ⟨s0, s1, s2, s3⟩; go_simp; with_reducible rfl)⟩) ?_
 refine ztk 3 (some 8) (zq 13 175) HT_ HW_ rfl hHeld (Or.inl ⟨by rfl, by (rintro w' ⟨s0, s1, s2, s3⟩; go_simp; with_reducible rfl)⟩) ?_
 refine ztk 6 (some 11) (zq 13 239) HT_ HW_ rfl hHeld (Or.inl ⟨by rfl, by (rintro w' ⟨s0, s1, s2, s3⟩; go_simp; with_reducible rfl)⟩) ?_
 refine ztk 8 (some 13) (zq 13 495) HT_ HW_ rfl hHeld (Or.inl ⟨by rfl, by (rintro w' ⟨s0, s1, s2, s3⟩; go_simp; with_reducible rfl)⟩) ?_
 refine one_ (i := 4) (N := some 9) (zq 13 511) rfl rfl (one_of HT_.out (by kernel_rfl)) (by decide) (fun K hK => ?_)
 refine goes_ Try.func34 (by kernel_rfl) rfl #[.int .i8 x1, .int .i8 y1] (by rfl) rfl rfl zm ?_
 refine (cmp8_ C1.out _).mono ?_
 rintro e w9 ⟨rfl, hg9⟩
 refine ⟨_, rfl, ?_⟩
 have n_ : _ ∧ _ ∧ _ := ⟨Aside0.mk (hg9.blk BK182.out), Aside0.mk (hg9.blk BK183.out), Aside0.mk (HG.out.trans hg9)⟩
 clear BK182 BK183 HG hg9
 obtain ⟨BK182, BK183, HG⟩ := n_
 refine hK.out _ _ ⟨(blk_cell BK182.out 0).trans rfl, (blk_cell BK182.out 1).trans rfl, (blk_cell BK183.out 0).trans rfl, (blk_cell BK183.out 1).trans rfl⟩ (fun hHeld => ?_)
 clear hK K
 refine norm_ (a' := ?_) ?_ ?_
 rotate_left
 ·show Act.put _ (some 9) _ = _
  exact zap
 refine one_ (i := 9) (N := some 14) (zq 13 1023) rfl rfl (one_of HT_.out (by kernel_rfl)) (by decide) (fun K hK => ?_)
 refine goes_ Try.func34 (by kernel_rfl) rfl #[.int .i8 x0, .int .i8 y0] (by rfl) rfl rfl zm ?_
 refine (cmp8_ C0.out _).mono ?_
 rintro e w10 ⟨rfl, hg10⟩
 refine ⟨_, rfl, ?_⟩
 have n_ : _ ∧ _ ∧ _ := ⟨Aside0.mk (hg10.blk BK182.out), Aside0.mk (hg10.blk BK183.out), Aside0.mk (HG.out.trans hg10)⟩
 clear BK182 BK183 HG hg10
 obtain ⟨BK182, BK183, HG⟩ := n_
 refine hK.out _ _ ⟨(blk_cell BK182.out 0).trans rfl, (blk_cell BK182.out 1).trans rfl, (blk_cell BK183.out 0).trans rfl, (blk_cell BK183.out 1).trans rfl⟩ (fun hHeld => ?_)
 clear hK K
 refine norm_ (a' := ?_) ?_ ?_
 rotate_left
 ·show Act.put _ (some 14) _ = _
  exact zap
 refine one_ (i := 10) (N := some 15) (zq 13 2047) rfl rfl (one_of HT_.out (by kernel_rfl)) (by decide) (fun K hK => ?_)
 refine value_ (w1 := ?_) (v := ?_) (by rfl) rfl ?_ ?_
 rotate_left 2
 ·go_simp
  constructor
  rotate_left
  ·rfl
  rfl
 have n_ : _ ∧ _ ∧ _ := ⟨Aside0.mk (((Gr.refl w10).alloc (.cells #[.int .i64 c1, .int .i64 c0] 3)).blk BK182.out), Aside0.mk (((Gr.refl w10).alloc (.cells #[.int .i64 c1, .int .i64 c0] 3)).blk BK183.out), Aside0.mk (HG.out.alloc (.cells #[.int .i64 c1, .int .i64 c0] 3))⟩
 clear BK182 BK183 HG
 obtain ⟨BK182, BK183, HG⟩ := n_
 refine hK.out _ _ ⟨(blk_cell BK182.out 0).trans rfl, (blk_cell BK182.out 1).trans rfl, (blk_cell BK183.out 0).trans rfl, (blk_cell BK183.out 1).trans rfl⟩ (fun hHeld => ?_)
 clear hK K
 refine norm_ (a' := ?_) ?_ ?_
 rotate_left
 ·show Act.put _ (some 15) _ = _
  exact zap
 refine one_ (i := 11) (N := some 16) (zq 13 4095) rfl rfl (one_of HT_.out (by kernel_rfl)) (by decide) (fun K hK => ?_)
 refine goes_ Try.func33 (by kernel_rfl) rfl #[.slice (some ⟨w10.heap.size, 0, none⟩) 2 2] (by rfl) rfl rfl zm ?_
 refine (or_calls w10.heap.size c1 c0 _ ((blk_cell (heap_alloc_new w10 _) 0).trans rfl) ((blk_cell (heap_alloc_new w10 _) 1).trans rfl)).mono ?_
 rintro e w11 ⟨rfl, hg11⟩
 refine ⟨_, rfl, ?_⟩
 have n_ : _ ∧ _ ∧ _ := ⟨Aside0.mk (hg11.blk BK182.out), Aside0.mk (hg11.blk BK183.out), Aside0.mk (HG.out.trans hg11)⟩
 clear BK182 BK183 HG hg11
 obtain ⟨BK182, BK183, HG⟩ := n_
 refine hK.out _ _ ⟨(blk_cell BK182.out 0).trans rfl, (blk_cell BK182.out 1).trans rfl, (blk_cell BK183.out 0).trans rfl, (blk_cell BK183.out 1).trans rfl⟩ (fun hHeld => ?_)
 clear hK K
 refine norm_ (a' := ?_) ?_ ?_
 rotate_left
 ·show Act.put _ (some 16) _ = _
  exact zap
 refine zpu 12 (some 4) (zq 13 8191) HT_ ?_
 refine done_ (done_of HT_.out (by kernel_rfl)) ?_
 try go_wp2
 go_ret
 exact ⟨zv, HG.out⟩
set_option maxHeartbeats 4000000 in
theorem clo_calls (p q : S43) (W : World) : Calls Try.prog 19 #[.agg #[.int .i8 p.f0.f0, .int .i8 p.f0.f1, .int .i8 p.f1, .int .i8 p.f2, .int .i8 p.f3], .agg #[.int .i8 q.f0.f0, .int .i8 q.f0.f1, .int .i8 q.f1, .int .i8 q.f2, .int .i8 q.f3]] W fun e w' => e = .returned (.int .i64 (cellCmp p.f0.f0 p.f0.f1 q.f0.f0 q.f0.f1)) ∧ Gr W w' := by
 have hu41 := Try.underlying41
 have hu43 := Try.underlying43
 go_enter Try.func19, Try.ntmps19
 go_wp2_with (first | ((with_reducible refine gate_callee (f := 20) rfl ?_); refine goesL_ (some 9) rfl rfl Try.func20 (by kernel_rfl) rfl #[.agg #[.int .i8 p.f0.f0, .int .i8 p.f0.f1], .agg #[.int .i8 q.f0.f0, .int .i8 q.f0.f1]] rfl zm ?_; (refine (order_calls p.f0.f0 p.f0.f1 q.f0.f0 q.f0.f1 _).mono ?_); rintro e w1 ⟨rfl, h1⟩; refine ⟨_, rfl, ?_⟩))
 go_ret
 exact ⟨rfl, (((Gr.refl W).alloc _).alloc _).trans h1⟩
def encP (x : S43) : List Value := [.int .i8 x.f0.f0, .int .i8 x.f0.f1, .int .i8 x.f1, .int .i8 x.f2, .int .i8 x.f3]
instance pieceInh : Inhabited S43 := ⟨z43⟩
def cmpP (x y : S43) : Int := cellCmp x.f0.f0 x.f0.f1 y.f0.f0 y.f0.f1
theorem cmpP_lt (x y : S43) : cmpP x y < 0 ↔ x.f0.f1 < y.f0.f1 ∨ (x.f0.f1 = y.f0.f1 ∧ x.f0.f0 < y.f0.f0) := by
 unfold cmpP cellCmp or2 cmp3
 generalize x.f0.f1 = a
 generalize y.f0.f1 = b
 generalize x.f0.f0 = c
 generalize y.f0.f0 = d
 by_cases h1 : a < b
 ·simp [h1]
 by_cases h2 : a > b
 ·simp [h1, h2]; omega
 have : a = b := by omega
 subst this
 by_cases h3 : c < d
 ·simp [h3]
 by_cases h4 : c > d
 rotate_left
 ·simp [h3, h4]
 simp [h3, h4]
theorem cmpP_swo : Go.Sort.SWO (Go.Proofs.ltOf cmpP) := {
  irrefl x := by unfold Go.Proofs.ltOf; rw [decide_eq_false]; rw [cmpP_lt]; omega
  trans x y z h1 h2 := by
    unfold Go.Proofs.ltOf at *
    have h1 := of_decide_eq_true h1
    have h2 := of_decide_eq_true h2
    rw [cmpP_lt] at h1 h2
    exact decide_eq_true ((cmpP_lt x z).2 (by omega))
  ntrans x y z h1 h2 := by
    unfold Go.Proofs.ltOf at *
    have h1 := of_decide_eq_false h1
    have h2 := of_decide_eq_false h2
    rw [cmpP_lt] at h1 h2
    exact decide_eq_false (fun h => by rw [cmpP_lt] at h; omega) }
theorem flat_size (d : Array S43) : (Go.Sort.flatK encP 5 d).size = d.size * 5 := by simp [Go.Sort.flatK]
theorem flat_at (d : Array S43) (j i : Nat) (hj : j < d.size) (hi : i < 5) : (Go.Sort.flatK encP 5 d)[j * 5 + i]? = (encP d[j])[i]? := by
 have h1 : (j * 5 + i) / 5 = j := by omega
 have h2 : (j * 5 + i) % 5 = i := by omega
 have h3 : j * 5 + i < d.size * 5 := by omega
 have hl : (encP d[j]).length = 5 := rfl
 unfold Go.Sort.flatK
 rw [Array.getElem?_map, Array.getElem?_eq_getElem (by simpa using h3)]
 simp only [Array.getElem_range, Option.map_some, h1, h2]
 rw [getElem!_pos d j hj, List.getElem?_eq_getElem (by omega), getElem!_pos (encP d[j]) i (by omega)]
theorem flat_reps (d : Array S43) (w : World) (base : Nat) (ok : Nat → Prop) : Reps (k43.M w base ok) 5 d.toList (Go.Sort.flatK encP 5 d).toList := by
 refine ⟨by rw [Array.length_toList, Array.length_toList, flat_size], fun j p hj => ?_⟩
 rw [Array.getElem?_toList] at hj
 obtain ⟨hl, rfl⟩ := Array.getElem?_eq_some_iff.1 hj
 have e : ((Go.Sort.flatK encP 5 d).toList.drop (j * 5)).take 5 = encP d[j] := by
  apply List.ext_getElem?
  intro i
  rw [List.getElem?_take]
  split
  ·rename_i hi
   rw [List.getElem?_drop, Array.getElem?_toList, flat_at d j i hl hi]
  ·rename_i hi
   rw [List.getElem?_eq_none (by show (5 : Nat) ≤ i; omega)]
 rw [e]
 exact k43_mkM _ _ _ d[j]
theorem row_holds {w : World} {g n cap : Nat} {cur : Array Value} {l : List S43} {w0 : World} {base : Nat} {ok : Nat → Prop} (hg : w.heap[g]? = some (.cells cur 43 (0, 0))) (hn : l.length = n) (hcs : cur.size = cap * 5) (hnc : n ≤ cap) (hr : Reps (k43.M w0 base ok) 5 l (cur.toList.take (n * 5))) : Go.Sort.HoldsK encP 5 w g 0 l.toArray := by
 intro j hj
 rw [flat_size, List.size_toArray, hn] at hj
 have hq : j / 5 < l.length := by omega
 have hc := hr.2 (j / 5) _ (List.getElem?_eq_getElem hq)
 have hc := k43_open (k43.K_of_M hc)
 have hv : cur[j]? = (encP l[j / 5])[j % 5]? := by
  have h1 : (((cur.toList.take (n * 5)).drop (j / 5 * 5)).take 5)[j % 5]? = (encP l[j / 5])[j % 5]? := by rw [hc]; rfl
  rw [List.getElem?_take, if_pos (by omega), List.getElem?_drop, List.getElem?_take, if_pos (by omega), show j / 5 * 5 + j % 5 = j by omega, Array.getElem?_toList] at h1
  exact h1
 have hf : (Go.Sort.flatK encP 5 l.toArray)[j]? = (encP l[j / 5])[j % 5]? := by
  have h1 := flat_at l.toArray (j / 5) (j % 5) (by simpa using hq) (by omega)
  rw [show j / 5 * 5 + j % 5 = j by omega] at h1
  rw [h1]
  simp
 have hl : (encP l[j / 5]).length = 5 := rfl
 refine ⟨?_, blk_frozen hg _⟩
 rw [Nat.zero_add, cell_of_row w g j cur 43 (0, 0) hg, hv]
 have hlt : j < (Go.Sort.flatK encP 5 l.toArray).size := by rw [flat_size, List.size_toArray, hn]; exact hj
 rw [getElem!_pos _ j hlt, ← hf, Array.getElem?_eq_getElem hlt]
 rfl
theorem row_put {w : World} {g n cap : Nat} {cur : Array Value} (hg : w.heap[g]? = some (.cells cur 43 (0, 0))) (hcs : cur.size = cap * 5) (hnc : n ≤ cap) (d : Array S43) (hd : d.size = n) (m : Nat) (os : Array Obj) :
    w.grownBy (Go.Proofs.sortWorldK encP 5 w g 0 m d os) (some g) ∧ ∃ cur' : Array Value, (Go.Proofs.sortWorldK encP 5 w g 0 m d os).heap[g]? = some (.cells cur' 43 (0, 0)) ∧ cur'.size = cap * 5 ∧ cur'.toList.take (n * 5) = (Go.Sort.flatK encP 5 d).toList := by
 have hlt : g < w.heap.size := (Array.getElem?_eq_some_iff.1 hg).1
 obtain ⟨F, hF⟩ : ∃ F, F = Go.Sort.flatK encP 5 d := ⟨_, rfl⟩
 have hFs : F.size = n * 5 := by rw [hF, flat_size, hd]
 have hheap : (Go.Proofs.sortWorldK encP 5 w g 0 m d os).heap = (w.heap.modify g (Go.Sort.onCells (Go.Sort.putCells id 0 F))) ++ os := by rw [hF]; rfl
 refine ⟨⟨rfl, rfl, rfl, ?_, fun k hk hne => ?_⟩, Go.Sort.putCells id 0 F cur, ?_, ?_, ?_⟩
 ·rw [hheap, Array.size_append, Array.size_modify]
  omega
 ·rw [hheap, Array.getElem?_append_left (by rw [Array.size_modify]; exact hk), Array.getElem?_modify, if_neg (fun e => hne (by rw [e]))]
 ·rw [hheap, Array.getElem?_append_left (by rw [Array.size_modify]; exact hlt), Array.getElem?_modify, if_pos rfl, hg]
  rfl
 ·simp [Go.Sort.putCells, hcs]
 rw [← hF]
 apply List.ext_getElem?
 intro t
 rw [List.getElem?_take]
 split
 rotate_left
 ·rename_i ht
  rw [List.getElem?_eq_none (by rw [Array.length_toList]; omega)]
 rename_i ht
 have h1 : t < cur.size := by omega
 have h2 : t < F.size := by omega
 rw [Array.getElem?_toList, Array.getElem?_toList, Go.Sort.putCells, Array.getElem?_mapIdx, Array.getElem?_eq_getElem h1, Option.map_some, if_pos ⟨Nat.zero_le _, by omega⟩, Nat.sub_zero, getElem!_pos F t h2, Array.getElem?_eq_getElem h2]
 rfl
set_option maxHeartbeats 4000000 in
theorem ins_nil (W : World) : Calls Try.prog 38 #[.slice none 0 0, .int .i64 0, .int .i64 0, .func (.func 19) #[] #[]] W fun e w' => e = .returned (.tuple #[]) ∧ Gr W w' := by
 go_enter Try.func38, Try.ntmps38
 go_wp2
 go_loop [8] (fun v8 => v8 = .int .i64 1) (fun _ => 0)
 case atStart => rfl
 subst hrel
 go_wp2
 go_end0
 exact ⟨rfl, Gr.refl _⟩
set_option maxHeartbeats 4000000 in
theorem pdq_nil (x : Int) (W : World) : Calls Try.prog 31 #[.slice none 0 0, .int .i64 0, .int .i64 0, .int .i64 x, .func (.func 19) #[] #[]] W fun e w' => e = .returned (.tuple #[]) ∧ Gr W w' := by
 go_enter Try.func31, Try.ntmps31
 go_wp2
 go_loop [1, 2] (fun v1 v2 => v1 = .int .i64 0 ∧ v2 = .int .i64 0) (fun _ _ => 0)
 case atStart => exact ⟨rfl, rfl⟩
 obtain ⟨rfl, rfl⟩ := hrel
 go_wp2_with (first | ((with_reducible refine gate_callee (f := 38) rfl ?_); refine goesL_ (some 30) rfl rfl Try.func38 (by kernel_rfl) rfl #[.slice none 0 0, .int .i64 0, .int .i64 0, .func (.func 19) #[] #[]] rfl zm ?_; (refine (ins_nil _).mono ?_); rintro e w1 ⟨rfl, h1⟩; refine ⟨_, rfl, ?_⟩))
 refine bodyPost_ret (results_none rfl _ _ _) rfl ?_
 exact ⟨rfl, h1⟩
theorem Gr.below {W w : World} (h : Gr W w) : Below W.heap.size W w := by
 obtain ⟨q, os, rfl⟩ := h
 refine ⟨rfl, rfl, rfl, by rw [Go.Sort.size_grow]; exact Nat.le_add_right _ _, fun k hk => ?_⟩
 show (W.heap ++ os)[k]? = W.heap[k]?
 exact Array.getElem?_append_left hk
section
open Go.Shelf Go.Lib
def Try.sortPieces_ren : Go.Shelf.Ren := ⟨fun | 6 => 18 | 15 => 32 | 14 => 31 | 28 => 46 | 29 => 47 | 20 => 38 | 21 => 39 | 22 => 40 | 23 => 41 | 24 => 42 | 25 => 43 | 26 => 44 | 27 => 45 | 46 => 50 | 47 => 51 | 48 => 52 | 49 => 53 | 50 => 54 | 57 => 55 | n => n, fun | 22 => 27 | 24 => 43 | 25 => 50 | 3 => 3 | 39 => 65 | 0 => 0 | 53 => 80 | 55 => 82 | 4 => 4 | 46 => 73 | 45 => 72 | 50 => 77 | 5 => 5 | 9 => 9 | 66 => 86 | 70 => 90 | 76 => 92 | 77 => 93 | n => n, fun | n => n⟩
theorem Try.sortPieces : Go.Proofs.SlLaysF0.n6 Try.prog Try.sortPieces_ren := {
  mixed := by kernel_rfl
  f6 := ⟨Try.f18.name, by decide, Try.func18.trans (congrArg some (by kernel_rfl))⟩
  f14 := ⟨Try.f31.name, by decide, Try.func31.trans (congrArg some (by kernel_rfl))⟩
  f15 := Try.func32.trans (congrArg some (by kernel_rfl))
  f20 := ⟨Try.f38.name, by decide, Try.func38.trans (congrArg some (by kernel_rfl))⟩
  f21 := ⟨Try.f39.name, by decide, Try.func39.trans (congrArg some (by kernel_rfl))⟩
  f22 := ⟨Try.f40.name, by decide, Try.func40.trans (congrArg some (by kernel_rfl))⟩
  f23 := ⟨Try.f41.name, by decide, Try.func41.trans (congrArg some (by kernel_rfl))⟩
  f24 := ⟨Try.f42.name, by decide, Try.func42.trans (congrArg some (by kernel_rfl))⟩
  f25 := ⟨Try.f43.name, by decide, Try.func43.trans (congrArg some (by kernel_rfl))⟩
  f26 := ⟨Try.f44.name, by decide, Try.func44.trans (congrArg some (by kernel_rfl))⟩
  f27 := ⟨Try.f45.name, by decide, Try.func45.trans (congrArg some (by kernel_rfl))⟩
  f28 := Try.func46.trans (congrArg some (by kernel_rfl))
  f29 := Try.func47.trans (congrArg some (by kernel_rfl))
  f46 := ⟨Try.f50.name, by decide, Try.func50.trans (congrArg some (by kernel_rfl))⟩
  f47 := Try.func51.trans (congrArg some (by kernel_rfl))
  f48 := Try.func52.trans (congrArg some (by kernel_rfl))
  f49 := ⟨Try.f53.name, by decide, Try.func53.trans (congrArg some (by kernel_rfl))⟩
  f50 := ⟨Try.f54.name, by decide, Try.func54.trans (congrArg some (by kernel_rfl))⟩
  f57 := ⟨Try.f55.name, by decide, Try.func55.trans (congrArg some (by kernel_rfl))⟩
  t0 := Try.underlying0
  a0 := Try.isAgg0
  z0 := Try.sizeOf0
  v0 := Try.zeroValue0
  t3 := Try.underlying3
  a3 := Try.isAgg3
  z3 := Try.sizeOf3
  v3 := Try.zeroValue3
  t4 := Try.underlying4
  a4 := Try.isAgg4
  z4 := Try.sizeOf4
  v4 := Try.zeroValue4
  t5 := Try.underlying5
  a5 := Try.isAgg5
  z5 := Try.sizeOf5
  v5 := Try.zeroValue5
  t9 := Try.underlying9
  a9 := Try.isAgg9
  z9 := Try.sizeOf9
  v9 := Try.zeroValue9
  t22 := Try.underlying27
  a22 := Try.isAgg27
  z22 := Try.sizeOf27
  v22 := Try.zeroValue27
  t25 := Try.underlying50
  a25 := Try.isAgg50
  z25 := Try.sizeOf50
  v25 := Try.zeroValue50
  t39 := Try.underlying65
  a39 := Try.isAgg65
  z39 := Try.sizeOf65
  v39 := Try.zeroValue65
  t45 := Try.underlying72
  a45 := Try.isAgg72
  z45 := Try.sizeOf72
  v45 := Try.zeroValue72
  t46 := Try.underlying73
  a46 := Try.isAgg73
  z46 := Try.sizeOf73
  v46 := Try.zeroValue73
  t50 := Try.underlying77
  a50 := Try.isAgg77
  z50 := Try.sizeOf77
  v50 := Try.zeroValue77
  t53 := Try.underlying80
  a53 := Try.isAgg80
  z53 := Try.sizeOf80
  v53 := Try.zeroValue80
  t55 := Try.underlying82
  a55 := Try.isAgg82
  z55 := Try.sizeOf82
  v55 := Try.zeroValue82
  t66 := Try.underlying86
  a66 := Try.isAgg86
  z66 := Try.sizeOf86
  v66 := Try.zeroValue86
  t70 := Try.underlying90
  a70 := Try.isAgg90
  z70 := Try.sizeOf90
  v70 := Try.zeroValue90
  t76 := Try.underlying92
  a76 := Try.isAgg92
  z76 := Try.sizeOf92
  v76 := Try.zeroValue92
  t77 := Try.underlying93
  a77 := Try.isAgg93
  z77 := Try.sizeOf93
  v77 := Try.zeroValue93 }
end
theorem len_zero (W : World) : Calls Try.prog 32 #[.int .u64 0] W fun e w' => e = .returned (.int .i64 0) ∧ w' = W := by
 have h := Go.Proofs.Any.bits_Len (Go.Proofs.SlLaysF0.n15.bits (P := Try.prog) (ρ := Try.sortPieces_ren) { Try.sortPieces with }) (0 : Int) W (by omega) (by omega)
 exact h
set_option maxHeartbeats 4000000 in
theorem sort_nil (W : World) : Calls Try.prog 18 #[.slice none 0 0, .func (.func 19) #[] #[]] W fun e w' => e = .returned (.tuple #[]) ∧ Below W.heap.size W w' := by
 go_enter Try.func18, Try.ntmps18
 go_wp2_with (first | ((with_reducible refine gate_callee (f := 32) rfl ?_); refine goesL_ (some 11) rfl rfl Try.func32 (by kernel_rfl) rfl #[.int .u64 0] rfl zm ?_; (refine (len_zero _).mono ?_); rintro e w1 ⟨rfl, rfl⟩; refine ⟨_, rfl, ?_⟩) | ((with_reducible refine gate_callee (f := 31) rfl ?_); refine goesL_ (some 13) rfl rfl Try.func31 (by kernel_rfl) rfl #[.slice none 0 0, .int .i64 0, .int .i64 0, .int .i64 0, .func (.func 19) #[] #[]] rfl zm ?_; (refine (pdq_nil 0 _).mono ?_); rintro e w2 ⟨rfl, h2⟩; refine ⟨_, rfl, ?_⟩))
 go_end0
 exact ⟨rfl, h2.below⟩
def sortP (l : List S43) : List S43 := (Go.Sort.pdq (Go.Proofs.ltOf cmpP) l.toArray 0 l.toArray.size (Go.Lib.bitLen l.toArray.size) true true).toList
theorem sortP_size (l : List S43) : (sortP l).length = l.length := by
 have h := (Go.Sort.pdq_sorts (Go.Proofs.ltOf cmpP) cmpP_swo l.toArray 0 l.toArray.size (Go.Lib.bitLen l.toArray.size) true true (Nat.zero_le _) (Nat.le_refl _) (Or.inl rfl)).1.1
 unfold sortP
 rw [Array.length_toList, h, List.size_toArray]
def slices_SortFunc__impl_SortBoard_1.f (l0 : List (S43)) : Option (List (S43)) := if l0.length < 1000000 then some (sortP l0) else none
theorem slices_SortFunc__impl_SortBoard_1.calls (P0_ : Nat → Prop) (u9000_ : Value) (l0 : List (S43)) (r : List (S43)) (w0 w : World) (hB : Below w0.heap.size w0 w) (ho0 : Kd.R k43 43 w w0.heap.size P0_ u9000_ l0) (h : slices_SortFunc__impl_SortBoard_1.f l0 = some r) :
    Calls Try.prog 18 #[u9000_, .func (.func 19) #[] #[]] w fun e w' => e = .returned (.tuple #[]) ∧ Kd.R k43 43 w' w0.heap.size (fun k_ => (P0_ k_ ∨ w.heap.size ≤ k_)) u9000_ r ∧ Below w0.heap.size w0 w' ∧ Kept w w' (fun k_ => P0_ k_) := by
 unfold slices_SortFunc__impl_SortBoard_1.f at h
 by_cases hbig0 : l0.length < 1000000
 rotate_left
 ·rw [if_neg hbig0] at h; cases h
 rw [if_pos hbig0] at h
 obtain rfl := Option.some.inj h
 clear h
 have hlen := sortP_size l0
 obtain ⟨hok, inner, ⟨hl, hown⟩, hr⟩ := ho0
 rcases hown with ⟨rfl, hn⟩ | ⟨g, cap, cur, rfl, hb, hh, hnc, hcm, hcs, ht⟩
 ·obtain rfl : l0 = [] := List.eq_nil_of_length_eq_zero hn
  refine (sort_nil w).mono ?_
  rintro e w' ⟨rfl, hb⟩
  have hs : sortP [] = [] := List.eq_nil_of_length_eq_zero hlen
  rw [hs]
  exact ⟨rfl, Kd.R_nil _ _ _ _ _, below_step hB hb, Kept.of_below hb _⟩
 have hsz : k43.sz = 5 := rfl
 have hr5 : Reps (k43.M w w0.heap.size (fun k => P0_ k ∧ some k ≠ (Value.slice (some ⟨g, 0, none⟩) l0.length cap).ownBlock)) 5 l0 (cur.toList.take (l0.length * 5)) := by rw [show cur.toList.take (l0.length * 5) = inner from ht]; exact hr
 have hH := row_holds hh rfl hcs hnc hr5
 have hblk : g < w.heap.size := (Array.getElem?_eq_some_iff.1 hh).1
 have hbig : l0.toArray.size < 4611686018427387904 := by rw [List.size_toArray]; omega
 have eg : ∀ args w, (callFunc 19 args).run Try.prog w = .ok (.enter 19 args) w := enters_of Try.func19 (by kernel_rfl) rfl
 have hcmp : Go.Proofs.CmpLays Try.prog 19 #[] encP 5 cmpP g 0 l0.toArray.size w := fun m os dk hs x y => clo_calls x y _
 have hcon := Go.Proofs.AnyQ.slices_SortFunc_eq Try.sortPieces 5 Try.isAgg43 Try.sizeOf43 encP (fun _ => rfl) (fun x v hv => by simp [encP] at hv; rcases hv with rfl | rfl | rfl | rfl | rfl <;> rfl) cmpP cmpP_swo 19 #[] g 0 cap l0.toArray w eg hcmp hH hblk hbig
 change Calls Try.prog 18 _ _ _ at hcon
 rw [List.size_toArray] at hcon
 refine hcon.mono ?_
 rintro e w' ⟨rfl, m, os, rfl⟩
 obtain ⟨d, hd⟩ : ∃ d, d = Go.Sort.pdq (Go.Proofs.ltOf cmpP) l0.toArray 0 l0.length (Go.Lib.bitLen l0.length) true true := ⟨_, rfl⟩
 have hdl : sortP l0 = d.toList := by unfold sortP; rw [List.size_toArray, hd]
 have hds : d.size = l0.length := by rw [← hlen, hdl, Array.length_toList]
 rw [← hd, hdl]
 rw [hdl] at hlen
 obtain ⟨hg, cur', hc, hs', ht'⟩ := row_put hh hcs hnc d hds m os
 refine ⟨rfl, ⟨fun k hk => .inl (hok k hk), (Go.Sort.flatK encP 5 d).toList, ⟨?_, .inr ⟨g, cap, cur', by rw [hlen], hb, hc, by rw [hlen]; exact hnc, hcm, hs', ?_⟩⟩, flat_reps d _ _ _⟩, hB.grown hg (hB.size) (fun k hk => by injection hk with hk; subst hk; exact hb), ⟨hg.size, fun i hi hn => hg.block i hi (fun e => hn (by injection e with e; subst e; exact hok i rfl))⟩⟩
 ·rw [Array.length_toList, flat_size, hlen, hds]
  rfl
 show cur'.toList.take (d.toList.length * 5) = _
 rw [hlen]
 exact ht'
def impl_SortBoard.f (k : Nat) (a0_0 : Int) (a0_1 : Int) (l0_2 : List (S43)) : Option (Int × Int × (List (S43)) × Int) := (impl_ValidBoard.f k a0_0 a0_1 l0_2).bind fun t181 => (if t181 = true then ((impl_Piece_17.f l0_2).bind fun t182 => ((impl_Board_with.f [(⟨a0_0, a0_1, l0_2⟩ : S29)] t182).bind fun bt185 => ((slices_SortFunc__impl_SortBoard_1.f t182).bind fun t191 => (some (bt185.1, bt185.2, t191, 0))))) else (some (0, 0, ([] : List (S43)), 1)))
theorem impl_SortBoard.mono : ∀ a0 a1 a2 k, LeO (impl_SortBoard.f k a0 a1 a2) (impl_SortBoard.f (k + 1) a0 a1 a2) := by
 intro a0 a1 a2 k
 unfold impl_SortBoard.f
 repeat' first | (with_reducible first | apply impl_ValidBoard.mono | exact LeO.refl _ | exact LeO.none _ | refine LeO.ite ?_ ?_ | refine LeO.bind ?_ (fun _ => ?_)) | apply impl_ValidBoard.mono | exact LeO.none _ | refine LeO.ite ?_ ?_ | refine LeO.bind ?_ (fun _ => ?_)
set_option maxHeartbeats 8000000 in
theorem impl_SortBoard.calls (k : Nat) (a0_0 : Int) (a0_1 : Int) (A0_2 : Option Addr) (c0_2 : Nat) (l0_2 : List (S43)) (r1 : Int) (r2 : Int) (r3 : List (S43)) (r4 : Int) (w : World) (hr0_2 : Kd.C k43 w A0_2 l0_2.length l0_2) (hc0_2 : l0_2.length ≤ c0_2) (h : impl_SortBoard.f k a0_0 a0_1 l0_2 = some (r1, r2, r3, r4)) :
    Calls Try.prog 7 #[.agg #[.int .i8 a0_0, .int .i8 a0_1, .slice A0_2 l0_2.length c0_2]] w fun e w' => ∃ v2_ : Value, e = .returned (.tuple #[.agg #[.int .i8 r1, .int .i8 r2, v2_], .int .i64 r4]) ∧ Kd.R k43 43 w' w.heap.size (fun _ => True) v2_ r3 ∧ Below w.heap.size w w' := by
 have hu29 := Try.underlying29
 have HR0_2 := Aside0.mk hr0_2
 have HC0_2 := Aside0.mk hc0_2
 clear hr0_2 hc0_2
 have HB := Aside0.mk (Below.refl w.heap.size w)
 have H : ((impl_ValidBoard.f k a0_0 a0_1 l0_2).bind fun t181 => (if t181 = true then ((impl_Piece_17.f l0_2).bind fun t182 => ((impl_Board_with.f [(⟨a0_0, a0_1, l0_2⟩ : S29)] t182).bind fun bt185 => ((slices_SortFunc__impl_SortBoard_1.f t182).bind fun t191 => (some (bt185.1, bt185.2, t191, 0))))) else (some (0, 0, ([] : List (S43)), 1)))) = some (r1, r2, r3, r4) := h
 clear h
 replace H := zob H
 obtain ⟨t181, A20, H⟩ := H
 replace H : (if t181 = true then ((impl_Piece_17.f l0_2).bind fun t182 => ((impl_Board_with.f [(⟨a0_0, a0_1, l0_2⟩ : S29)] t182).bind fun bt185 => ((slices_SortFunc__impl_SortBoard_1.f t182).bind fun t191 => (some (bt185.1, bt185.2, t191, 0))))) else (some (0, 0, ([] : List (S43)), 1))) = some (r1, r2, r3, r4) := H
 have A2 := Aside0.mk A20
 clear A20
 by_cases c3 : t181 = true
 rotate_left
 ·replace c3 := Bool.eq_false_iff.mpr c3
  subst c3
  have H1 : (some (0, 0, ([] : List (S43)), 1)) = some (r1, r2, r3, r4) := by rw [if_neg (show ¬ (false = true) by decide)] at H; exact H
  clear H
  have H := H1
  clear H1
  simp only [Option.some.injEq, Prod.mk.injEq] at H
  obtain ⟨rfl, rfl, rfl, rfl⟩ := H
  go_enter Try.func7, Try.ntmps7
  go_wp2_with (first | ((with_reducible refine gate_dst (N := 1) rfl ?_); refine zbx 1 #[.int .i8 a0_0, .int .i8 a0_1, .slice A0_2 l0_2.length c0_2] 29 ?_; intro gb179 hg w25 hbox hb; have n_ : _ ∧ _ ∧ _ ∧ _ := ⟨zb HB hb, Aside0.mk (hbox), zg HB hg, zg HB hg⟩; clear HB; obtain ⟨HB, BK179, GW179, GE179⟩ := n_; clear hb hbox hg) | ((with_reducible refine gate_dst (N := 2) rfl ?_); refine zbx 2 #[.int .i8 0, .int .i8 0, .slice none 0 0] 29 ?_; intro gb180 hg w26 hbox hb; have n_ : _ ∧ _ ∧ _ ∧ _ ∧ _ ∧ _ ∧ _ := ⟨zk BK179 hb, zbs hb, Aside0.mk (hbox), zg HB hg, zg HB hg, zn1 BK179 hg, zn2 BK179 hg⟩; clear BK179 HB; obtain ⟨BK179, HB, BK180, GW180, GE180, NB179_180, NB180_179⟩ := n_; clear hb hbox hg; have hnb27 := NB179_180.out; have hnc27 := NB180_179.out; obtain ⟨z28_0, z28_1, z28_2, y28_0, y28_1, y28_2⟩ := zB3 BK179) | ((with_reducible refine gate_callee (f := 15) rfl ?_); refine goesL_ (some 6) rfl rfl Try.func15 (by kernel_rfl) rfl #[.agg #[.int .i8 a0_0, .int .i8 a0_1, .slice A0_2 l0_2.length c0_2]] rfl zm ?_; (with_reducible refine (impl_ValidBoard.calls k a0_0 a0_1 _ _ l0_2 false _ ?side1 ?side2 A2.out).mono ?_); (case side1 => exact zcc HB HR0_2.out); (case side2 => exact HC0_2.out); rintro e w29 ⟨rfl, hb⟩; refine ⟨_, rfl, ?_⟩; have n_ : _ ∧ _ ∧ _ := ⟨zk BK179 hb, zk BK180 hb, zbs hb⟩; clear BK179 BK180 HB; obtain ⟨BK179, BK180, HB⟩ := n_; (try clear hb); (try clear hb2); (try clear hk); (try clear hi); obtain ⟨z30_0, z30_1, z30_2, y30_0, y30_1, y30_2⟩ := zB3 BK180))
  refine bodyPost_ret (results_ct rfl _ _ gb180 29 #[.int .i8 0, .int .i8 0, .slice none 0 0] (0, 0) _ rfl (zp BK180) Try.underlying29 rfl (by kernel_rfl)) rfl ?_
  exact ⟨_, zv, by first | exact Kd.R_nil _ _ _ _ _ | exact Kd.N_nil _ _ _ _ _ | exact Kd.V_nil _ _ _ _ _ | exact Kd.Q_nil _ _ _ _ _ | exact Kd.S_nil _ _ _ _ _, zbo⟩
 subst c3
 have H1 : ((impl_Piece_17.f l0_2).bind fun t182 => ((impl_Board_with.f [(⟨a0_0, a0_1, l0_2⟩ : S29)] t182).bind fun bt185 => ((slices_SortFunc__impl_SortBoard_1.f t182).bind fun t191 => (some (bt185.1, bt185.2, t191, 0))))) = some (r1, r2, r3, r4) := by rw [if_pos rfl] at H; exact H
 clear H
 have H := H1
 clear H1
 replace H := zob H
 obtain ⟨t182, A40, H⟩ := H
 replace H : ((impl_Board_with.f [(⟨a0_0, a0_1, l0_2⟩ : S29)] t182).bind fun bt185 => ((slices_SortFunc__impl_SortBoard_1.f t182).bind fun t191 => (some (bt185.1, bt185.2, t191, 0)))) = some (r1, r2, r3, r4) := H
 have A4 := Aside0.mk A40
 clear A40
 replace H := zob H
 obtain ⟨⟨t185, t186⟩, A50, H⟩ := H
 replace H : ((slices_SortFunc__impl_SortBoard_1.f t182).bind fun t191 => (some (t185, t186, t191, 0))) = some (r1, r2, r3, r4) := H
 have A5 := Aside0.mk A50
 clear A50
 replace H := zob H
 obtain ⟨t191, A60, H⟩ := H
 replace H : (some (t185, t186, t191, 0)) = some (r1, r2, r3, r4) := H
 have A6 := Aside0.mk A60
 clear A60
 simp only [Option.some.injEq, Prod.mk.injEq] at H
 obtain ⟨rfl, rfl, rfl, rfl⟩ := H
 go_enter Try.func7, Try.ntmps7
 go_wp2_with (first | ((with_reducible refine gate_dst (N := 1) rfl ?_); refine zbx 1 #[.int .i8 a0_0, .int .i8 a0_1, .slice A0_2 l0_2.length c0_2] 29 ?_; intro gb179 hg w7 hbox hb; have n_ : _ ∧ _ ∧ _ ∧ _ := ⟨zb HB hb, Aside0.mk (hbox), zg HB hg, zg HB hg⟩; clear HB; obtain ⟨HB, BK179, GW179, GE179⟩ := n_; clear hb hbox hg) | ((with_reducible refine gate_dst (N := 2) rfl ?_); refine zbx 2 #[.int .i8 0, .int .i8 0, .slice none 0 0] 29 ?_; intro gb180 hg w8 hbox hb; have n_ : _ ∧ _ ∧ _ ∧ _ ∧ _ ∧ _ ∧ _ := ⟨zk BK179 hb, zbs hb, Aside0.mk (hbox), zg HB hg, zg HB hg, zn1 BK179 hg, zn2 BK179 hg⟩; clear BK179 HB; obtain ⟨BK179, HB, BK180, GW180, GE180, NB179_180, NB180_179⟩ := n_; clear hb hbox hg; have hnb9 := NB179_180.out; have hnc9 := NB180_179.out; obtain ⟨z10_0, z10_1, z10_2, y10_0, y10_1, y10_2⟩ := zB3 BK179) | ((with_reducible refine gate_callee (f := 15) rfl ?_); refine goesL_ (some 6) rfl rfl Try.func15 (by kernel_rfl) rfl #[.agg #[.int .i8 a0_0, .int .i8 a0_1, .slice A0_2 l0_2.length c0_2]] rfl zm ?_; (with_reducible refine (impl_ValidBoard.calls k a0_0 a0_1 _ _ l0_2 true _ ?side1 ?side2 A2.out).mono ?_); (case side1 => exact zcc HB HR0_2.out); (case side2 => exact HC0_2.out); rintro e w11 ⟨rfl, hb⟩; refine ⟨_, rfl, ?_⟩; have n_ : _ ∧ _ ∧ _ := ⟨zk BK179 hb, zk BK180 hb, zbs hb⟩; clear BK179 BK180 HB; obtain ⟨BK179, BK180, HB⟩ := n_; (try clear hb); (try clear hb2); (try clear hk); (try clear hi); obtain ⟨z12_0, z12_1, z12_2, y12_0, y12_1, y12_2⟩ := zB3 BK179) | ((with_reducible refine gate_callee (f := 17) rfl ?_); refine goesL_ (some 11) rfl rfl Try.func17 (by kernel_rfl) rfl #[.slice A0_2 l0_2.length c0_2] rfl zm ?_; (with_reducible refine (impl_Piece_17.calls _ _ l0_2 t182 _ ?side1 ?side2 A4.out).mono ?_); (case side1 => exact zcc HB HR0_2.out); (case side2 => exact HC0_2.out); rintro e w13 ⟨v183, rfl, ho0, hb⟩; refine ⟨_, rfl, ?_⟩; have n_ : _ ∧ _ ∧ _ ∧ _ := ⟨Aside0.mk (Kd.R_lower ho0 (zz HB)), zk BK179 hb, zk BK180 hb, zbs hb⟩; clear BK179 BK180 HB; obtain ⟨HO184, BK179, BK180, HB⟩ := n_; (try clear hb); (try clear hb2); (try clear hk); (try clear hi); (try clear ho0); obtain ⟨Ao14, co14, eo14⟩ := Kd.R_slice HO184.out; subst eo14) | ((with_reducible refine gate_callee (f := 16) rfl ?_); refine goesL_ (some 12) rfl rfl Try.func16 (by kernel_rfl) rfl #[.pointer (some ⟨gb179, 0, none⟩), .slice Ao14 t182.length co14] rfl zm ?_; (with_reducible refine (impl_Board_with.calls _ [(⟨a0_0, a0_1, l0_2⟩ : S29)] _ _ t182 t185 t186 _ ?side1 ?side2 ?side3 A5.out).mono ?_); (case side1 => refine ro_of_blk (T := 29) (cs := #[.int .i8 a0_0, .int .i8 a0_1, .slice A0_2 l0_2.length c0_2]) (zh BK179).out ?_; exact k29_mk _ (⟨a0_0, a0_1, l0_2⟩ : S29) (by exact HC0_2.out) (by exact zcc HB HR0_2.out)); (case side2 => exact zrc HO184); (case side3 => exact (Kd.R_reads' HO184.out).2.1); rintro e w15 ⟨rfl, hb⟩; refine ⟨_, rfl, ?_⟩; have n_ : _ ∧ _ ∧ _ ∧ _ := ⟨zr HO184 hb, zk BK179 hb, zk BK180 hb, zbs hb⟩; clear HO184 BK179 BK180 HB; obtain ⟨HO184, BK179, BK180, HB⟩ := n_; (try clear hb); (try clear hb2); (try clear hk); (try clear hi)) | ((with_reducible refine gate_dst (N := 4) rfl ?_); refine zbx 4 #[.int .i8 0, .int .i8 0, .slice none 0 0] 29 ?_; intro gb190 hg w16 hbox hb; have n_ : _ ∧ _ ∧ _ ∧ _ ∧ _ ∧ _ ∧ _ ∧ _ ∧ _ ∧ _ ∧ _ := ⟨zr HO184 hb, zk BK179 hb, zk BK180 hb, zbs hb, Aside0.mk (hbox), zg HB hg, zg HB hg, zn1 BK179 hg, zn2 BK179 hg, zn1 BK180 hg, zn2 BK180 hg⟩; clear HO184 BK179 BK180 HB; obtain ⟨HO184, BK179, BK180, HB, BK190, GW190, GE190, NB179_190, NB190_179, NB180_190, NB190_180⟩ := n_; clear hb hbox hg; have hnb17 := NB190_179.out; have hnc17 := NB179_190.out; have hnb18 := NB190_180.out; have hnc18 := NB180_190.out; obtain ⟨z19_0, z19_1, z19_2, y19_0, y19_1, y19_2⟩ := zB3 BK190) | ((with_reducible refine gate_store (t := 29) (p := 4) rfl ?_); refine store_event (t := 29) (p := 4) (v := ?vo_w20) (w1 := (((w16.setCell ⟨gb190, 0, none⟩ (.int .i8 t185)).setCell ⟨gb190, 1, none⟩ (.int .i8 t186)).setCell ⟨gb190, 2, none⟩ (.slice Ao14 t182.length co14))) ?hg ?ho ?hn ?hr ?_; (case ho => rfl); (case hg => rfl); (case hn => rfl); (case hr => exact zgs); intro w20 hw; have n0_ : Aside0 (Kd.R k43 43 w20 w.heap.size (fun _ => True) (.slice Ao14 t182.length co14) t182) := ⟨(by rw [hw]; exact (Kd.R_mono (zs HO184 BK190).out (fun _ hk => trivial)))⟩; have n1_ : Aside0 (w20.heap[gb179]? = some (.cells #[.int .i8 a0_0, .int .i8 a0_1, .slice A0_2 l0_2.length c0_2] 29 (0, 0))) := ⟨(by rw [hw]; exact (zf BK179 NB179_190).out)⟩; have n2_ : Aside0 (w20.heap[gb180]? = some (.cells #[.int .i8 0, .int .i8 0, .slice none 0 0] 29 (0, 0))) := ⟨(by rw [hw]; exact (zf BK180 NB180_190).out)⟩; have n3_ : Aside0 (w20.heap[gb190]? = some (.cells #[.int .i8 t185, .int .i8 t186, .slice Ao14 t182.length co14] 29 (0, 0))) := ⟨(by rw [hw]; exact (zp BK190))⟩; have n4_ : Aside0 (Below w.heap.size w w20) := ⟨(by rw [hw]; exact zbo)⟩; clear hw; clear HO184; clear BK179; clear BK180; clear BK190; clear HB; have HO184 := n0_; have BK179 := n1_; have BK180 := n2_; have BK190 := n3_; have HB := n4_; clear n0_ n1_ n2_ n3_ n4_; obtain ⟨z21_0, z21_1, z21_2, y21_0, y21_1, y21_2⟩ := zB3 BK190) | ((with_reducible refine gate_callee (f := 18) rfl ?_); refine goesL_ (some 15) rfl rfl Try.func18 (by kernel_rfl) rfl #[.slice Ao14 t182.length co14, .func (.func 19) #[] #[]] rfl zm ?_; (with_reducible refine (slices_SortFunc__impl_SortBoard_1.calls (fun k_ => some k_ = (.slice Ao14 t182.length co14 : Value).ownBlock) (.slice Ao14 t182.length co14) t182  t191 w _ ?side1 ?side2 A6.out).mono ?_); (case side1 => exact zbo); (case side2 => exact Kd.R_tight rfl HO184.out); rintro e w22 ⟨rfl, hy0, hb, hkp⟩; refine ⟨_, rfl, ?_⟩; have n_ : _ ∧ _ ∧ _ ∧ _ ∧ _ := ⟨zkr BK179 hkp (fun hs_ => (fun e_ => (Kd.R_ne HO184.out BK179.out (by decide)) e_) hs_), zkr BK180 hkp (fun hs_ => (fun e_ => (Kd.R_ne HO184.out BK180.out (by decide)) e_) hs_), Aside0.mk (Kd.R_reok rfl hy0 (fun k_ e_ => HO184.out.1 k_ e_)), zkr BK190 hkp (fun hs_ => (fun e_ => (Kd.R_ne HO184.out BK190.out (by decide)) e_) hs_), Aside0.mk (hb)⟩; clear BK179 BK180 HO184 BK190 HB; obtain ⟨BK179, BK180, HO184, BK190, HB⟩ := n_; (try clear hb); (try clear hkp); (try clear hy0); obtain ⟨z23_0, z23_1, z23_2, y23_0, y23_1, y23_2⟩ := zB3 BK190; obtain ⟨z24_0, z24_1, z24_2, y24_0, y24_1, y24_2⟩ := zB3 BK180))
 refine bodyPost_ret (results_ct rfl _ _ gb180 29 #[.int .i8 t185, .int .i8 t186, .slice Ao14 t182.length co14] (0, 0) _ rfl (zp BK180) Try.underlying29 rfl (by kernel_rfl)) rfl ?_
 exact ⟨_, zv, Kd.R_mono (zs HO184 BK180).out (fun _ hk => trivial), zbo⟩
def laws_eqCell.l0 : Nat → Int → Int → Int → Int → Int → Option (Bool)
  | 0, _, _, _, _, _ => none
  | k + 1, x5, x193000, x193001, x194000, x194001 => if x5 < 2 then (if x5 = 0 then (if x193000 = x194000 then (laws_eqCell.l0 k (wrap64 (x5 + 1)) x193000 x193001 x194000 x194001) else (some false)) else (if x5 = 1 then (if x193001 = x194001 then (laws_eqCell.l0 k (wrap64 (x5 + 1)) x193000 x193001 x194000 x194001) else (some false)) else (none))) else (some true)
def laws_eqCell.f (k : Nat) (a0_0 : Int) (a0_1 : Int) (a1_0 : Int) (a1_1 : Int) : Option (Bool) := laws_eqCell.l0 k 0 a0_0 a0_1 a1_0 a1_1
theorem laws_eqCell.mono_l : ∀ k, (∀ y0 y1 y2 y3 y4, LeO (laws_eqCell.l0 k y0 y1 y2 y3 y4) (laws_eqCell.l0 (k + 1) y0 y1 y2 y3 y4))
  | 0 => fun _ _ _ _ _ r h => by simp [laws_eqCell.l0] at h
  | k + 1 => by
    have ih0 := laws_eqCell.mono_l k
    · intro y0 y1 y2 y3 y4
      unfold laws_eqCell.l0
      repeat' first | (with_reducible first | apply ih0 | exact LeO.refl _ | exact LeO.none _ | refine LeO.ite ?_ ?_ | refine LeO.bind ?_ (fun _ => ?_)) | apply ih0 | exact LeO.none _ | refine LeO.ite ?_ ?_ | refine LeO.bind ?_ (fun _ => ?_)
theorem laws_eqCell.mono : ∀ a0 a1 a2 a3 k, LeO (laws_eqCell.f k a0 a1 a2 a3) (laws_eqCell.f (k + 1) a0 a1 a2 a3) := by
 intro a0 a1 a2 a3 k
 have ih0 := laws_eqCell.mono_l k
 unfold laws_eqCell.f
 repeat' first | (with_reducible first | apply ih0 | exact LeO.refl _ | exact LeO.none _ | refine LeO.ite ?_ ?_ | refine LeO.bind ?_ (fun _ => ?_)) | apply ih0 | exact LeO.none _ | refine LeO.ite ?_ ?_ | refine LeO.bind ?_ (fun _ => ?_)
set_option maxHeartbeats 8000000 in
theorem laws_eqCell.calls (k : Nat) (a0_0 : Int) (a0_1 : Int) (a1_0 : Int) (a1_1 : Int) (r : Bool) (w : World) (h : laws_eqCell.f k a0_0 a0_1 a1_0 a1_1 = some r) :
    Calls Try.prog 49 #[.agg #[.int .i8 a0_0, .int .i8 a0_1], .agg #[.int .i8 a1_0, .int .i8 a1_1]] w fun e w' => e = .returned (.bool r) ∧ Below w.heap.size w w' := by
 have hu41 := Try.underlying41
 have HB := Aside0.mk (Below.refl w.heap.size w)
 have H : (laws_eqCell.l0 k 0 a0_0 a0_1 a1_0 a1_1) = some r := h
 clear h
 have H' := Aside0.mk H
 clear H
 go_enter Try.func49, Try.ntmps49
 go_wp2_with (first | ((with_reducible refine gate_dst (N := 2) rfl ?_); refine zbx 2 #[.int .i8 a0_0, .int .i8 a0_1] 41 ?_; intro gb192 hg w3 hbox hb; have n_ : _ ∧ _ ∧ _ ∧ _ := ⟨zb HB hb, Aside0.mk (hbox), zg HB hg, zg HB hg⟩; clear HB; obtain ⟨HB, BK192, GW192, GE192⟩ := n_; clear hb hbox hg) | ((with_reducible refine gate_dst (N := 3) rfl ?_); refine zbx 3 #[.int .i8 a1_0, .int .i8 a1_1] 41 ?_; intro gb193 hg w4 hbox hb; have n_ : _ ∧ _ ∧ _ ∧ _ ∧ _ ∧ _ ∧ _ := ⟨zk BK192 hb, zbs hb, Aside0.mk (hbox), zg HB hg, zg HB hg, zn1 BK192 hg, zn2 BK192 hg⟩; clear BK192 HB; obtain ⟨BK192, HB, BK193, GW193, GE193, NB192_193, NB193_192⟩ := n_; clear hb hbox hg) | go_quiet (fail))
 go_loopg [5] k (fun kq v5 w' => ∃ (x5_1 : Int), v5 = .int .i64 x5_1 ∧ Aside0 (laws_eqCell.l0 kq x5_1 a0_0 a0_1 a1_0 a1_1 = some r) ∧ Aside0 (kq ≤ k) ∧ Aside0 (w'.heap[gb192]? = some (.cells #[.int .i8 a0_0, .int .i8 a0_1] 41 (0, 0))) ∧ Aside0 (w'.heap[gb193]? = some (.cells #[.int .i8 a1_0, .int .i8 a1_1] 41 (0, 0))) ∧ Aside0 (Below w.heap.size w w'))
 case atStart => exact ⟨(0), zi, H', ⟨Nat.le_refl _⟩, zh BK192, zh BK193, zba⟩
 clear H'
 try clear p2
 try clear c4
 obtain ⟨x5_1, rfl, HA, HK1, BK192, BK193, HB⟩ := hrel
 cases gk with
 | zero => exact absurd HA.out (by simp [laws_eqCell.l0])
 | succ k1 => ?_
 have H := HA.out
 clear HA
 simp only [laws_eqCell.l0] at H
 by_cases c5 : x5_1 < 2
 rotate_left
 ·rw [if_neg c5] at H
  have c5b0 : decide (x5_1 < 2) = false := decide_eq_false c5
  clear c5
  obtain rfl := Option.some.inj H
  go_wp2
  repeat (go_quiet (fail); try go_wp2)
  go_ret
  exact ⟨zv, zbo⟩
 rw [if_pos c5] at H
 have c5b0 : decide (x5_1 < 2) = true := decide_eq_true c5
 clear c5
 by_cases c6 : x5_1 = 0
 ·rw [if_pos c6] at H
  have Ac6 : Aside0 (x5_1 = 0) := ⟨c6⟩
  clear c6
  have ar7e : x5_1 = 0 := by first | exact (show Aside0 (x5_1 = 0) by assumption).out | exact beq_iff_eq.mp (by assumption) | omega
  have ar7n : (x5_1).toNat = 0 := by rw [ar7e]; rfl
  have ar7l : decide (0 ≤ x5_1) = true := decide_eq_true (by omega)
  have ar7L := eq_true (of_decide_eq_true ar7l)
  have ar7h : decide (x5_1 < 2) = true := decide_eq_true (by omega)
  have ar7H := eq_true (of_decide_eq_true ar7h)
  clear ar7e
  have ar8e : x5_1 = 0 := by first | exact (show Aside0 (x5_1 = 0) by assumption).out | exact beq_iff_eq.mp (by assumption) | omega
  have ar8n : (x5_1).toNat = 0 := by rw [ar8e]; rfl
  have ar8l : decide (0 ≤ x5_1) = true := decide_eq_true (by omega)
  have ar8L := eq_true (of_decide_eq_true ar8l)
  have ar8h : decide (x5_1 < 2) = true := decide_eq_true (by omega)
  have ar8H := eq_true (of_decide_eq_true ar8h)
  clear ar8e
  by_cases c9 : a0_0 = a1_0
  ·rw [if_pos c9] at H
   have c9b0 : (a0_0 == a1_0) = true := beq_iff_eq.mpr c9
   have c9b1 : (a0_0 != a1_0) = false := bne_eq_false_iff_eq.mpr c9
   clear c9
   have H' := Aside0.mk H
   clear H
   have hnb10 := NB192_193.out
   have hnc10 := NB193_192.out
   obtain ⟨z11_0, z11_1, y11_0, y11_1⟩ := zB2 BK192
   obtain ⟨z12_0, z12_1, y12_0, y12_1⟩ := zB2 BK193
   go_wp2
   repeat (go_quiet (fail); try go_wp2)
   go_roundg k1
   case measure => have := HK1.out; omega
   case rel => exact ⟨(wrap64 (x5_1 + 1)), zi, H', ⟨by have := HK1.out; omega⟩, zh BK192, zh BK193, zba⟩
  rw [if_neg c9] at H
  have c9b0 : (a0_0 == a1_0) = false := beq_eq_false_iff_ne.mpr c9
  have c9b1 : (a0_0 != a1_0) = true := bne_iff_ne.mpr c9
  obtain rfl := Option.some.inj H
  have hnb13 := NB192_193.out
  have hnc13 := NB193_192.out
  obtain ⟨z14_0, z14_1, y14_0, y14_1⟩ := zB2 BK192
  obtain ⟨z15_0, z15_1, y15_0, y15_1⟩ := zB2 BK193
  go_wp2
  repeat (go_quiet (fail); try go_wp2)
  go_ret
  exact ⟨zv, zbo⟩
 rw [if_neg c6] at H
 clear c6
 by_cases c16 : x5_1 = 1
 rotate_left
 ·rw [if_neg c16] at H
  exact absurd H (by simp)
 rw [if_pos c16] at H
 have Ac16 : Aside0 (x5_1 = 1) := ⟨c16⟩
 clear c16
 have ar17e : x5_1 = 1 := by first | exact (show Aside0 (x5_1 = 1) by assumption).out | exact beq_iff_eq.mp (by assumption) | omega
 have ar17n : (x5_1).toNat = 1 := by rw [ar17e]; rfl
 have ar17l : decide (0 ≤ x5_1) = true := decide_eq_true (by omega)
 have ar17L := eq_true (of_decide_eq_true ar17l)
 have ar17h : decide (x5_1 < 2) = true := decide_eq_true (by omega)
 have ar17H := eq_true (of_decide_eq_true ar17h)
 clear ar17e
 have ar18e : x5_1 = 1 := by first | exact (show Aside0 (x5_1 = 1) by assumption).out | exact beq_iff_eq.mp (by assumption) | omega
 have ar18n : (x5_1).toNat = 1 := by rw [ar18e]; rfl
 have ar18l : decide (0 ≤ x5_1) = true := decide_eq_true (by omega)
 have ar18L := eq_true (of_decide_eq_true ar18l)
 have ar18h : decide (x5_1 < 2) = true := decide_eq_true (by omega)
 have ar18H := eq_true (of_decide_eq_true ar18h)
 clear ar18e
 by_cases c19 : a0_1 = a1_1
 ·rw [if_pos c19] at H
  have c19b0 : (a0_1 == a1_1) = true := beq_iff_eq.mpr c19
  have c19b1 : (a0_1 != a1_1) = false := bne_eq_false_iff_eq.mpr c19
  clear c19
  have H' := Aside0.mk H
  clear H
  have hnb20 := NB192_193.out
  have hnc20 := NB193_192.out
  obtain ⟨z21_0, z21_1, y21_0, y21_1⟩ := zB2 BK192
  obtain ⟨z22_0, z22_1, y22_0, y22_1⟩ := zB2 BK193
  go_wp2
  repeat (go_quiet (fail); try go_wp2)
  go_roundg k1
  case measure => have := HK1.out; omega
  case rel => exact ⟨(wrap64 (x5_1 + 1)), zi, H', ⟨by have := HK1.out; omega⟩, zh BK192, zh BK193, zba⟩
 rw [if_neg c19] at H
 have c19b0 : (a0_1 == a1_1) = false := beq_eq_false_iff_ne.mpr c19
 have c19b1 : (a0_1 != a1_1) = true := bne_iff_ne.mpr c19
 obtain rfl := Option.some.inj H
 have hnb23 := NB192_193.out
 have hnc23 := NB193_192.out
 obtain ⟨z24_0, z24_1, y24_0, y24_1⟩ := zB2 BK192
 obtain ⟨z25_0, z25_1, y25_0, y25_1⟩ := zB2 BK193
 go_wp2
 repeat (go_quiet (fail); try go_wp2)
 go_ret
 exact ⟨zv, zbo⟩
def laws_eqPiece.f (k : Nat) (a0_0 : Int) (a0_1 : Int) (a0_2 : Int) (a0_3 : Int) (a0_4 : Int) (a1_0 : Int) (a1_1 : Int) (a1_2 : Int) (a1_3 : Int) (a1_4 : Int) : Option (Bool) := (laws_eqCell.f k a0_0 a0_1 a1_0 a1_1).bind fun t196 => (if t196 = true then (if a0_2 = a1_2 then (if a0_3 = a1_3 then (if a0_4 = a1_4 then (some true) else (some false)) else (some false)) else (some false)) else (some false))
theorem laws_eqPiece.mono : ∀ a0 a1 a2 a3 a4 a5 a6 a7 a8 a9 k, LeO (laws_eqPiece.f k a0 a1 a2 a3 a4 a5 a6 a7 a8 a9) (laws_eqPiece.f (k + 1) a0 a1 a2 a3 a4 a5 a6 a7 a8 a9) := by
 intro a0 a1 a2 a3 a4 a5 a6 a7 a8 a9 k
 unfold laws_eqPiece.f
 repeat' first | (with_reducible first | apply laws_eqCell.mono | exact LeO.refl _ | exact LeO.none _ | refine LeO.ite ?_ ?_ | refine LeO.bind ?_ (fun _ => ?_)) | apply laws_eqCell.mono | exact LeO.none _ | refine LeO.ite ?_ ?_ | refine LeO.bind ?_ (fun _ => ?_)
set_option maxHeartbeats 8000000 in
theorem laws_eqPiece.calls (k : Nat) (a0_0 : Int) (a0_1 : Int) (a0_2 : Int) (a0_3 : Int) (a0_4 : Int) (a1_0 : Int) (a1_1 : Int) (a1_2 : Int) (a1_3 : Int) (a1_4 : Int) (r : Bool) (w : World) (h : laws_eqPiece.f k a0_0 a0_1 a0_2 a0_3 a0_4 a1_0 a1_1 a1_2 a1_3 a1_4 = some r) :
    Calls Try.prog 35 #[.agg #[.int .i8 a0_0, .int .i8 a0_1, .int .i8 a0_2, .int .i8 a0_3, .int .i8 a0_4], .agg #[.int .i8 a1_0, .int .i8 a1_1, .int .i8 a1_2, .int .i8 a1_3, .int .i8 a1_4]] w fun e w' => e = .returned (.bool r) ∧ Below w.heap.size w w' := by
 have hu43 := Try.underlying43
 have hu41 := Try.underlying41
 have HB := Aside0.mk (Below.refl w.heap.size w)
 have H : ((laws_eqCell.f k a0_0 a0_1 a1_0 a1_1).bind fun t196 => (if t196 = true then (if a0_2 = a1_2 then (if a0_3 = a1_3 then (if a0_4 = a1_4 then (some true) else (some false)) else (some false)) else (some false)) else (some false))) = some r := h
 clear h
 replace H := zob H
 obtain ⟨t196, A30, H⟩ := H
 replace H : (if t196 = true then (if a0_2 = a1_2 then (if a0_3 = a1_3 then (if a0_4 = a1_4 then (some true) else (some false)) else (some false)) else (some false)) else (some false)) = some r := H
 have A3 := Aside0.mk A30
 clear A30
 by_cases c4 : t196 = true
 rotate_left
 ·replace c4 := Bool.eq_false_iff.mpr c4
  subst c4
  have H1 : (some false) = some r := by rw [if_neg (show ¬ (false = true) by decide)] at H; exact H
  clear H
  have H := H1
  clear H1
  obtain rfl := Option.some.inj H
  go_enter Try.func35, Try.ntmps35
  go_wp2_with (first | ((with_reducible refine gate_dst (N := 2) rfl ?_); refine zbx 2 #[.int .i8 a0_0, .int .i8 a0_1, .int .i8 a0_2, .int .i8 a0_3, .int .i8 a0_4] 43 ?_; intro gb194 hg w40 hbox hb; have n_ : _ ∧ _ ∧ _ ∧ _ := ⟨zb HB hb, Aside0.mk (hbox), zg HB hg, zg HB hg⟩; clear HB; obtain ⟨HB, BK194, GW194, GE194⟩ := n_; clear hb hbox hg) | ((with_reducible refine gate_dst (N := 3) rfl ?_); refine zbx 3 #[.int .i8 a1_0, .int .i8 a1_1, .int .i8 a1_2, .int .i8 a1_3, .int .i8 a1_4] 43 ?_; intro gb195 hg w41 hbox hb; have n_ : _ ∧ _ ∧ _ ∧ _ ∧ _ ∧ _ ∧ _ := ⟨zk BK194 hb, zbs hb, Aside0.mk (hbox), zg HB hg, zg HB hg, zn1 BK194 hg, zn2 BK194 hg⟩; clear BK194 HB; obtain ⟨BK194, HB, BK195, GW195, GE195, NB194_195, NB195_194⟩ := n_; clear hb hbox hg; have hnb42 := NB194_195.out; have hnc42 := NB195_194.out; obtain ⟨z43_0, z43_1, z43_2, z43_3, z43_4, y43_0, y43_1, y43_2, y43_3, y43_4⟩ := zB5 BK194; obtain ⟨z44_0, z44_1, z44_2, z44_3, z44_4, y44_0, y44_1, y44_2, y44_3, y44_4⟩ := zB5 BK195) | ((with_reducible refine gate_callee (f := 49) rfl ?_); refine goesL_ (some 9) rfl rfl Try.func49 (by kernel_rfl) rfl #[.agg #[.int .i8 a0_0, .int .i8 a0_1], .agg #[.int .i8 a1_0, .int .i8 a1_1]] rfl zm ?_; (with_reducible refine (laws_eqCell.calls k a0_0 a0_1 a1_0 a1_1 false _ A3.out).mono ?_); rintro e w45 ⟨rfl, hb⟩; refine ⟨_, rfl, ?_⟩; have n_ : _ ∧ _ ∧ _ := ⟨zk BK194 hb, zk BK195 hb, zbs hb⟩; clear BK194 BK195 HB; obtain ⟨BK194, BK195, HB⟩ := n_; (try clear hb); (try clear hb2); (try clear hk); (try clear hi)))
  go_ret
  exact ⟨zv, zbo⟩
 subst c4
 have H1 : (if a0_2 = a1_2 then (if a0_3 = a1_3 then (if a0_4 = a1_4 then (some true) else (some false)) else (some false)) else (some false)) = some r := by rw [if_pos rfl] at H; exact H
 clear H
 have H := H1
 clear H1
 by_cases c5 : a0_2 = a1_2
 rotate_left
 ·rw [if_neg c5] at H
  have c5b0 : (a0_2 == a1_2) = false := beq_eq_false_iff_ne.mpr c5
  have c5b1 : (a0_2 != a1_2) = true := bne_iff_ne.mpr c5
  obtain rfl := Option.some.inj H
  go_enter Try.func35, Try.ntmps35
  go_wp2_with (first | ((with_reducible refine gate_dst (N := 2) rfl ?_); refine zbx 2 #[.int .i8 a0_0, .int .i8 a0_1, .int .i8 a0_2, .int .i8 a0_3, .int .i8 a0_4] 43 ?_; intro gb194 hg w32 hbox hb; have n_ : _ ∧ _ ∧ _ ∧ _ := ⟨zb HB hb, Aside0.mk (hbox), zg HB hg, zg HB hg⟩; clear HB; obtain ⟨HB, BK194, GW194, GE194⟩ := n_; clear hb hbox hg) | ((with_reducible refine gate_dst (N := 3) rfl ?_); refine zbx 3 #[.int .i8 a1_0, .int .i8 a1_1, .int .i8 a1_2, .int .i8 a1_3, .int .i8 a1_4] 43 ?_; intro gb195 hg w33 hbox hb; have n_ : _ ∧ _ ∧ _ ∧ _ ∧ _ ∧ _ ∧ _ := ⟨zk BK194 hb, zbs hb, Aside0.mk (hbox), zg HB hg, zg HB hg, zn1 BK194 hg, zn2 BK194 hg⟩; clear BK194 HB; obtain ⟨BK194, HB, BK195, GW195, GE195, NB194_195, NB195_194⟩ := n_; clear hb hbox hg; have hnb34 := NB194_195.out; have hnc34 := NB195_194.out; obtain ⟨z35_0, z35_1, z35_2, z35_3, z35_4, y35_0, y35_1, y35_2, y35_3, y35_4⟩ := zB5 BK194; obtain ⟨z36_0, z36_1, z36_2, z36_3, z36_4, y36_0, y36_1, y36_2, y36_3, y36_4⟩ := zB5 BK195) | ((with_reducible refine gate_callee (f := 49) rfl ?_); refine goesL_ (some 9) rfl rfl Try.func49 (by kernel_rfl) rfl #[.agg #[.int .i8 a0_0, .int .i8 a0_1], .agg #[.int .i8 a1_0, .int .i8 a1_1]] rfl zm ?_; (with_reducible refine (laws_eqCell.calls k a0_0 a0_1 a1_0 a1_1 true _ A3.out).mono ?_); rintro e w37 ⟨rfl, hb⟩; refine ⟨_, rfl, ?_⟩; have n_ : _ ∧ _ ∧ _ := ⟨zk BK194 hb, zk BK195 hb, zbs hb⟩; clear BK194 BK195 HB; obtain ⟨BK194, BK195, HB⟩ := n_; (try clear hb); (try clear hb2); (try clear hk); (try clear hi); obtain ⟨z38_0, z38_1, z38_2, z38_3, z38_4, y38_0, y38_1, y38_2, y38_3, y38_4⟩ := zB5 BK194; obtain ⟨z39_0, z39_1, z39_2, z39_3, z39_4, y39_0, y39_1, y39_2, y39_3, y39_4⟩ := zB5 BK195))
  go_ret
  exact ⟨zv, zbo⟩
 rw [if_pos c5] at H
 have c5b0 : (a0_2 == a1_2) = true := beq_iff_eq.mpr c5
 have c5b1 : (a0_2 != a1_2) = false := bne_eq_false_iff_eq.mpr c5
 clear c5
 by_cases c6 : a0_3 = a1_3
 rotate_left
 ·rw [if_neg c6] at H
  have c6b0 : (a0_3 == a1_3) = false := beq_eq_false_iff_ne.mpr c6
  have c6b1 : (a0_3 != a1_3) = true := bne_iff_ne.mpr c6
  obtain rfl := Option.some.inj H
  go_enter Try.func35, Try.ntmps35
  go_wp2_with (first | ((with_reducible refine gate_dst (N := 2) rfl ?_); refine zbx 2 #[.int .i8 a0_0, .int .i8 a0_1, .int .i8 a0_2, .int .i8 a0_3, .int .i8 a0_4] 43 ?_; intro gb194 hg w24 hbox hb; have n_ : _ ∧ _ ∧ _ ∧ _ := ⟨zb HB hb, Aside0.mk (hbox), zg HB hg, zg HB hg⟩; clear HB; obtain ⟨HB, BK194, GW194, GE194⟩ := n_; clear hb hbox hg) | ((with_reducible refine gate_dst (N := 3) rfl ?_); refine zbx 3 #[.int .i8 a1_0, .int .i8 a1_1, .int .i8 a1_2, .int .i8 a1_3, .int .i8 a1_4] 43 ?_; intro gb195 hg w25 hbox hb; have n_ : _ ∧ _ ∧ _ ∧ _ ∧ _ ∧ _ ∧ _ := ⟨zk BK194 hb, zbs hb, Aside0.mk (hbox), zg HB hg, zg HB hg, zn1 BK194 hg, zn2 BK194 hg⟩; clear BK194 HB; obtain ⟨BK194, HB, BK195, GW195, GE195, NB194_195, NB195_194⟩ := n_; clear hb hbox hg; have hnb26 := NB194_195.out; have hnc26 := NB195_194.out; obtain ⟨z27_0, z27_1, z27_2, z27_3, z27_4, y27_0, y27_1, y27_2, y27_3, y27_4⟩ := zB5 BK194; obtain ⟨z28_0, z28_1, z28_2, z28_3, z28_4, y28_0, y28_1, y28_2, y28_3, y28_4⟩ := zB5 BK195) | ((with_reducible refine gate_callee (f := 49) rfl ?_); refine goesL_ (some 9) rfl rfl Try.func49 (by kernel_rfl) rfl #[.agg #[.int .i8 a0_0, .int .i8 a0_1], .agg #[.int .i8 a1_0, .int .i8 a1_1]] rfl zm ?_; (with_reducible refine (laws_eqCell.calls k a0_0 a0_1 a1_0 a1_1 true _ A3.out).mono ?_); rintro e w29 ⟨rfl, hb⟩; refine ⟨_, rfl, ?_⟩; have n_ : _ ∧ _ ∧ _ := ⟨zk BK194 hb, zk BK195 hb, zbs hb⟩; clear BK194 BK195 HB; obtain ⟨BK194, BK195, HB⟩ := n_; (try clear hb); (try clear hb2); (try clear hk); (try clear hi); obtain ⟨z30_0, z30_1, z30_2, z30_3, z30_4, y30_0, y30_1, y30_2, y30_3, y30_4⟩ := zB5 BK194; obtain ⟨z31_0, z31_1, z31_2, z31_3, z31_4, y31_0, y31_1, y31_2, y31_3, y31_4⟩ := zB5 BK195))
  go_ret
  exact ⟨zv, zbo⟩
 rw [if_pos c6] at H
 have c6b0 : (a0_3 == a1_3) = true := beq_iff_eq.mpr c6
 have c6b1 : (a0_3 != a1_3) = false := bne_eq_false_iff_eq.mpr c6
 clear c6
 by_cases c7 : a0_4 = a1_4
 rotate_left
 ·rw [if_neg c7] at H
  have c7b0 : (a0_4 == a1_4) = false := beq_eq_false_iff_ne.mpr c7
  have c7b1 : (a0_4 != a1_4) = true := bne_iff_ne.mpr c7
  obtain rfl := Option.some.inj H
  go_enter Try.func35, Try.ntmps35
  go_wp2_with (first | ((with_reducible refine gate_dst (N := 2) rfl ?_); refine zbx 2 #[.int .i8 a0_0, .int .i8 a0_1, .int .i8 a0_2, .int .i8 a0_3, .int .i8 a0_4] 43 ?_; intro gb194 hg w16 hbox hb; have n_ : _ ∧ _ ∧ _ ∧ _ := ⟨zb HB hb, Aside0.mk (hbox), zg HB hg, zg HB hg⟩; clear HB; obtain ⟨HB, BK194, GW194, GE194⟩ := n_; clear hb hbox hg) | ((with_reducible refine gate_dst (N := 3) rfl ?_); refine zbx 3 #[.int .i8 a1_0, .int .i8 a1_1, .int .i8 a1_2, .int .i8 a1_3, .int .i8 a1_4] 43 ?_; intro gb195 hg w17 hbox hb; have n_ : _ ∧ _ ∧ _ ∧ _ ∧ _ ∧ _ ∧ _ := ⟨zk BK194 hb, zbs hb, Aside0.mk (hbox), zg HB hg, zg HB hg, zn1 BK194 hg, zn2 BK194 hg⟩; clear BK194 HB; obtain ⟨BK194, HB, BK195, GW195, GE195, NB194_195, NB195_194⟩ := n_; clear hb hbox hg; have hnb18 := NB194_195.out; have hnc18 := NB195_194.out; obtain ⟨z19_0, z19_1, z19_2, z19_3, z19_4, y19_0, y19_1, y19_2, y19_3, y19_4⟩ := zB5 BK194; obtain ⟨z20_0, z20_1, z20_2, z20_3, z20_4, y20_0, y20_1, y20_2, y20_3, y20_4⟩ := zB5 BK195) | ((with_reducible refine gate_callee (f := 49) rfl ?_); refine goesL_ (some 9) rfl rfl Try.func49 (by kernel_rfl) rfl #[.agg #[.int .i8 a0_0, .int .i8 a0_1], .agg #[.int .i8 a1_0, .int .i8 a1_1]] rfl zm ?_; (with_reducible refine (laws_eqCell.calls k a0_0 a0_1 a1_0 a1_1 true _ A3.out).mono ?_); rintro e w21 ⟨rfl, hb⟩; refine ⟨_, rfl, ?_⟩; have n_ : _ ∧ _ ∧ _ := ⟨zk BK194 hb, zk BK195 hb, zbs hb⟩; clear BK194 BK195 HB; obtain ⟨BK194, BK195, HB⟩ := n_; (try clear hb); (try clear hb2); (try clear hk); (try clear hi); obtain ⟨z22_0, z22_1, z22_2, z22_3, z22_4, y22_0, y22_1, y22_2, y22_3, y22_4⟩ := zB5 BK194; obtain ⟨z23_0, z23_1, z23_2, z23_3, z23_4, y23_0, y23_1, y23_2, y23_3, y23_4⟩ := zB5 BK195))
  go_ret
  exact ⟨zv, zbo⟩
 rw [if_pos c7] at H
 have c7b0 : (a0_4 == a1_4) = true := beq_iff_eq.mpr c7
 have c7b1 : (a0_4 != a1_4) = false := bne_eq_false_iff_eq.mpr c7
 clear c7
 obtain rfl := Option.some.inj H
 go_enter Try.func35, Try.ntmps35
 go_wp2_with (first | ((with_reducible refine gate_dst (N := 2) rfl ?_); refine zbx 2 #[.int .i8 a0_0, .int .i8 a0_1, .int .i8 a0_2, .int .i8 a0_3, .int .i8 a0_4] 43 ?_; intro gb194 hg w8 hbox hb; have n_ : _ ∧ _ ∧ _ ∧ _ := ⟨zb HB hb, Aside0.mk (hbox), zg HB hg, zg HB hg⟩; clear HB; obtain ⟨HB, BK194, GW194, GE194⟩ := n_; clear hb hbox hg) | ((with_reducible refine gate_dst (N := 3) rfl ?_); refine zbx 3 #[.int .i8 a1_0, .int .i8 a1_1, .int .i8 a1_2, .int .i8 a1_3, .int .i8 a1_4] 43 ?_; intro gb195 hg w9 hbox hb; have n_ : _ ∧ _ ∧ _ ∧ _ ∧ _ ∧ _ ∧ _ := ⟨zk BK194 hb, zbs hb, Aside0.mk (hbox), zg HB hg, zg HB hg, zn1 BK194 hg, zn2 BK194 hg⟩; clear BK194 HB; obtain ⟨BK194, HB, BK195, GW195, GE195, NB194_195, NB195_194⟩ := n_; clear hb hbox hg; have hnb10 := NB194_195.out; have hnc10 := NB195_194.out; obtain ⟨z11_0, z11_1, z11_2, z11_3, z11_4, y11_0, y11_1, y11_2, y11_3, y11_4⟩ := zB5 BK194; obtain ⟨z12_0, z12_1, z12_2, z12_3, z12_4, y12_0, y12_1, y12_2, y12_3, y12_4⟩ := zB5 BK195) | ((with_reducible refine gate_callee (f := 49) rfl ?_); refine goesL_ (some 9) rfl rfl Try.func49 (by kernel_rfl) rfl #[.agg #[.int .i8 a0_0, .int .i8 a0_1], .agg #[.int .i8 a1_0, .int .i8 a1_1]] rfl zm ?_; (with_reducible refine (laws_eqCell.calls k a0_0 a0_1 a1_0 a1_1 true _ A3.out).mono ?_); rintro e w13 ⟨rfl, hb⟩; refine ⟨_, rfl, ?_⟩; have n_ : _ ∧ _ ∧ _ := ⟨zk BK194 hb, zk BK195 hb, zbs hb⟩; clear BK194 BK195 HB; obtain ⟨BK194, BK195, HB⟩ := n_; (try clear hb); (try clear hb2); (try clear hk); (try clear hi); obtain ⟨z14_0, z14_1, z14_2, z14_3, z14_4, y14_0, y14_1, y14_2, y14_3, y14_4⟩ := zB5 BK194; obtain ⟨z15_0, z15_1, z15_2, z15_3, z15_4, y15_0, y15_1, y15_2, y15_3, y15_4⟩ := zB5 BK195))
 go_ret
 exact ⟨zv, zbo⟩
end Go.Proofs.Ytljjmgokebmldaa.PFnExactSortBoard
