-- WRITTEN by xprint.py, a program of this session's. Not trusted: Lean checks it.
-- packed by pack.py
import Derived.Test.YtjeejglobdgpjaaPFnPiecesx0
import Derived.Test.YtjeejglobdgpjaaPFnPiecesx5
import Derived.Test.YtjeejglobdgpjaaPFnPiecesx6
import Derived.Test.YtjeejglobdgpjaaPFnPiecesx7
import Derived.Test.YtjeejglobdgpjaaTFnPiecesa
namespace Go.Proofs.Ytjeejglobdgpjaa.PFnPieces
open Go.RowKit Go.Proofs.YtjeejglobdgpjaaW.PrintWords Go.Proofs.YtjeejglobdgpjaaW.PrintLast Go.Proofs.YtjeejglobdgpjaaW.PrintMore Go.Proofs.YtjeejglobdgpjaaX
attribute [local go_sem] max2_int min2_int max_two min_two max_three min_three max_four min_four   -- for this text's walks alone
set_option maxHeartbeats 8000000
set_option maxRecDepth 100000
set_option linter.unusedVariables false
set_option linter.unusedSimpArgs false

def impl_HitsFrom.l0 : Nat → Int → Int → Bool → Bool → Bool → Bool → Option (Bool × Bool × Bool × Bool × Int)
  | 0, _, _, _, _, _, _ => none
  | k + 1, x8, x25, x274000, x274001, x274002, x274003 => if x25 < 4 then ((impl_sides_has.f x8 x25).bind fun t274 => (if x25 = 0 then (impl_HitsFrom.l0 k x8 (wrap64 (x25 + 1)) t274 x274001 x274002 x274003) else (if x25 = 1 then (impl_HitsFrom.l0 k x8 (wrap64 (x25 + 1)) x274000 t274 x274002 x274003) else (if x25 = 2 then (impl_HitsFrom.l0 k x8 (wrap64 (x25 + 1)) x274000 x274001 t274 x274003) else (if x25 = 3 then (impl_HitsFrom.l0 k x8 (wrap64 (x25 + 1)) x274000 x274001 x274002 t274) else (none)))))) else (some (x274000, x274001, x274002, x274003, 0))
def impl_HitsFrom.f (k : Nat) (a0_0 : Int) (a0_1 : Int) (a0_2 : Int) (a0_3 : Int) (a0_4 : Int) (a1 : Int) : Option (Bool × Bool × Bool × Bool × Int) := (impl_pieceOk.f a0_0 a0_1 a0_2 a0_3 a0_4 a1).bind fun t270 => (if t270 = 0 then ((impl_Piece_falls.f k a0_0 a0_1 a0_2 a0_3 a0_4 a1).bind fun bt271 => (impl_HitsFrom.l0 k bt271.2 0 false false false false)) else (some (false, false, false, false, t270)))
theorem impl_HitsFrom.mono_l : ∀ k, (∀ y0 y1 y2 y3 y4 y5, LeO (impl_HitsFrom.l0 k y0 y1 y2 y3 y4 y5) (impl_HitsFrom.l0 (k + 1) y0 y1 y2 y3 y4 y5))
  | 0 => fun _ _ _ _ _ _ r h => by simp [impl_HitsFrom.l0] at h
  | k + 1 => by
    have ih0 := impl_HitsFrom.mono_l k
    · intro y0 y1 y2 y3 y4 y5
      unfold impl_HitsFrom.l0
      repeat' first | (with_reducible first | apply ih0 | apply impl_Piece_falls.mono | exact LeO.refl _ | exact LeO.none _ | refine LeO.ite ?_ ?_ | refine LeO.bind ?_ (fun _ => ?_)) | apply ih0 | apply impl_Piece_falls.mono | exact LeO.none _ | refine LeO.ite ?_ ?_ | refine LeO.bind ?_ (fun _ => ?_)
theorem impl_HitsFrom.mono : ∀ a0 a1 a2 a3 a4 a5 k, LeO (impl_HitsFrom.f k a0 a1 a2 a3 a4 a5) (impl_HitsFrom.f (k + 1) a0 a1 a2 a3 a4 a5) := by
 intro a0 a1 a2 a3 a4 a5 k
 have ih0 := impl_HitsFrom.mono_l k
 unfold impl_HitsFrom.f
 repeat' first | (with_reducible first | apply ih0 | apply impl_Piece_falls.mono | exact LeO.refl _ | exact LeO.none _ | refine LeO.ite ?_ ?_ | refine LeO.bind ?_ (fun _ => ?_)) | apply ih0 | apply impl_Piece_falls.mono | exact LeO.none _ | refine LeO.ite ?_ ?_ | refine LeO.bind ?_ (fun _ => ?_)
theorem impl_HitsFrom.calls (k : Nat) (a0_0 : Int) (a0_1 : Int) (a0_2 : Int) (a0_3 : Int) (a0_4 : Int) (a1 : Int) (r1 : Bool) (r2 : Bool) (r3 : Bool) (r4 : Bool) (r5 : Int) (w : World) (h : impl_HitsFrom.f k a0_0 a0_1 a0_2 a0_3 a0_4 a1 = some (r1, r2, r3, r4, r5)) :
    Calls Try.prog 12 #[.agg #[.int .i8 a0_0, .int .i8 a0_1, .int .i8 a0_2, .int .i8 a0_3, .int .i8 a0_4], .int .i64 a1] w fun e w' => e = .returned (.tuple #[.agg #[.bool r1, .bool r2, .bool r3, .bool r4], .int .i64 r5]) ∧ Below w.heap.size w w' := by
 have hu28 := Try.underlying28
 have hu36 := Try.underlying36
 have HB := Aside0.mk (Below.refl w.heap.size w)
 have H : ((impl_pieceOk.f a0_0 a0_1 a0_2 a0_3 a0_4 a1).bind fun t270 => (if t270 = 0 then ((impl_Piece_falls.f k a0_0 a0_1 a0_2 a0_3 a0_4 a1).bind fun bt271 => (impl_HitsFrom.l0 k bt271.2 0 false false false false)) else (some (false, false, false, false, t270)))) = some (r1, r2, r3, r4, r5) := h
 clear h
 replace H := zob H
 obtain ⟨t270, A30, H⟩ := H
 replace H : (if t270 = 0 then ((impl_Piece_falls.f k a0_0 a0_1 a0_2 a0_3 a0_4 a1).bind fun bt271 => (impl_HitsFrom.l0 k bt271.2 0 false false false false)) else (some (false, false, false, false, t270))) = some (r1, r2, r3, r4, r5) := H
 have A3 := Aside0.mk A30
 clear A30
 by_cases c4 : t270 = 0
 rotate_left
 ·rw [if_neg c4] at H
  have c4b0 : (t270 == 0) = false := beq_eq_false_iff_ne.mpr c4
  have c4b1 : (t270 != 0) = true := bne_iff_ne.mpr c4
  simp only [Option.some.injEq, Prod.mk.injEq] at H
  obtain ⟨rfl, rfl, rfl, rfl, rfl⟩ := H
  go_enter Try.func12, Try.ntmps12
  go_wp2_with (first | ((with_reducible refine gate_dst (N := 2) rfl ?_); refine zbx 2 #[.int .i8 a0_0, .int .i8 a0_1, .int .i8 a0_2, .int .i8 a0_3, .int .i8 a0_4] 28 ?_; intro gb268 hg w44 hbox hb; have n_ : _ ∧ _ ∧ _ ∧ _ := ⟨zb HB hb, Aside0.mk (hbox), zg HB hg, zg HB hg⟩; clear HB; obtain ⟨HB, BK268, GW268, GE268⟩ := n_; clear hb hbox hg) | ((with_reducible refine gate_dst (N := 4) rfl ?_); refine zbx 4 #[.bool false, .bool false, .bool false, .bool false] 36 ?_; intro gb269 hg w45 hbox hb; have n_ : _ ∧ _ ∧ _ ∧ _ ∧ _ ∧ _ ∧ _ := ⟨zk BK268 hb, zbs hb, Aside0.mk (hbox), zg HB hg, zg HB hg, zn1 BK268 hg, zn2 BK268 hg⟩; clear BK268 HB; obtain ⟨BK268, HB, BK269, GW269, GE269, NB268_269, NB269_268⟩ := n_; clear hb hbox hg; have hnb46 := NB268_269.out; have hnc46 := NB269_268.out; obtain ⟨z47_0, z47_1, z47_2, z47_3, z47_4, y47_0, y47_1, y47_2, y47_3, y47_4⟩ := zB5 BK268) | ((with_reducible refine gate_callee (f := 27) rfl ?_); refine goesL_ (some 13) rfl rfl Try.func27 (by kernel_rfl) rfl #[.agg #[.int .i8 a0_0, .int .i8 a0_1, .int .i8 a0_2, .int .i8 a0_3, .int .i8 a0_4], .int .i64 a1] rfl zm ?_; (with_reducible refine (impl_pieceOk.calls a0_0 a0_1 a0_2 a0_3 a0_4 a1 t270 _ A3.out).mono ?_); rintro e w48 ⟨rfl, hb⟩; refine ⟨_, rfl, ?_⟩; have n_ : _ ∧ _ ∧ _ := ⟨zk BK268 hb, zk BK269 hb, zbs hb⟩; clear BK268 BK269 HB; obtain ⟨BK268, BK269, HB⟩ := n_; (try clear hb); (try clear hb2); (try clear hk); (try clear hi); obtain ⟨z49_0, z49_1, z49_2, z49_3, y49_0, y49_1, y49_2, y49_3⟩ := zB4 BK269))
  refine bodyPost_ret (results_ct rfl _ _ gb269 36 #[.bool false, .bool false, .bool false, .bool false] (0, 0) _ rfl (zp BK269) Try.underlying36 rfl (by kernel_rfl)) rfl ?_
  exact ⟨zv, zbo⟩
 rw [if_pos c4] at H
 have c4b0 : (t270 == 0) = true := beq_iff_eq.mpr c4
 have c4b1 : (t270 != 0) = false := bne_eq_false_iff_eq.mpr c4
 clear c4
 replace H := zob H
 obtain ⟨⟨t271, t272⟩, A50, H⟩ := H
 replace H : (impl_HitsFrom.l0 k t272 0 false false false false) = some (r1, r2, r3, r4, r5) := H
 have A5 := Aside0.mk A50
 clear A50
 have H' := Aside0.mk H
 clear H
 go_enter Try.func12, Try.ntmps12
 go_wp2_with (first | ((with_reducible refine gate_dst (N := 2) rfl ?_); refine zbx 2 #[.int .i8 a0_0, .int .i8 a0_1, .int .i8 a0_2, .int .i8 a0_3, .int .i8 a0_4] 28 ?_; intro gb268 hg w6 hbox hb; have n_ : _ ∧ _ ∧ _ ∧ _ := ⟨zb HB hb, Aside0.mk (hbox), zg HB hg, zg HB hg⟩; clear HB; obtain ⟨HB, BK268, GW268, GE268⟩ := n_; clear hb hbox hg) | ((with_reducible refine gate_dst (N := 4) rfl ?_); refine zbx 4 #[.bool false, .bool false, .bool false, .bool false] 36 ?_; intro gb269 hg w7 hbox hb; have n_ : _ ∧ _ ∧ _ ∧ _ ∧ _ ∧ _ ∧ _ := ⟨zk BK268 hb, zbs hb, Aside0.mk (hbox), zg HB hg, zg HB hg, zn1 BK268 hg, zn2 BK268 hg⟩; clear BK268 HB; obtain ⟨BK268, HB, BK269, GW269, GE269, NB268_269, NB269_268⟩ := n_; clear hb hbox hg; have hnb8 := NB268_269.out; have hnc8 := NB269_268.out; obtain ⟨z9_0, z9_1, z9_2, z9_3, z9_4, y9_0, y9_1, y9_2, y9_3, y9_4⟩ := zB5 BK268) | ((with_reducible refine gate_callee (f := 27) rfl ?_); refine goesL_ (some 13) rfl rfl Try.func27 (by kernel_rfl) rfl #[.agg #[.int .i8 a0_0, .int .i8 a0_1, .int .i8 a0_2, .int .i8 a0_3, .int .i8 a0_4], .int .i64 a1] rfl zm ?_; (with_reducible refine (impl_pieceOk.calls a0_0 a0_1 a0_2 a0_3 a0_4 a1 t270 _ A3.out).mono ?_); rintro e w10 ⟨rfl, hb⟩; refine ⟨_, rfl, ?_⟩; have n_ : _ ∧ _ ∧ _ := ⟨zk BK268 hb, zk BK269 hb, zbs hb⟩; clear BK268 BK269 HB; obtain ⟨BK268, BK269, HB⟩ := n_; (try clear hb); (try clear hb2); (try clear hk); (try clear hi); obtain ⟨z11_0, z11_1, z11_2, z11_3, z11_4, y11_0, y11_1, y11_2, y11_3, y11_4⟩ := zB5 BK268) | ((with_reducible refine gate_callee (f := 28) rfl ?_); refine goesL_ (some 21) rfl rfl Try.func28 (by kernel_rfl) rfl #[.agg #[.int .i8 a0_0, .int .i8 a0_1, .int .i8 a0_2, .int .i8 a0_3, .int .i8 a0_4], .int .i64 a1] rfl zm ?_; (with_reducible refine (impl_Piece_falls.calls k a0_0 a0_1 a0_2 a0_3 a0_4 a1 t271 t272 _ A5.out).mono ?_); rintro e w12 ⟨rfl, hb⟩; refine ⟨_, rfl, ?_⟩; have n_ : _ ∧ _ ∧ _ := ⟨zk BK268 hb, zk BK269 hb, zbs hb⟩; clear BK268 BK269 HB; obtain ⟨BK268, BK269, HB⟩ := n_; (try clear hb); (try clear hb2); (try clear hk); (try clear hi)) | ((with_reducible refine gate_dst (N := 9) rfl ?_); refine zbx 9 #[.bool false, .bool false, .bool false, .bool false] 36 ?_; intro gb273 hg w13 hbox hb; have n_ : _ ∧ _ ∧ _ ∧ _ ∧ _ ∧ _ ∧ _ ∧ _ ∧ _ ∧ _ := ⟨zk BK268 hb, zk BK269 hb, zbs hb, Aside0.mk (hbox), zg HB hg, zg HB hg, zn1 BK268 hg, zn2 BK268 hg, zn1 BK269 hg, zn2 BK269 hg⟩; clear BK268 BK269 HB; obtain ⟨BK268, BK269, HB, BK273, GW273, GE273, NB268_273, NB273_268, NB269_273, NB273_269⟩ := n_; clear hb hbox hg; have hnb14 := NB273_268.out; have hnc14 := NB268_273.out; have hnb15 := NB273_269.out; have hnc15 := NB269_273.out; obtain ⟨z16_0, z16_1, z16_2, z16_3, y16_0, y16_1, y16_2, y16_3⟩ := zB4 BK273))
 go_loopg [25] k (fun kq v25 w' => ∃ (x25_1 : Int) (x274000_1 : Bool) (x274001_1 : Bool) (x274002_1 : Bool) (x274003_1 : Bool), v25 = .int .i64 x25_1 ∧ Aside0 (impl_HitsFrom.l0 kq t272 x25_1 x274000_1 x274001_1 x274002_1 x274003_1 = some (r1, r2, r3, r4, r5)) ∧ Aside0 (kq ≤ k) ∧ Aside0 (w'.heap[gb268]? = some (.cells #[.int .i8 a0_0, .int .i8 a0_1, .int .i8 a0_2, .int .i8 a0_3, .int .i8 a0_4] 28 (0, 0))) ∧ Aside0 (w'.heap[gb269]? = some (.cells #[.bool false, .bool false, .bool false, .bool false] 36 (0, 0))) ∧ Aside0 (w'.heap[gb273]? = some (.cells #[.bool x274000_1, .bool x274001_1, .bool x274002_1, .bool x274003_1] 36 (0, 0))) ∧ Aside0 (Below w.heap.size w w'))
 case atStart => exact ⟨(0), (false), (false), (false), (false), zi, H', ⟨Nat.le_refl _⟩, zf BK268 NB268_273, zf BK269 NB269_273, ⟨zp BK273⟩, zba⟩
 clear H'
 try clear c1
 try clear c2
 try clear p2
 try clear c4
 try clear c4b0
 try clear c4b1
 try clear c8
 try clear c12
 try clear c14
 try clear c15
 try clear z11_0 z11_1 z11_2 z11_3 z11_4
 try clear z16_0 z16_1 z16_2 z16_3
 try clear z9_0 z9_1 z9_2 z9_3 z9_4
 try clear y11_0
 try clear y11_1
 try clear y11_2
 try clear y11_3
 try clear y11_4
 try clear y16_0
 try clear y16_1
 try clear y16_2
 try clear y16_3
 try clear y9_0
 try clear y9_1
 try clear y9_2
 try clear y9_3
 try clear y9_4
 obtain ⟨x25_1, x274000_1, x274001_1, x274002_1, x274003_1, rfl, HA, HK1, BK268, BK269, BK273, HB⟩ := hrel
 cases gk with
 | zero => exact absurd HA.out (by simp [impl_HitsFrom.l0])
 | succ k1 => ?_
 have H := HA.out
 clear HA
 simp only [impl_HitsFrom.l0] at H
 by_cases c17 : x25_1 < 4
 rotate_left
 ·rw [if_neg c17] at H
  have c17b0 : decide (x25_1 < 4) = false := decide_eq_false c17
  clear c17
  simp only [Option.some.injEq, Prod.mk.injEq] at H
  obtain ⟨rfl, rfl, rfl, rfl, rfl⟩ := H
  have hnb39 := NB273_268.out
  have hnc39 := NB268_273.out
  have hnb40 := NB273_269.out
  have hnc40 := NB269_273.out
  obtain ⟨z41_0, z41_1, z41_2, z41_3, y41_0, y41_1, y41_2, y41_3⟩ := zB4 BK273
  have hnb42 := NB269_268.out
  have hnc42 := NB268_269.out
  obtain ⟨z43_0, z43_1, z43_2, z43_3, y43_0, y43_1, y43_2, y43_3⟩ := zB4 BK269
  go_wp2
  refine bodyPost_ret (results_ct rfl _ _ gb269 36 #[.bool x274000_1, .bool x274001_1, .bool x274002_1, .bool x274003_1] (0, 0) _ rfl (zp BK269) Try.underlying36 rfl (by kernel_rfl)) rfl ?_
  exact ⟨zv, zbo⟩
 rw [if_pos c17] at H
 have c17b0 : decide (x25_1 < 4) = true := decide_eq_true c17
 clear c17
 replace H := zob H
 obtain ⟨t274, A180, H⟩ := H
 replace H : (if x25_1 = 0 then (impl_HitsFrom.l0 k1 t272 (wrap64 (x25_1 + 1)) t274 x274001_1 x274002_1 x274003_1) else (if x25_1 = 1 then (impl_HitsFrom.l0 k1 t272 (wrap64 (x25_1 + 1)) x274000_1 t274 x274002_1 x274003_1) else (if x25_1 = 2 then (impl_HitsFrom.l0 k1 t272 (wrap64 (x25_1 + 1)) x274000_1 x274001_1 t274 x274003_1) else (if x25_1 = 3 then (impl_HitsFrom.l0 k1 t272 (wrap64 (x25_1 + 1)) x274000_1 x274001_1 x274002_1 t274) else (none))))) = some (r1, r2, r3, r4, r5) := H
 have A18 := Aside0.mk A180
 clear A180
 by_cases c19 : x25_1 = 0
 ·rw [if_pos c19] at H
  have Ac19 : Aside0 (x25_1 = 0) := ⟨c19⟩
  clear c19
  have ar20e : x25_1 = 0 := by first | exact (show Aside0 (x25_1 = 0) by assumption).out | exact beq_iff_eq.mp (by assumption) | omega
  have ar20n : (x25_1).toNat = 0 := by rw [ar20e]; rfl
  have ar20l : decide (0 ≤ x25_1) = true := decide_eq_true (by omega)
  have ar20L := eq_true (of_decide_eq_true ar20l)
  have ar20h : decide (x25_1 < 4) = true := decide_eq_true (by omega)
  have ar20H := eq_true (of_decide_eq_true ar20h)
  clear ar20e
  have H' := Aside0.mk H
  clear H
  go_wp2_with (first | ((with_reducible refine gate_callee (f := 31) rfl ?_); refine goesL_ (some 31) rfl rfl Try.func31 (by kernel_rfl) rfl #[.int .u8 t272, .int .i64 x25_1] rfl zm ?_; (with_reducible refine (impl_sides_has.calls t272 x25_1 t274 _ A18.out).mono ?_); rintro e w' ⟨rfl, ⟨nd, rfl⟩⟩; refine ⟨_, rfl, ?_⟩; (try (rw [drewN_self wr]; generalize hq_ : World.drewN wr _ = wr; have n0_ : Aside0 (wr.heap[gb268]? = some (.cells #[.int .i8 a0_0, .int .i8 a0_1, .int .i8 a0_2, .int .i8 a0_3, .int .i8 a0_4] 28 (0, 0))) := ⟨by rw [← hq_]; exact (zh BK268).out⟩; have n1_ : Aside0 (wr.heap[gb269]? = some (.cells #[.bool false, .bool false, .bool false, .bool false] 36 (0, 0))) := ⟨by rw [← hq_]; exact (zh BK269).out⟩; have n2_ : Aside0 (wr.heap[gb273]? = some (.cells #[.bool x274000_1, .bool x274001_1, .bool x274002_1, .bool x274003_1] 36 (0, 0))) := ⟨by rw [← hq_]; exact (zh BK273).out⟩; have n3_ : Aside0 (Below w.heap.size w wr) := ⟨by rw [← hq_]; exact zbo⟩; clear BK268 BK269 BK273 HB hq_; have BK268 := n0_; have BK269 := n1_; have BK273 := n2_; have HB := n3_; clear n0_ n1_ n2_ n3_)); have hnb21 := NB273_268.out; have hnc21 := NB268_273.out; have hnb22 := NB273_269.out; have hnc22 := NB269_273.out; obtain ⟨z23_0, z23_1, z23_2, z23_3, y23_0, y23_1, y23_2, y23_3⟩ := zB4 BK273))
  go_roundg k1
  case measure => have := HK1.out; omega
  case rel => exact ⟨(wrap64 (x25_1 + 1)), (t274), (x274001_1), (x274002_1), (x274003_1), zi, H', ⟨by have := HK1.out; omega⟩, zf BK268 NB268_273, zf BK269 NB269_273, ⟨zp BK273⟩, zba⟩
 rw [if_neg c19] at H
 clear c19
 by_cases c24 : x25_1 = 1
 ·rw [if_pos c24] at H
  have Ac24 : Aside0 (x25_1 = 1) := ⟨c24⟩
  clear c24
  have ar25e : x25_1 = 1 := by first | exact (show Aside0 (x25_1 = 1) by assumption).out | exact beq_iff_eq.mp (by assumption) | omega
  have ar25n : (x25_1).toNat = 1 := by rw [ar25e]; rfl
  have ar25l : decide (0 ≤ x25_1) = true := decide_eq_true (by omega)
  have ar25L := eq_true (of_decide_eq_true ar25l)
  have ar25h : decide (x25_1 < 4) = true := decide_eq_true (by omega)
  have ar25H := eq_true (of_decide_eq_true ar25h)
  clear ar25e
  have H' := Aside0.mk H
  clear H
  go_wp2_with (first | ((with_reducible refine gate_callee (f := 31) rfl ?_); refine goesL_ (some 31) rfl rfl Try.func31 (by kernel_rfl) rfl #[.int .u8 t272, .int .i64 x25_1] rfl zm ?_; (with_reducible refine (impl_sides_has.calls t272 x25_1 t274 _ A18.out).mono ?_); rintro e w' ⟨rfl, ⟨nd, rfl⟩⟩; refine ⟨_, rfl, ?_⟩; (try (rw [drewN_self wr]; generalize hq_ : World.drewN wr _ = wr; have n0_ : Aside0 (wr.heap[gb268]? = some (.cells #[.int .i8 a0_0, .int .i8 a0_1, .int .i8 a0_2, .int .i8 a0_3, .int .i8 a0_4] 28 (0, 0))) := ⟨by rw [← hq_]; exact (zh BK268).out⟩; have n1_ : Aside0 (wr.heap[gb269]? = some (.cells #[.bool false, .bool false, .bool false, .bool false] 36 (0, 0))) := ⟨by rw [← hq_]; exact (zh BK269).out⟩; have n2_ : Aside0 (wr.heap[gb273]? = some (.cells #[.bool x274000_1, .bool x274001_1, .bool x274002_1, .bool x274003_1] 36 (0, 0))) := ⟨by rw [← hq_]; exact (zh BK273).out⟩; have n3_ : Aside0 (Below w.heap.size w wr) := ⟨by rw [← hq_]; exact zbo⟩; clear BK268 BK269 BK273 HB hq_; have BK268 := n0_; have BK269 := n1_; have BK273 := n2_; have HB := n3_; clear n0_ n1_ n2_ n3_)); have hnb26 := NB273_268.out; have hnc26 := NB268_273.out; have hnb27 := NB273_269.out; have hnc27 := NB269_273.out; obtain ⟨z28_0, z28_1, z28_2, z28_3, y28_0, y28_1, y28_2, y28_3⟩ := zB4 BK273))
  go_roundg k1
  case measure => have := HK1.out; omega
  case rel => exact ⟨(wrap64 (x25_1 + 1)), (x274000_1), (t274), (x274002_1), (x274003_1), zi, H', ⟨by have := HK1.out; omega⟩, zf BK268 NB268_273, zf BK269 NB269_273, ⟨zp BK273⟩, zba⟩
 rw [if_neg c24] at H
 clear c24
 by_cases c29 : x25_1 = 2
 ·rw [if_pos c29] at H
  have Ac29 : Aside0 (x25_1 = 2) := ⟨c29⟩
  clear c29
  have ar30e : x25_1 = 2 := by first | exact (show Aside0 (x25_1 = 2) by assumption).out | exact beq_iff_eq.mp (by assumption) | omega
  have ar30n : (x25_1).toNat = 2 := by rw [ar30e]; rfl
  have ar30l : decide (0 ≤ x25_1) = true := decide_eq_true (by omega)
  have ar30L := eq_true (of_decide_eq_true ar30l)
  have ar30h : decide (x25_1 < 4) = true := decide_eq_true (by omega)
  have ar30H := eq_true (of_decide_eq_true ar30h)
  clear ar30e
  have H' := Aside0.mk H
  clear H
  go_wp2_with (first | ((with_reducible refine gate_callee (f := 31) rfl ?_); refine goesL_ (some 31) rfl rfl Try.func31 (by kernel_rfl) rfl #[.int .u8 t272, .int .i64 x25_1] rfl zm ?_; (with_reducible refine (impl_sides_has.calls t272 x25_1 t274 _ A18.out).mono ?_); rintro e w' ⟨rfl, ⟨nd, rfl⟩⟩; refine ⟨_, rfl, ?_⟩; (try (rw [drewN_self wr]; generalize hq_ : World.drewN wr _ = wr; have n0_ : Aside0 (wr.heap[gb268]? = some (.cells #[.int .i8 a0_0, .int .i8 a0_1, .int .i8 a0_2, .int .i8 a0_3, .int .i8 a0_4] 28 (0, 0))) := ⟨by rw [← hq_]; exact (zh BK268).out⟩; have n1_ : Aside0 (wr.heap[gb269]? = some (.cells #[.bool false, .bool false, .bool false, .bool false] 36 (0, 0))) := ⟨by rw [← hq_]; exact (zh BK269).out⟩; have n2_ : Aside0 (wr.heap[gb273]? = some (.cells #[.bool x274000_1, .bool x274001_1, .bool x274002_1, .bool x274003_1] 36 (0, 0))) := ⟨by rw [← hq_]; exact (zh BK273).out⟩; have n3_ : Aside0 (Below w.heap.size w wr) := ⟨by rw [← hq_]; exact zbo⟩; clear BK268 BK269 BK273 HB hq_; have BK268 := n0_; have BK269 := n1_; have BK273 := n2_; have HB := n3_; clear n0_ n1_ n2_ n3_)); have hnb31 := NB273_268.out; have hnc31 := NB268_273.out; have hnb32 := NB273_269.out; have hnc32 := NB269_273.out; obtain ⟨z33_0, z33_1, z33_2, z33_3, y33_0, y33_1, y33_2, y33_3⟩ := zB4 BK273))
  go_roundg k1
  case measure => have := HK1.out; omega
  case rel => exact ⟨(wrap64 (x25_1 + 1)), (x274000_1), (x274001_1), (t274), (x274003_1), zi, H', ⟨by have := HK1.out; omega⟩, zf BK268 NB268_273, zf BK269 NB269_273, ⟨zp BK273⟩, zba⟩
 rw [if_neg c29] at H
 clear c29
 by_cases c34 : x25_1 = 3
 rotate_left
 ·rw [if_neg c34] at H
  exact absurd H (by simp)
 rw [if_pos c34] at H
 have Ac34 : Aside0 (x25_1 = 3) := ⟨c34⟩
 clear c34
 have ar35e : x25_1 = 3 := by first | exact (show Aside0 (x25_1 = 3) by assumption).out | exact beq_iff_eq.mp (by assumption) | omega
 have ar35n : (x25_1).toNat = 3 := by rw [ar35e]; rfl
 have ar35l : decide (0 ≤ x25_1) = true := decide_eq_true (by omega)
 have ar35L := eq_true (of_decide_eq_true ar35l)
 have ar35h : decide (x25_1 < 4) = true := decide_eq_true (by omega)
 have ar35H := eq_true (of_decide_eq_true ar35h)
 clear ar35e
 have H' := Aside0.mk H
 clear H
 go_wp2_with (first | ((with_reducible refine gate_callee (f := 31) rfl ?_); refine goesL_ (some 31) rfl rfl Try.func31 (by kernel_rfl) rfl #[.int .u8 t272, .int .i64 x25_1] rfl zm ?_; (with_reducible refine (impl_sides_has.calls t272 x25_1 t274 _ A18.out).mono ?_); rintro e w' ⟨rfl, ⟨nd, rfl⟩⟩; refine ⟨_, rfl, ?_⟩; (try (rw [drewN_self wr]; generalize hq_ : World.drewN wr _ = wr; have n0_ : Aside0 (wr.heap[gb268]? = some (.cells #[.int .i8 a0_0, .int .i8 a0_1, .int .i8 a0_2, .int .i8 a0_3, .int .i8 a0_4] 28 (0, 0))) := ⟨by rw [← hq_]; exact (zh BK268).out⟩; have n1_ : Aside0 (wr.heap[gb269]? = some (.cells #[.bool false, .bool false, .bool false, .bool false] 36 (0, 0))) := ⟨by rw [← hq_]; exact (zh BK269).out⟩; have n2_ : Aside0 (wr.heap[gb273]? = some (.cells #[.bool x274000_1, .bool x274001_1, .bool x274002_1, .bool x274003_1] 36 (0, 0))) := ⟨by rw [← hq_]; exact (zh BK273).out⟩; have n3_ : Aside0 (Below w.heap.size w wr) := ⟨by rw [← hq_]; exact zbo⟩; clear BK268 BK269 BK273 HB hq_; have BK268 := n0_; have BK269 := n1_; have BK273 := n2_; have HB := n3_; clear n0_ n1_ n2_ n3_)); have hnb36 := NB273_268.out; have hnc36 := NB268_273.out; have hnb37 := NB273_269.out; have hnc37 := NB269_273.out; obtain ⟨z38_0, z38_1, z38_2, z38_3, y38_0, y38_1, y38_2, y38_3⟩ := zB4 BK273))
 go_roundg k1
 case measure => have := HK1.out; omega
 case rel => exact ⟨(wrap64 (x25_1 + 1)), (x274000_1), (x274001_1), (x274002_1), (t274), zi, H', ⟨by have := HK1.out; omega⟩, zf BK268 NB268_273, zf BK269 NB269_273, ⟨zp BK273⟩, zba⟩
def spec_HitsFrom.l0 : Nat → Int → Int → Bool → Bool → Bool → Bool → Option (Bool × Bool × Bool × Bool × Int)
  | 0, _, _, _, _, _, _ => none
  | k + 1, x8, x9, x278000, x278001, x278002, x278003 => if x9 < 4 then (if x8 > 0 then (if 0 ≤ (IntKind.u64.wrap (x9)) then (if x9 = 0 then (spec_HitsFrom.l0 k x8 (wrap64 (x9 + 1)) ((Int.tmod (shr .i64 x8 (IntKind.u64.wrap (x9))) 2) == 1) x278001 x278002 x278003) else (if x9 = 1 then (spec_HitsFrom.l0 k x8 (wrap64 (x9 + 1)) x278000 ((Int.tmod (shr .i64 x8 (IntKind.u64.wrap (x9))) 2) == 1) x278002 x278003) else (if x9 = 2 then (spec_HitsFrom.l0 k x8 (wrap64 (x9 + 1)) x278000 x278001 ((Int.tmod (shr .i64 x8 (IntKind.u64.wrap (x9))) 2) == 1) x278003) else (if x9 = 3 then (spec_HitsFrom.l0 k x8 (wrap64 (x9 + 1)) x278000 x278001 x278002 ((Int.tmod (shr .i64 x8 (IntKind.u64.wrap (x9))) 2) == 1)) else (none))))) else (none)) else (some (x278000, x278001, x278002, x278003, 0))) else (some (x278000, x278001, x278002, x278003, 0))
def spec_HitsFrom.f (k : Nat) (a0_0 : Int) (a0_1 : Int) (a0_2 : Int) (a0_3 : Int) (a0_4 : Int) (a1 : Int) : Option (Bool × Bool × Bool × Bool × Int) := (spec_l01Asked.f [(⟨(⟨a0_0, a0_1⟩ : S26), a0_2, a0_3, a0_4⟩ : S28)] a1).bind fun t278 => (if t278 = 0 then ((spec_l01Hits.f k [(⟨(⟨a0_0, a0_1⟩ : S26), a0_2, a0_3, a0_4⟩ : S28)] a1).bind fun t279 => (spec_HitsFrom.l0 k t279 0 false false false false)) else (some (false, false, false, false, t278)))
theorem spec_HitsFrom.mono_l : ∀ k, (∀ y0 y1 y2 y3 y4 y5, LeO (spec_HitsFrom.l0 k y0 y1 y2 y3 y4 y5) (spec_HitsFrom.l0 (k + 1) y0 y1 y2 y3 y4 y5))
  | 0 => fun _ _ _ _ _ _ r h => by simp [spec_HitsFrom.l0] at h
  | k + 1 => by
    have ih0 := spec_HitsFrom.mono_l k
    · intro y0 y1 y2 y3 y4 y5
      unfold spec_HitsFrom.l0
      repeat' first | (with_reducible first | apply ih0 | apply spec_l01Hits.mono | exact LeO.refl _ | exact LeO.none _ | refine LeO.ite ?_ ?_ | refine LeO.bind ?_ (fun _ => ?_)) | apply ih0 | apply spec_l01Hits.mono | exact LeO.none _ | refine LeO.ite ?_ ?_ | refine LeO.bind ?_ (fun _ => ?_)
theorem spec_HitsFrom.mono : ∀ a0 a1 a2 a3 a4 a5 k, LeO (spec_HitsFrom.f k a0 a1 a2 a3 a4 a5) (spec_HitsFrom.f (k + 1) a0 a1 a2 a3 a4 a5) := by
 intro a0 a1 a2 a3 a4 a5 k
 have ih0 := spec_HitsFrom.mono_l k
 unfold spec_HitsFrom.f
 repeat' first | (with_reducible first | apply ih0 | apply spec_l01Hits.mono | exact LeO.refl _ | exact LeO.none _ | refine LeO.ite ?_ ?_ | refine LeO.bind ?_ (fun _ => ?_)) | apply ih0 | apply spec_l01Hits.mono | exact LeO.none _ | refine LeO.ite ?_ ?_ | refine LeO.bind ?_ (fun _ => ?_)
theorem spec_HitsFrom.calls (k : Nat) (a0_0 : Int) (a0_1 : Int) (a0_2 : Int) (a0_3 : Int) (a0_4 : Int) (a1 : Int) (r1 : Bool) (r2 : Bool) (r3 : Bool) (r4 : Bool) (r5 : Int) (w : World) (h : spec_HitsFrom.f k a0_0 a0_1 a0_2 a0_3 a0_4 a1 = some (r1, r2, r3, r4, r5)) :
    Calls Try.prog 13 #[.agg #[.int .i8 a0_0, .int .i8 a0_1, .int .i8 a0_2, .int .i8 a0_3, .int .i8 a0_4], .int .i64 a1] w fun e w' => e = .returned (.tuple #[.agg #[.bool r1, .bool r2, .bool r3, .bool r4], .int .i64 r5]) ∧ Below w.heap.size w w' := by
 have hu28 := Try.underlying28
 have hu36 := Try.underlying36
 have HB := Aside0.mk (Below.refl w.heap.size w)
 have H : ((spec_l01Asked.f [(⟨(⟨a0_0, a0_1⟩ : S26), a0_2, a0_3, a0_4⟩ : S28)] a1).bind fun t278 => (if t278 = 0 then ((spec_l01Hits.f k [(⟨(⟨a0_0, a0_1⟩ : S26), a0_2, a0_3, a0_4⟩ : S28)] a1).bind fun t279 => (spec_HitsFrom.l0 k t279 0 false false false false)) else (some (false, false, false, false, t278)))) = some (r1, r2, r3, r4, r5) := h
 clear h
 replace H := zob H
 obtain ⟨t278, A30, H⟩ := H
 replace H : (if t278 = 0 then ((spec_l01Hits.f k [(⟨(⟨a0_0, a0_1⟩ : S26), a0_2, a0_3, a0_4⟩ : S28)] a1).bind fun t279 => (spec_HitsFrom.l0 k t279 0 false false false false)) else (some (false, false, false, false, t278))) = some (r1, r2, r3, r4, r5) := H
 have A3 := Aside0.mk A30
 clear A30
 by_cases c4 : t278 = 0
 rotate_left
 ·rw [if_neg c4] at H
  have c4b0 : (t278 == 0) = false := beq_eq_false_iff_ne.mpr c4
  have c4b1 : (t278 != 0) = true := bne_iff_ne.mpr c4
  simp only [Option.some.injEq, Prod.mk.injEq] at H
  obtain ⟨rfl, rfl, rfl, rfl, rfl⟩ := H
  go_enter Try.func13, Try.ntmps13
  go_wp2_with (first | ((with_reducible refine gate_dst (N := 2) rfl ?_); refine zbx 2 #[.int .i8 a0_0, .int .i8 a0_1, .int .i8 a0_2, .int .i8 a0_3, .int .i8 a0_4] 28 ?_; intro gb275 hg w49 hbox hb; have n_ : _ ∧ _ ∧ _ ∧ _ := ⟨zb HB hb, Aside0.mk (hbox), zg HB hg, zg HB hg⟩; clear HB; obtain ⟨HB, BK275, GW275, GE275⟩ := n_; clear hb hbox hg) | ((with_reducible refine gate_dst (N := 4) rfl ?_); refine zbx 4 #[.bool false, .bool false, .bool false, .bool false] 36 ?_; intro gb276 hg w50 hbox hb; have n_ : _ ∧ _ ∧ _ ∧ _ ∧ _ ∧ _ ∧ _ := ⟨zk BK275 hb, zbs hb, Aside0.mk (hbox), zg HB hg, zg HB hg, zn1 BK275 hg, zn2 BK275 hg⟩; clear BK275 HB; obtain ⟨BK275, HB, BK276, GW276, GE276, NB275_276, NB276_275⟩ := n_; clear hb hbox hg) | ((with_reducible refine gate_dst (N := 6) rfl ?_); refine zbx 6 #[.bool false, .bool false, .bool false, .bool false] 36 ?_; intro gb277 hg w51 hbox hb; have n_ : _ ∧ _ ∧ _ ∧ _ ∧ _ ∧ _ ∧ _ ∧ _ ∧ _ ∧ _ := ⟨zk BK275 hb, zk BK276 hb, zbs hb, Aside0.mk (hbox), zg HB hg, zg HB hg, zn1 BK275 hg, zn2 BK275 hg, zn1 BK276 hg, zn2 BK276 hg⟩; clear BK275 BK276 HB; obtain ⟨BK275, BK276, HB, BK277, GW277, GE277, NB275_277, NB277_275, NB276_277, NB277_276⟩ := n_; clear hb hbox hg; have hnb52 := NB277_275.out; have hnc52 := NB275_277.out; have hnb53 := NB277_276.out; have hnc53 := NB276_277.out; obtain ⟨z54_0, z54_1, z54_2, z54_3, y54_0, y54_1, y54_2, y54_3⟩ := zB4 BK277) | ((with_reducible refine gate_callee (f := 29) rfl ?_); refine goesL_ (some 12) rfl rfl Try.func29 (by kernel_rfl) rfl #[.pointer (some ⟨gb275, 0, none⟩), .int .i64 a1] rfl zm ?_; (with_reducible refine (spec_l01Asked.calls _ [(⟨(⟨a0_0, a0_1⟩ : S26), a0_2, a0_3, a0_4⟩ : S28)] a1 t278 _ ?side1 A3.out).mono ?_); (case side1 => refine ro_of_blk (T := 28) (cs := #[.int .i8 a0_0, .int .i8 a0_1, .int .i8 a0_2, .int .i8 a0_3, .int .i8 a0_4]) (zf BK275 NB275_277).out ?_; exact k28_mk _ (⟨(⟨a0_0, a0_1⟩ : S26), a0_2, a0_3, a0_4⟩ : S28) ); rintro e w55 ⟨rfl, hb⟩; refine ⟨_, rfl, ?_⟩; have n_ : _ ∧ _ ∧ _ ∧ _ := ⟨zfb BK275 NB275_277 hb, zfb BK276 NB276_277 hb, Aside0.mk (blk_below (g := gb277) (o := .cells #[.bool false, .bool false, .bool false, .bool false] 36 (0, 0)) (zp BK277) hb), zbs hb⟩; clear BK275 BK276 BK277 HB; obtain ⟨BK275, BK276, BK277, HB⟩ := n_; (try clear hb); (try clear hb2); (try clear hk); (try clear hi); obtain ⟨z56_0, z56_1, z56_2, z56_3, y56_0, y56_1, y56_2, y56_3⟩ := zB4 BK277; have hnb57 := NB276_275.out; have hnc57 := NB275_276.out; obtain ⟨z58_0, z58_1, z58_2, z58_3, y58_0, y58_1, y58_2, y58_3⟩ := zB4 BK276))
  refine bodyPost_ret (results_ct rfl _ _ gb276 36 #[.bool false, .bool false, .bool false, .bool false] (0, 0) _ rfl (zp BK276) Try.underlying36 rfl (by kernel_rfl)) rfl ?_
  exact ⟨zv, zbo⟩
 rw [if_pos c4] at H
 have c4b0 : (t278 == 0) = true := beq_iff_eq.mpr c4
 have c4b1 : (t278 != 0) = false := bne_eq_false_iff_eq.mpr c4
 clear c4
 replace H := zob H
 obtain ⟨t279, A50, H⟩ := H
 replace H : (spec_HitsFrom.l0 k t279 0 false false false false) = some (r1, r2, r3, r4, r5) := H
 have A5 := Aside0.mk A50
 clear A50
 have H' := Aside0.mk H
 clear H
 go_enter Try.func13, Try.ntmps13
 go_wp2_with (first | ((with_reducible refine gate_dst (N := 2) rfl ?_); refine zbx 2 #[.int .i8 a0_0, .int .i8 a0_1, .int .i8 a0_2, .int .i8 a0_3, .int .i8 a0_4] 28 ?_; intro gb275 hg w6 hbox hb; have n_ : _ ∧ _ ∧ _ ∧ _ := ⟨zb HB hb, Aside0.mk (hbox), zg HB hg, zg HB hg⟩; clear HB; obtain ⟨HB, BK275, GW275, GE275⟩ := n_; clear hb hbox hg) | ((with_reducible refine gate_dst (N := 4) rfl ?_); refine zbx 4 #[.bool false, .bool false, .bool false, .bool false] 36 ?_; intro gb276 hg w7 hbox hb; have n_ : _ ∧ _ ∧ _ ∧ _ ∧ _ ∧ _ ∧ _ := ⟨zk BK275 hb, zbs hb, Aside0.mk (hbox), zg HB hg, zg HB hg, zn1 BK275 hg, zn2 BK275 hg⟩; clear BK275 HB; obtain ⟨BK275, HB, BK276, GW276, GE276, NB275_276, NB276_275⟩ := n_; clear hb hbox hg) | ((with_reducible refine gate_dst (N := 6) rfl ?_); refine zbx 6 #[.bool false, .bool false, .bool false, .bool false] 36 ?_; intro gb277 hg w8 hbox hb; have n_ : _ ∧ _ ∧ _ ∧ _ ∧ _ ∧ _ ∧ _ ∧ _ ∧ _ ∧ _ := ⟨zk BK275 hb, zk BK276 hb, zbs hb, Aside0.mk (hbox), zg HB hg, zg HB hg, zn1 BK275 hg, zn2 BK275 hg, zn1 BK276 hg, zn2 BK276 hg⟩; clear BK275 BK276 HB; obtain ⟨BK275, BK276, HB, BK277, GW277, GE277, NB275_277, NB277_275, NB276_277, NB277_276⟩ := n_; clear hb hbox hg; have hnb9 := NB277_275.out; have hnc9 := NB275_277.out; have hnb10 := NB277_276.out; have hnc10 := NB276_277.out; obtain ⟨z11_0, z11_1, z11_2, z11_3, y11_0, y11_1, y11_2, y11_3⟩ := zB4 BK277) | ((with_reducible refine gate_callee (f := 29) rfl ?_); refine goesL_ (some 12) rfl rfl Try.func29 (by kernel_rfl) rfl #[.pointer (some ⟨gb275, 0, none⟩), .int .i64 a1] rfl zm ?_; (with_reducible refine (spec_l01Asked.calls _ [(⟨(⟨a0_0, a0_1⟩ : S26), a0_2, a0_3, a0_4⟩ : S28)] a1 t278 _ ?side1 A3.out).mono ?_); (case side1 => refine ro_of_blk (T := 28) (cs := #[.int .i8 a0_0, .int .i8 a0_1, .int .i8 a0_2, .int .i8 a0_3, .int .i8 a0_4]) (zf BK275 NB275_277).out ?_; exact k28_mk _ (⟨(⟨a0_0, a0_1⟩ : S26), a0_2, a0_3, a0_4⟩ : S28) ); rintro e w12 ⟨rfl, hb⟩; refine ⟨_, rfl, ?_⟩; have n_ : _ ∧ _ ∧ _ ∧ _ := ⟨zfb BK275 NB275_277 hb, zfb BK276 NB276_277 hb, Aside0.mk (blk_below (g := gb277) (o := .cells #[.bool false, .bool false, .bool false, .bool false] 36 (0, 0)) (zp BK277) hb), zbs hb⟩; clear BK275 BK276 BK277 HB; obtain ⟨BK275, BK276, BK277, HB⟩ := n_; (try clear hb); (try clear hb2); (try clear hk); (try clear hi)) | ((with_reducible refine gate_callee (f := 30) rfl ?_); refine goesL_ (some 18) rfl rfl Try.func30 (by kernel_rfl) rfl #[.pointer (some ⟨gb275, 0, none⟩), .int .i64 a1] rfl zm ?_; (with_reducible refine (spec_l01Hits.calls k _ [(⟨(⟨a0_0, a0_1⟩ : S26), a0_2, a0_3, a0_4⟩ : S28)] a1 t279 _ ?side1 A5.out).mono ?_); (case side1 => refine ro_of_blk (T := 28) (cs := #[.int .i8 a0_0, .int .i8 a0_1, .int .i8 a0_2, .int .i8 a0_3, .int .i8 a0_4]) (zh BK275).out ?_; exact k28_mk _ (⟨(⟨a0_0, a0_1⟩ : S26), a0_2, a0_3, a0_4⟩ : S28) ); rintro e w13 ⟨rfl, hb⟩; refine ⟨_, rfl, ?_⟩; have n_ : _ ∧ _ ∧ _ ∧ _ := ⟨zk BK275 hb, zk BK276 hb, zk BK277 hb, zbs hb⟩; clear BK275 BK276 BK277 HB; obtain ⟨BK275, BK276, BK277, HB⟩ := n_; (try clear hb); (try clear hb2); (try clear hk); (try clear hi)))
 go_loopg [9] k (fun kq v9 w' => ∃ (x9_1 : Int) (x278000_1 : Bool) (x278001_1 : Bool) (x278002_1 : Bool) (x278003_1 : Bool), v9 = .int .i64 x9_1 ∧ Aside0 (spec_HitsFrom.l0 kq t279 x9_1 x278000_1 x278001_1 x278002_1 x278003_1 = some (r1, r2, r3, r4, r5)) ∧ Aside0 (kq ≤ k) ∧ Aside0 (w'.heap[gb275]? = some (.cells #[.int .i8 a0_0, .int .i8 a0_1, .int .i8 a0_2, .int .i8 a0_3, .int .i8 a0_4] 28 (0, 0))) ∧ Aside0 (w'.heap[gb276]? = some (.cells #[.bool false, .bool false, .bool false, .bool false] 36 (0, 0))) ∧ Aside0 (w'.heap[gb277]? = some (.cells #[.bool x278000_1, .bool x278001_1, .bool x278002_1, .bool x278003_1] 36 (0, 0))) ∧ Aside0 (Below w.heap.size w w'))
 case atStart => exact ⟨(0), (false), (false), (false), (false), zi, H', ⟨Nat.le_refl _⟩, zh BK275, zh BK276, zh BK277, zba⟩
 clear H'
 try clear c1
 try clear c2
 try clear p2
 try clear c3
 try clear c4
 try clear c4b0
 try clear c4b1
 try clear c9
 try clear c10
 try clear c13
 try clear z11_0 z11_1 z11_2 z11_3 y11_0 y11_1 y11_2 y11_3
 obtain ⟨x9_1, x278000_1, x278001_1, x278002_1, x278003_1, rfl, HA, HK1, BK275, BK276, BK277, HB⟩ := hrel
 cases gk with
 | zero => exact absurd HA.out (by simp [spec_HitsFrom.l0])
 | succ k1 => ?_
 have H := HA.out
 clear HA
 simp only [spec_HitsFrom.l0] at H
 by_cases c14 : x9_1 < 4
 rotate_left
 ·rw [if_neg c14] at H
  have c14b0 : decide (x9_1 < 4) = false := decide_eq_false c14
  clear c14
  simp only [Option.some.injEq, Prod.mk.injEq] at H
  obtain ⟨rfl, rfl, rfl, rfl, rfl⟩ := H
  have hnb44 := NB277_275.out
  have hnc44 := NB275_277.out
  have hnb45 := NB277_276.out
  have hnc45 := NB276_277.out
  obtain ⟨z46_0, z46_1, z46_2, z46_3, y46_0, y46_1, y46_2, y46_3⟩ := zB4 BK277
  have hnb47 := NB276_275.out
  have hnc47 := NB275_276.out
  obtain ⟨z48_0, z48_1, z48_2, z48_3, y48_0, y48_1, y48_2, y48_3⟩ := zB4 BK276
  go_wp2
  refine bodyPost_ret (results_ct rfl _ _ gb276 36 #[.bool x278000_1, .bool x278001_1, .bool x278002_1, .bool x278003_1] (0, 0) _ rfl (zp BK276) Try.underlying36 rfl (by kernel_rfl)) rfl ?_
  exact ⟨zv, zbo⟩
 rw [if_pos c14] at H
 have c14b0 : decide (x9_1 < 4) = true := decide_eq_true c14
 clear c14
 by_cases c15 : t279 > 0
 rotate_left
 ·rw [if_neg c15] at H
  have c15b0 : decide (0 < t279) = false := decide_eq_false c15
  clear c15
  simp only [Option.some.injEq, Prod.mk.injEq] at H
  obtain ⟨rfl, rfl, rfl, rfl, rfl⟩ := H
  have hnb39 := NB277_275.out
  have hnc39 := NB275_277.out
  have hnb40 := NB277_276.out
  have hnc40 := NB276_277.out
  obtain ⟨z41_0, z41_1, z41_2, z41_3, y41_0, y41_1, y41_2, y41_3⟩ := zB4 BK277
  have hnb42 := NB276_275.out
  have hnc42 := NB275_276.out
  obtain ⟨z43_0, z43_1, z43_2, z43_3, y43_0, y43_1, y43_2, y43_3⟩ := zB4 BK276
  go_wp2
  refine bodyPost_ret (results_ct rfl _ _ gb276 36 #[.bool x278000_1, .bool x278001_1, .bool x278002_1, .bool x278003_1] (0, 0) _ rfl (zp BK276) Try.underlying36 rfl (by kernel_rfl)) rfl ?_
  exact ⟨zv, zbo⟩
 rw [if_pos c15] at H
 have c15b0 : decide (0 < t279) = true := decide_eq_true c15
 clear c15
 obtain ⟨ji16, hji16⟩ : ∃ j_ : Int, (IntKind.u64.wrap (x9_1)) = j_ := ⟨_, rfl⟩
 replace H : (if 0 ≤ (ji16) then (if x9_1 = 0 then (spec_HitsFrom.l0 k1 t279 (wrap64 (x9_1 + 1)) ((Int.tmod (shr .i64 t279 (ji16)) 2) == 1) x278001_1 x278002_1 x278003_1) else (if x9_1 = 1 then (spec_HitsFrom.l0 k1 t279 (wrap64 (x9_1 + 1)) x278000_1 ((Int.tmod (shr .i64 t279 (ji16)) 2) == 1) x278002_1 x278003_1) else (if x9_1 = 2 then (spec_HitsFrom.l0 k1 t279 (wrap64 (x9_1 + 1)) x278000_1 x278001_1 ((Int.tmod (shr .i64 t279 (ji16)) 2) == 1) x278003_1) else (if x9_1 = 3 then (spec_HitsFrom.l0 k1 t279 (wrap64 (x9_1 + 1)) x278000_1 x278001_1 x278002_1 ((Int.tmod (shr .i64 t279 (ji16)) 2) == 1)) else (none))))) else (none)) = some (r1, r2, r3, r4, r5) := by first | (rw [hji16] at H; exact H) | (simp only [hji16] at H ⊢; exact H)
 by_cases c17 : 0 ≤ (ji16)
 rotate_left
 ·rw [if_neg c17] at H
  exact absurd H (by simp)
 rw [if_pos c17] at H
 have c17b0 := eq_true c17
 have c17b1 : decide (0 ≤ (ji16)) = true := decide_eq_true c17
 clear c17
 obtain ⟨ji18, hji18⟩ : ∃ j_ : Int, (shr .i64 t279 (ji16)) = j_ := ⟨_, rfl⟩
 replace H : (if x9_1 = 0 then (spec_HitsFrom.l0 k1 t279 (wrap64 (x9_1 + 1)) ((Int.tmod (ji18) 2) == 1) x278001_1 x278002_1 x278003_1) else (if x9_1 = 1 then (spec_HitsFrom.l0 k1 t279 (wrap64 (x9_1 + 1)) x278000_1 ((Int.tmod (ji18) 2) == 1) x278002_1 x278003_1) else (if x9_1 = 2 then (spec_HitsFrom.l0 k1 t279 (wrap64 (x9_1 + 1)) x278000_1 x278001_1 ((Int.tmod (ji18) 2) == 1) x278003_1) else (if x9_1 = 3 then (spec_HitsFrom.l0 k1 t279 (wrap64 (x9_1 + 1)) x278000_1 x278001_1 x278002_1 ((Int.tmod (ji18) 2) == 1)) else (none))))) = some (r1, r2, r3, r4, r5) := by first | (rw [hji18] at H; exact H) | (simp only [hji18] at H ⊢; exact H)
 have hji18_ : (t279 / 2 ^ min (ji16).toNat 64) = ji18 := hji18
 have hji18z : (ji16) ≤ 64 → (t279 / 2 ^ (ji16).toNat) = ji18 := shr_small hji18
 by_cases c19 : x9_1 = 0
 ·rw [if_pos c19] at H
  have Ac19 : Aside0 (x9_1 = 0) := ⟨c19⟩
  clear c19
  have ar20e : x9_1 = 0 := by first | exact (show Aside0 (x9_1 = 0) by assumption).out | exact beq_iff_eq.mp (by assumption) | omega
  have ar20n : (x9_1).toNat = 0 := by rw [ar20e]; rfl
  have ar20l : decide (0 ≤ x9_1) = true := decide_eq_true (by omega)
  have ar20L := eq_true (of_decide_eq_true ar20l)
  have ar20h : decide (x9_1 < 4) = true := decide_eq_true (by omega)
  have ar20H := eq_true (of_decide_eq_true ar20h)
  clear ar20e
  have H' := Aside0.mk H
  clear H
  have hnb21 := NB277_275.out
  have hnc21 := NB275_277.out
  have hnb22 := NB277_276.out
  have hnc22 := NB276_277.out
  obtain ⟨z23_0, z23_1, z23_2, z23_3, y23_0, y23_1, y23_2, y23_3⟩ := zB4 BK277
  go_wp2
  go_roundg k1
  case measure => have := HK1.out; omega
  case rel => exact ⟨(wrap64 (x9_1 + 1)), (((Int.tmod (ji18) 2) == 1)), (x278001_1), (x278002_1), (x278003_1), zi, H', ⟨by have := HK1.out; omega⟩, zf BK275 NB275_277, zf BK276 NB276_277, ⟨zp BK277⟩, zba⟩
 rw [if_neg c19] at H
 clear c19
 by_cases c24 : x9_1 = 1
 ·rw [if_pos c24] at H
  have Ac24 : Aside0 (x9_1 = 1) := ⟨c24⟩
  clear c24
  have ar25e : x9_1 = 1 := by first | exact (show Aside0 (x9_1 = 1) by assumption).out | exact beq_iff_eq.mp (by assumption) | omega
  have ar25n : (x9_1).toNat = 1 := by rw [ar25e]; rfl
  have ar25l : decide (0 ≤ x9_1) = true := decide_eq_true (by omega)
  have ar25L := eq_true (of_decide_eq_true ar25l)
  have ar25h : decide (x9_1 < 4) = true := decide_eq_true (by omega)
  have ar25H := eq_true (of_decide_eq_true ar25h)
  clear ar25e
  have H' := Aside0.mk H
  clear H
  have hnb26 := NB277_275.out
  have hnc26 := NB275_277.out
  have hnb27 := NB277_276.out
  have hnc27 := NB276_277.out
  obtain ⟨z28_0, z28_1, z28_2, z28_3, y28_0, y28_1, y28_2, y28_3⟩ := zB4 BK277
  go_wp2
  go_roundg k1
  case measure => have := HK1.out; omega
  case rel => exact ⟨(wrap64 (x9_1 + 1)), (x278000_1), (((Int.tmod (ji18) 2) == 1)), (x278002_1), (x278003_1), zi, H', ⟨by have := HK1.out; omega⟩, zf BK275 NB275_277, zf BK276 NB276_277, ⟨zp BK277⟩, zba⟩
 rw [if_neg c24] at H
 clear c24
 by_cases c29 : x9_1 = 2
 ·rw [if_pos c29] at H
  have Ac29 : Aside0 (x9_1 = 2) := ⟨c29⟩
  clear c29
  have ar30e : x9_1 = 2 := by first | exact (show Aside0 (x9_1 = 2) by assumption).out | exact beq_iff_eq.mp (by assumption) | omega
  have ar30n : (x9_1).toNat = 2 := by rw [ar30e]; rfl
  have ar30l : decide (0 ≤ x9_1) = true := decide_eq_true (by omega)
  have ar30L := eq_true (of_decide_eq_true ar30l)
  have ar30h : decide (x9_1 < 4) = true := decide_eq_true (by omega)
  have ar30H := eq_true (of_decide_eq_true ar30h)
  clear ar30e
  have H' := Aside0.mk H
  clear H
  have hnb31 := NB277_275.out
  have hnc31 := NB275_277.out
  have hnb32 := NB277_276.out
  have hnc32 := NB276_277.out
  obtain ⟨z33_0, z33_1, z33_2, z33_3, y33_0, y33_1, y33_2, y33_3⟩ := zB4 BK277
  go_wp2
  go_roundg k1
  case measure => have := HK1.out; omega
  case rel => exact ⟨(wrap64 (x9_1 + 1)), (x278000_1), (x278001_1), (((Int.tmod (ji18) 2) == 1)), (x278003_1), zi, H', ⟨by have := HK1.out; omega⟩, zf BK275 NB275_277, zf BK276 NB276_277, ⟨zp BK277⟩, zba⟩
 rw [if_neg c29] at H
 clear c29
 by_cases c34 : x9_1 = 3
 rotate_left
 ·rw [if_neg c34] at H
  exact absurd H (by simp)
 rw [if_pos c34] at H
 have Ac34 : Aside0 (x9_1 = 3) := ⟨c34⟩
 clear c34
 have ar35e : x9_1 = 3 := by first | exact (show Aside0 (x9_1 = 3) by assumption).out | exact beq_iff_eq.mp (by assumption) | omega
 have ar35n : (x9_1).toNat = 3 := by rw [ar35e]; rfl
 have ar35l : decide (0 ≤ x9_1) = true := decide_eq_true (by omega)
 have ar35L := eq_true (of_decide_eq_true ar35l)
 have ar35h : decide (x9_1 < 4) = true := decide_eq_true (by omega)
 have ar35H := eq_true (of_decide_eq_true ar35h)
 clear ar35e
 have H' := Aside0.mk H
 clear H
 have hnb36 := NB277_275.out
 have hnc36 := NB275_277.out
 have hnb37 := NB277_276.out
 have hnc37 := NB276_277.out
 obtain ⟨z38_0, z38_1, z38_2, z38_3, y38_0, y38_1, y38_2, y38_3⟩ := zB4 BK277
 go_wp2
 go_roundg k1
 case measure => have := HK1.out; omega
 case rel => exact ⟨(wrap64 (x9_1 + 1)), (x278000_1), (x278001_1), (x278002_1), (((Int.tmod (ji18) 2) == 1)), zi, H', ⟨by have := HK1.out; omega⟩, zf BK275 NB275_277, zf BK276 NB276_277, ⟨zp BK277⟩, zba⟩
def impl_OppositeSide.f (a0 : Int) : Option (Int × Int) := (impl_isSide.f a0).bind fun t280 => (if t280 = true then ((impl_opposite.f a0).bind fun t281 => (some (t281, 0))) else (some (0, 2)))
theorem impl_OppositeSide.calls (a0 : Int) (r1 : Int) (r2 : Int) (w : World) (h : impl_OppositeSide.f a0 = some (r1, r2)) :
    Calls Try.prog 14 #[.int .i64 a0] w fun e w' => e = .returned (.tuple #[.int .i64 r1, .int .i64 r2]) ∧ Drawn0 w w' := by
 have H : ((impl_isSide.f a0).bind fun t280 => (if t280 = true then ((impl_opposite.f a0).bind fun t281 => (some (t281, 0))) else (some (0, 2)))) = some (r1, r2) := h
 clear h
 replace H := zob H
 obtain ⟨t280, A20, H⟩ := H
 replace H : (if t280 = true then ((impl_opposite.f a0).bind fun t281 => (some (t281, 0))) else (some (0, 2))) = some (r1, r2) := H
 have A2 := Aside0.mk A20
 clear A20
 by_cases c3 : t280 = true
 rotate_left
 ·replace c3 := Bool.eq_false_iff.mpr c3
  subst c3
  have H1 : (some (0, 2)) = some (r1, r2) := by rw [if_neg (show ¬ (false = true) by decide)] at H; exact H
  clear H
  have H := H1
  clear H1
  simp only [Option.some.injEq, Prod.mk.injEq] at H
  obtain ⟨rfl, rfl⟩ := H
  go_enter Try.func14, Try.ntmps14
  go_wp2_with (first | ((with_reducible refine gate_callee (f := 32) rfl ?_); refine goesL_ (some 5) rfl rfl Try.func32 (by kernel_rfl) rfl #[.int .i64 a0] rfl zm ?_; (with_reducible refine (impl_isSide.calls a0 false _ A2.out).mono ?_); rintro e w' ⟨rfl, ⟨nd, rfl⟩⟩; refine ⟨_, rfl, ?_⟩))
  go_ret2
  exact ⟨zi, zdr⟩
 subst c3
 have H1 : ((impl_opposite.f a0).bind fun t281 => (some (t281, 0))) = some (r1, r2) := by rw [if_pos rfl] at H; exact H
 clear H
 have H := H1
 clear H1
 replace H := zob H
 obtain ⟨t281, A40, H⟩ := H
 replace H : (some (t281, 0)) = some (r1, r2) := H
 have A4 := Aside0.mk A40
 clear A40
 simp only [Option.some.injEq, Prod.mk.injEq] at H
 obtain ⟨rfl, rfl⟩ := H
 go_enter Try.func14, Try.ntmps14
 go_wp2_with (first | ((with_reducible refine gate_callee (f := 32) rfl ?_); refine goesL_ (some 5) rfl rfl Try.func32 (by kernel_rfl) rfl #[.int .i64 a0] rfl zm ?_; (with_reducible refine (impl_isSide.calls a0 true _ A2.out).mono ?_); rintro e w' ⟨rfl, ⟨nd, rfl⟩⟩; refine ⟨_, rfl, ?_⟩) | ((with_reducible refine gate_callee (f := 33) rfl ?_); refine goesL_ (some 8) rfl rfl Try.func33 (by kernel_rfl) rfl #[.int .i64 a0] rfl zm ?_; (with_reducible refine (impl_opposite.calls a0 t281 _ A4.out).mono ?_); rintro e w' ⟨rfl, ⟨nd, rfl⟩⟩; refine ⟨_, rfl, ?_⟩))
 go_ret2
 exact ⟨zi, zdr⟩
end Go.Proofs.Ytjeejglobdgpjaa.PFnPieces
