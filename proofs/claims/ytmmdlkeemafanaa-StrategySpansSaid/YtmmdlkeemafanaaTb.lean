import Derived.Test.YtmmdlkeemafanaaQx0
import Derived.Test.YtmmdlkeemafanaaQx1
import Derived.Test.YtmmdlkeemafanaaTf
import Derived.Test.YtmmdlkeemafanaaQm
namespace Go.Proofs.Ytmmdlkeemafanaa.Q
open Go.RowKit Go.Proofs.YtmmdlkeemafanaaW.PrintWords Go.Proofs.YtmmdlkeemafanaaW.PrintLast Go.Proofs.YtmmdlkeemafanaaW.PrintMore
attribute [local go_sem] max2_int min2_int max_two min_two max_three min_three max_four min_four   -- for this text's walks alone
set_option linter.unusedVariables false
set_option linter.unusedSimpArgs false

attribute [local go_sem high] eqA40

def corporalaw27_list.T8 : Bool × List (List Nat × List Nat) := (true, [([], []), ([0], [0]), ([1], [1]), ([], []), ([3], [3]), ([2, 4], [2, 4]), ([0, 1, 2, 3, 4, 5], []), ([6, 5, 4, 0, 1, 2, 3, 4, 5], [5, 6])])
def corporalaw27_list.B8 : List Nat := [0, 1, 3, 0, 8, 31, 63, 127]
theorem corporalaw27_list.tab8 : rtab .any (opsOf Try.f10 8) = corporalaw27_list.T8 := by kernel_rfl
theorem corporalaw27_list.bits8 : waitsOk corporalaw27_list.T8.2 corporalaw27_list.B8 = true := by kernel_rfl
def corporalaw27_list.T12 : Bool × List (List Nat × List Nat) := (true, [([], []), ([0], [0]), ([], []), ([2], [2]), ([3], [3]), ([4], [4]), ([1, 5, 3], [1, 5]), ([0, 1, 2, 3, 4, 5, 6], []), ([7, 6, 6, 0, 1, 2, 3, 4, 5, 6], [6, 7])])
def corporalaw27_list.B12 : List Nat := [0, 1, 0, 4, 12, 28, 63, 127, 255]
theorem corporalaw27_list.tab12 : rtab .any (opsOf Try.f10 12) = corporalaw27_list.T12 := by kernel_rfl
theorem corporalaw27_list.bits12 : waitsOk corporalaw27_list.T12.2 corporalaw27_list.B12 = true := by kernel_rfl
def corporalaw27_list.T14 : Bool × List (List Nat × List Nat) := (true, [([], []), ([0], [0]), ([1], [1]), ([2], [2]), ([2], [2]), ([2], [2]), ([5, 2], [2, 5]), ([4, 6, 2], [2, 4, 6]), ([7, 2], [2, 7]), ([3, 8, 2, 2], [2, 3, 8]), ([9, 2], [2, 9]), ([2, 10], [2, 10])])
def corporalaw27_list.B14 : List Nat := [0, 1, 3, 7, 7, 7, 39, 119, 247, 511, 1023, 2047]
theorem corporalaw27_list.tab14 : rtab .any (opsOf Try.f10 14) = corporalaw27_list.T14 := by kernel_rfl
theorem corporalaw27_list.bits14 : waitsOk corporalaw27_list.T14.2 corporalaw27_list.B14 = true := by kernel_rfl
def corporalaw27_list.T16 : Bool × List (List Nat × List Nat) := (true, [([], []), ([0], [0]), ([1], [1]), ([2], [2]), ([2], [2]), ([2], [2]), ([5, 2], [2, 5]), ([4, 6, 2], [2, 4, 6]), ([7, 2], [2, 7]), ([3, 8, 2, 2], [2, 3, 8]), ([9, 2], [2, 9]), ([2, 10], [2, 10])])
def corporalaw27_list.B16 : List Nat := [0, 1, 3, 7, 7, 7, 39, 119, 247, 511, 1023, 2047]
theorem corporalaw27_list.tab16 : rtab .any (opsOf Try.f10 16) = corporalaw27_list.T16 := by kernel_rfl
theorem corporalaw27_list.bits16 : waitsOk corporalaw27_list.T16.2 corporalaw27_list.B16 = true := by kernel_rfl
def corporalaw27_list.T17 : Bool × List (List Nat × List Nat) := (true, [([], []), ([], []), ([], []), ([1, 2], [1, 2]), ([0, 3], [0, 3]), ([], []), ([5], [5]), ([4, 6, 4], [4, 6]), ([], []), ([], []), ([8, 9], [8, 9]), ([7, 10, 7], [7, 10]), ([11, 11, 0, 1, 2, 3, 4, 5, 6, 7, 8, 9, 10, 11], [1, 8, 11])])
def corporalaw27_list.B17 : List Nat := [0, 0, 0, 6, 15, 0, 32, 127, 0, 0, 768, 2047, 4095]
theorem corporalaw27_list.tab17 : rtab .any (opsOf Try.f10 17) = corporalaw27_list.T17 := by kernel_rfl
theorem corporalaw27_list.bits17 : waitsOk corporalaw27_list.T17.2 corporalaw27_list.B17 = true := by kernel_rfl
set_option maxHeartbeats 8000000 in
set_option maxRecDepth 100000 in
theorem corporalaw27_list.calls (k : Nat) (A0 : Option Addr) (c0 : Nat) (l0 : List Int) (r : List (S38)) (w : World) (hr0 : Kd.C (Kd.int .i64) w A0 l0.length l0) (hc0 : l0.length ≤ c0) (h : corporalaw27_list.f k l0 = some r) :
    Calls Try.prog 10 #[.slice A0 l0.length c0] w fun e w' => ∃ v0_ : Value, e = .returned (v0_) ∧ Kd.N k38 38 w' w.heap.size (fun k_ => (w.heap.size ≤ k_)) v0_ r ∧ Below w.heap.size w w' := by
  have hu38 := Try.underlying38
  have HR0 := Aside0.mk hr0
  have HC0 := Aside0.mk hc0
  clear hr0 hc0
  have HB := Aside0.mk (Below.refl w.heap.size w)
  have H : ((corporamade_New.f l0).bind fun bt124 => ((corporamade_Tape_Next.f bt124.1 bt124.2 2).bind fun bt127 => ((corporamade_Tape_Next.f bt124.1 bt127.2 14).bind fun bt129 => (corporalaw27_list.l0 k bt127.1 ([] : List (S38)) bt129.1 bt124.1 bt129.2)))) = some r := h
  clear h
  replace H := Option.bind_eq_some_iff.mp H
  obtain ⟨⟨t124, t125⟩, A20, H⟩ := H
  replace H : ((corporamade_Tape_Next.f t124 t125 2).bind fun bt127 => ((corporamade_Tape_Next.f t124 bt127.2 14).bind fun bt129 => (corporalaw27_list.l0 k bt127.1 ([] : List (S38)) bt129.1 t124 bt129.2))) = some r := H
  have A2 := Aside0.mk A20
  clear A20
  replace H := Option.bind_eq_some_iff.mp H
  obtain ⟨⟨t127, t128⟩, A30, H⟩ := H
  replace H : ((corporamade_Tape_Next.f t124 t128 14).bind fun bt129 => (corporalaw27_list.l0 k t127 ([] : List (S38)) bt129.1 t124 bt129.2)) = some r := H
  have A3 := Aside0.mk A30
  clear A30
  replace H := Option.bind_eq_some_iff.mp H
  obtain ⟨⟨t129, t130⟩, A40, H⟩ := H
  replace H : (corporalaw27_list.l0 k t127 ([] : List (S38)) t129 t124 t130) = some r := H
  have A4 := Aside0.mk A40
  clear A40
  have H' := Aside0.mk H
  clear H
  go_enter Try.func10, Try.ntmps10
  go_wp2_with (first | ((with_reducible refine gate_callee (f := 21) rfl ?_); refine goesL_ (some 11) rfl rfl Try.func21 (by kernel_rfl) rfl #[.slice A0 l0.length c0] rfl (by (try simp only [List.map_toArray, List.map_cons, List.map_nil]); first | done | rfl | (simp only [List.length_drop, List.length_take]; rfl)) ?_; (with_reducible refine (corporamade_New.calls _ _ l0 t124 t125 w _ ?side1 ?side2 ?side3 A2.out).mono ?_); (case side1 => repeat (first | (with_reducible first | exact HB.out | apply below_alloc | apply pw_below_drewN | apply below_drew1) | exact HB.out)); (case side2 => exact HR0.out); (case side3 => exact HC0.out); rintro e w5 ⟨g126, rfl, hi, hb, hb2⟩; refine ⟨_, rfl, ?_⟩; have n0_ := Aside0.mk (hb); have n1_ := Aside0.mk (hi); clear HB; have HB := n0_; have HI126 := n1_; clear n0_ n1_; (try clear hb); (try clear hb2); (try clear hk); (try clear hi)) | ((with_reducible refine gate_callee (f := 22) rfl ?_); refine goesL_ (some 13) rfl rfl Try.func22 (by kernel_rfl) rfl #[.pointer (some ⟨g126, 0, none⟩), .int .i64 2] rfl (by (try simp only [List.map_toArray, List.map_cons, List.map_nil]); first | done | rfl | (simp only [List.length_drop, List.length_take]; rfl)) ?_; (with_reducible refine (corporamade_Tape_Next.calls g126 t124 t125 2 t127 t128 w _ ?side1 ?side2 A3.out).mono ?_); (case side1 => repeat (first | (with_reducible first | exact HI126.out | apply IsS65.alloc | apply IsS65.drewN | apply IsS65.drew | apply IsS65.set_1) | exact HI126.out)); (case side2 => repeat (first | (with_reducible first | exact HB.out | apply below_alloc | apply pw_below_drewN | apply below_drew1 | refine below_set ?_ (IsS65.ge HI126.out)) | exact HB.out)); rintro e w6 ⟨rfl, hi, hb, hk⟩; refine ⟨_, rfl, ?_⟩; have n0_ := Aside0.mk (hb); have n1_ := Aside0.mk (hi); clear HB; clear HI126; have HB := n0_; have HI126 := n1_; clear n0_ n1_; (try clear hb); (try clear hb2); (try clear hk); (try clear hi)) | ((with_reducible refine gate_callee (f := 22) rfl ?_); refine goesL_ (some 15) rfl rfl Try.func22 (by kernel_rfl) rfl #[.pointer (some ⟨g126, 0, none⟩), .int .i64 14] rfl (by (try simp only [List.map_toArray, List.map_cons, List.map_nil]); first | done | rfl | (simp only [List.length_drop, List.length_take]; rfl)) ?_; (with_reducible refine (corporamade_Tape_Next.calls g126 t124 t128 14 t129 t130 w _ ?side1 ?side2 A4.out).mono ?_); (case side1 => repeat (first | (with_reducible first | exact HI126.out | apply IsS65.alloc | apply IsS65.drewN | apply IsS65.drew | apply IsS65.set_1) | exact HI126.out)); (case side2 => repeat (first | (with_reducible first | exact HB.out | apply below_alloc | apply pw_below_drewN | apply below_drew1 | refine below_set ?_ (IsS65.ge HI126.out)) | exact HB.out)); rintro e w7 ⟨rfl, hi, hb, hk⟩; refine ⟨_, rfl, ?_⟩; have n0_ := Aside0.mk (hb); have n1_ := Aside0.mk (hi); clear HB; clear HI126; have HB := n0_; have HI126 := n1_; clear n0_ n1_; (try clear hb); (try clear hb2); (try clear hk); (try clear hi)))
  go_loopg [5, 6] k (fun kq v5 v6 w' => ∃ (x5_1 : List (S38)) (x6_1 : Int) (x127001_1 : Int), v6 = .int .i64 x6_1 ∧ Aside0 (corporalaw27_list.l0 kq t127 x5_1 x6_1 t124 x127001_1 = some r) ∧ Aside0 (kq ≤ k) ∧ Aside0 (Kd.N k38 38 w' w.heap.size (fun k_ => (w.heap.size ≤ k_) ∧ k_ ≠ g126) v5 x5_1) ∧ Aside0 (IsS65 w w' g126 t124 x127001_1) ∧ Aside0 (Below w.heap.size w w'))
  case atStart => exact ⟨(([] : List (S38))), (t129), (t130), (by first | rfl | (simp; done) | (simp [*]; done)), H', ⟨Nat.le_refl _⟩, ⟨by first | exact Kd.S_nil _ _ _ _ _ | exact Kd.N_nil _ _ _ _ _ | exact Kd.V_nil _ _ _ _ _ | exact Kd.Q_nil _ _ _ _ _ | exact Kd.R_nil _ _ _ _ _⟩, ⟨by repeat (first | (with_reducible first | exact HI126.out | apply IsS65.alloc | apply IsS65.drewN | apply IsS65.drew | apply IsS65.set_1) | exact HI126.out)⟩, ⟨by repeat (first | (with_reducible first | exact HB.out | apply below_alloc | apply pw_below_drewN | apply below_drew1 | refine below_set ?_ (IsS65.ge HI126.out)) | exact HB.out)⟩⟩
  case round =>
    clear H'
    try clear c1
    try clear c2
    try clear p2
    obtain ⟨x5_1, x6_1, x127001_1, rfl, HA, HK1, HO_5, HI126, HB⟩ := hrel
    cases gk with
    | zero => exact absurd HA.out (by simp [corporalaw27_list.l0])
    | succ k1 =>
      have H := HA.out
      clear HA
      simp only [corporalaw27_list.l0] at H
      by_cases c8 : x6_1 > 0
      ·rw [if_pos c8] at H
       have c8b0 : decide (0 < x6_1) = true := decide_eq_true c8
       clear c8
       replace H := Option.bind_eq_some_iff.mp H
       obtain ⟨⟨t131, t132⟩, A90, H⟩ := H
       replace H : ((corporamade_Tape_Next.f t124 t132 5).bind fun bt134 => (corporalaw27_list.l1 k1 t127 x5_1 x6_1 0 t124 bt134.2 t131 (wrap64 ((wrap64 (t131 + 1)) + bt134.1)) ([] : List Int))) = some r := H
       have A9 := Aside0.mk A90
       clear A90
       replace H := Option.bind_eq_some_iff.mp H
       obtain ⟨⟨t134, t135⟩, A100, H⟩ := H
       replace H : (corporalaw27_list.l1 k1 t127 x5_1 x6_1 0 t124 t135 t131 (wrap64 ((wrap64 (t131 + 1)) + t134)) ([] : List Int)) = some r := H
       have A10 := Aside0.mk A100
       clear A100
       have H' := Aside0.mk H
       clear H
       try go_wp2_with (first | ((with_reducible refine gate_callee (f := 22) rfl ?_); refine goesL_ (some 21) rfl rfl Try.func22 (by kernel_rfl) rfl #[.pointer (some ⟨g126, 0, none⟩), .int .i64 9] rfl (by (try simp only [List.map_toArray, List.map_cons, List.map_nil]); first | done | rfl | (simp only [List.length_drop, List.length_take]; rfl)) ?_; (with_reducible refine (corporamade_Tape_Next.calls g126 t124 x127001_1 9 t131 t132 w _ ?side1 ?side2 A9.out).mono ?_); (case side1 => repeat (first | (with_reducible first | exact HI126.out | apply IsS65.alloc | apply IsS65.drewN | apply IsS65.drew | apply IsS65.set_1) | exact HI126.out)); (case side2 => repeat (first | (with_reducible first | exact HB.out | apply below_alloc | apply pw_below_drewN | apply below_drew1 | refine below_set ?_ (IsS65.ge HI126.out)) | exact HB.out)); rintro e w11 ⟨rfl, hi, hb, hk⟩; refine ⟨_, rfl, ?_⟩; have n0_ := Aside0.mk (Kd.N_mono (Kd.N_keep (Kd.N_mono (ok := fun k_ => (((w.heap.size ≤ k_)) ∧ k_ ≠ g126)) (by (with_reducible repeat (first | apply Kd.N_alloc | apply Kd.N_drewN | apply Kd.N_drew)); exact HO_5.out) (fun k_ hk_ => (⟨hk_, hk_.2⟩ : _ ∧ k_ ≠ g126))) hk (fun _ h => h.2)) (fun _ h => h.1)); have n1_ := Aside0.mk (hb); have n2_ := Aside0.mk (hi); clear HO_5; clear HB; clear HI126; have HO_5 := n0_; have HB := n1_; have HI126 := n2_; clear n0_ n1_ n2_; (try clear hb); (try clear hb2); (try clear hk); (try clear hi)) | ((with_reducible refine gate_dst (N := 7) rfl ?_); refine box_event ?hg (N := 7) ?hd (cs := #[.int .i64 0, .int .i64 0, .slice none 0 0]) (t := 38) ?hr ?_; (case hd => rfl); (case hg => rfl); (case hr => first | (go_simp; done) | (go_simp; rfl)); intro gb133 hg w12 hbox hb; have n0_ := Aside0.mk (Kd.N_below (Kd.N_elderB (by (with_reducible repeat (first | apply Kd.N_alloc | apply Kd.N_drewN | apply Kd.N_drew)); exact HO_5.out) gb133 (Nat.le_of_eq hg.symm)) hb); have n1_ := Aside0.mk (IsS65.below (by repeat (first | (with_reducible first | exact HI126.out | apply IsS65.alloc | apply IsS65.drewN | apply IsS65.drew | apply IsS65.set_1) | exact HI126.out)) hb); have n2_ := Aside0.mk (below_step (by repeat (first | (with_reducible first | exact HB.out | apply below_alloc | apply pw_below_drewN | apply below_drew1 | refine below_set ?_ (IsS65.ge HI126.out)) | exact HB.out)) hb); have n3_ := Aside0.mk (hbox); have n4_ := Aside0.mk ((by rw [hg]; exact (below_size (by repeat (first | (with_reducible first | exact HB.out | apply below_alloc | apply pw_below_drewN | apply below_drew1 | refine below_set ?_ (IsS65.ge HI126.out)) | exact HB.out))) : w.heap.size ≤ gb133)); have n5_ := Aside0.mk ((by rw [hg]; exact (below_size (by repeat (first | (with_reducible first | exact HB.out | apply below_alloc | apply pw_below_drewN | apply below_drew1 | refine below_set ?_ (IsS65.ge HI126.out)) | exact HB.out))) : w.heap.size ≤ gb133)); have n6_ := Aside0.mk ((by rw [hg]; exact Nat.ne_of_lt (IsS65.lt (show IsS65 w _ g126 t124 t132 from by repeat (first | (with_reducible first | exact HI126.out | apply IsS65.alloc | apply IsS65.drewN | apply IsS65.drew | apply IsS65.set_1) | exact HI126.out))) : g126 ≠ gb133)); have n7_ := Aside0.mk ((by rw [hg]; exact Nat.ne_of_gt (IsS65.lt (show IsS65 w _ g126 t124 t132 from by repeat (first | (with_reducible first | exact HI126.out | apply IsS65.alloc | apply IsS65.drewN | apply IsS65.drew | apply IsS65.set_1) | exact HI126.out))) : gb133 ≠ g126)); clear HO_5; clear HI126; clear HB; have HO_5 := n0_; have HI126 := n1_; have HB := n2_; have BK133 := n3_; have GW133 := n4_; have GE133 := n5_; have NB126_133 := n6_; have NB133_126 := n7_; clear n0_ n1_ n2_ n3_ n4_ n5_ n6_ n7_; clear hb hbox hg; have hnb13 := NB133_126.out; have hnc13 := NB126_133.out; have hcz14_0 : w12.cell? ⟨gb133, 0, none⟩ = some (.int .i64 0) := (blk_cell BK133.out 0).trans rfl; have hcz14_1 : w12.cell? ⟨gb133, 1, none⟩ = some (.int .i64 0) := (blk_cell BK133.out 1).trans rfl; have hcz14_2 : w12.cell? ⟨gb133, 2, none⟩ = some (.slice none 0 0) := (blk_cell BK133.out 2).trans rfl; have hfz14_0 := blk_frozen BK133.out 0; have hfz14_1 := blk_frozen BK133.out 1; have hfz14_2 := blk_frozen BK133.out 2))
       have n0_ : Aside0 (Kd.N k38 38 (((w12.setCell ⟨gb133, 0, none⟩ (.int .i64 t131)).setCell ⟨gb133, 1, none⟩ (.int .i64 0)).setCell ⟨gb133, 2, none⟩ (.slice none 0 0)) w.heap.size (fun k_ => (w.heap.size ≤ k_) ∧ k_ ≠ g126 ∧ k_ ≠ gb133) u5 x5_1) := ⟨by (with_reducible repeat (first | apply Kd.N_alloc | apply Kd.N_drewN | apply Kd.N_drew)); exact Kd.N_mono (Kd.N_far (p := ⟨gb133, 2, none⟩) (Kd.N_far (p := ⟨gb133, 1, none⟩) (Kd.N_far (p := ⟨gb133, 0, none⟩) (Kd.N_mono HO_5.out (fun k_ hk => (⟨hk, hk.2⟩ : _ ∧ k_ ≠ gb133))) (fun _ hk => hk.2) (.int .i64 t131)) (fun _ hk => hk.2) (.int .i64 0)) (fun _ hk => hk.2) (.slice none 0 0)) (fun _ hk => ⟨hk.1.1.1, ⟨hk.1.1.2, hk.1.2⟩⟩)⟩
       have n1_ : Aside0 ((((w12.setCell ⟨gb133, 0, none⟩ (.int .i64 t131)).setCell ⟨gb133, 1, none⟩ (.int .i64 0)).setCell ⟨gb133, 2, none⟩ (.slice none 0 0)).heap[gb133]? = some (.cells #[.int .i64 t131, .int .i64 0, .slice none 0 0] 38 (0, 0))) := ⟨by (with_reducible repeat (first | refine blk_drewN ?_ _ | refine blk_drew ?_ | refine blk_alloc ?_ _)); refine blk_put (cs := #[.int .i64 t131, .int .i64 0, .slice none 0 0]) ?_ 2 _ rfl; (with_reducible repeat (first | refine blk_drewN ?_ _ | refine blk_drew ?_ | refine blk_alloc ?_ _)); refine blk_put (cs := #[.int .i64 t131, .int .i64 0, .slice none 0 0]) ?_ 1 _ rfl; (with_reducible repeat (first | refine blk_drewN ?_ _ | refine blk_drew ?_ | refine blk_alloc ?_ _)); refine blk_put (cs := #[.int .i64 0, .int .i64 0, .slice none 0 0]) ?_ 0 _ rfl; (with_reducible repeat (first | refine blk_drewN ?_ _ | refine blk_drew ?_ | refine blk_alloc ?_ _)); exact BK133.out⟩
       have n2_ : Aside0 (IsS65 w (((w12.setCell ⟨gb133, 0, none⟩ (.int .i64 t131)).setCell ⟨gb133, 1, none⟩ (.int .i64 0)).setCell ⟨gb133, 2, none⟩ (.slice none 0 0)) g126 t124 t132) := ⟨by repeat (first | (with_reducible first | exact HI126.out | apply IsS65.alloc | apply IsS65.drewN | apply IsS65.drew | apply IsS65.set_1 | refine IsS65.far ?_ NB126_133.out _) | exact HI126.out)⟩
       have n3_ : Aside0 (Below w.heap.size w (((w12.setCell ⟨gb133, 0, none⟩ (.int .i64 t131)).setCell ⟨gb133, 1, none⟩ (.int .i64 0)).setCell ⟨gb133, 2, none⟩ (.slice none 0 0))) := ⟨by repeat (first | (with_reducible first | exact HB.out | apply below_alloc | apply pw_below_drewN | apply below_drew1 | refine below_set ?_ (IsS65.ge HI126.out) | refine below_set ?_ GE133.out) | exact HB.out)⟩
       (try clear HO_5)
       (try clear BK133)
       (try clear HI126)
       (try clear HB)
       generalize (((w12.setCell ⟨gb133, 0, none⟩ (.int .i64 t131)).setCell ⟨gb133, 1, none⟩ (.int .i64 0)).setCell ⟨gb133, 2, none⟩ (.slice none 0 0)) = w15 at n0_ n1_ n2_ n3_ ⊢
       have HO_5 := n0_
       have BK133 := n1_
       have HI126 := n2_
       have HB := n3_
       clear n0_ n1_ n2_ n3_
       have n0_ := Aside0.mk (Kd.N_drew HO_5.out)
       have n1_ := Aside0.mk (blk_drew BK133.out)
       have n2_ := Aside0.mk (IsS65.drew HI126.out)
       have n3_ := Aside0.mk (below_drew1 HB.out)
       clear HO_5
       clear BK133
       clear HI126
       clear HB
       have HO_5 := n0_
       have BK133 := n1_
       have HI126 := n2_
       have HB := n3_
       clear n0_ n1_ n2_ n3_
       refine start_ (n := 8) (S := fun w' => w'.cell? ⟨gb133, 0, none⟩ = some (.int .i64 t131) ∧ w'.cell? ⟨gb133, 1, none⟩ = some (.int .i64 0) ∧ w'.cell? ⟨gb133, 2, none⟩ = some (.slice none 0 0)) (ds := [7]) #[false, false, false, false, false, false, false, false] (by kernel_rfl) rfl rfl ⟨(blk_cell BK133.out 0).trans rfl, (blk_cell BK133.out 1).trans rfl, (blk_cell BK133.out 2).trans rfl⟩ (fun hHeld => ?_); refine with_tabW corporalaw27_list.tab8 corporalaw27_list.bits8 (fun HT_ HW_ => ?_)
       generalize w15.drew = w16 at HO_5 BK133 HI126 HB hHeld ⊢
       refine pure_ (i := 0) (N := some 23) (v := ?_) (a' := ?_) #[true, false, false, false, false, false, false, false] rfl rfl (any_of HT_.out (by kernel_rfl)) (fun _ _ _ h => h) (Or.inl ⟨by rfl, ?_⟩) ?_ ?_
       rotate_left
       ·intro w'
        go_simp
        with_reducible rfl
       rotate_left
       ·simp only [Act.put, List.setIfInBounds_toArray, List.set_cons_zero, List.set_cons_succ, i64_w, i32_w]
        rfl
       refine pure_ (i := 3) (N := some 26) (v := ?_) (a' := ?_) #[true, false, false, true, false, false, false, false] rfl rfl (any_of HT_.out (by kernel_rfl)) (fun _ _ _ h => h) (Or.inl ⟨by rfl, ?_⟩) ?_ ?_
       rotate_left
       ·intro w'
        go_simp
        with_reducible rfl
       rotate_left
       ·simp only [Act.put, List.setIfInBounds_toArray, List.set_cons_zero, List.set_cons_succ, i64_w, i32_w]
        rfl
       refine take_ (i := 1) (N := some 24) (v := ?_) (a' := ?_) #[true, true, false, true, false, false, false, false] rfl rfl (take_ofW HT_.out HW_.out (by kernel_rfl)) (fun _ _ _ h => h) (Or.inl ⟨by rfl, ?_⟩) hHeld ?_ ?_
       rotate_left
       ·rintro w' ⟨s0, s1, s2⟩
        go_simp
        with_reducible rfl
       rotate_left
       ·simp only [Act.put, List.setIfInBounds_toArray, List.set_cons_zero, List.set_cons_succ, i64_w, i32_w]
        rfl
       refine pure_ (i := 2) (N := some 25) (v := ?_) (a' := ?_) #[true, true, true, true, false, false, false, false] rfl rfl (any_of HT_.out (by kernel_rfl)) (fun _ _ _ h => h) (Or.inl ⟨by rfl, ?_⟩) ?_ ?_
       rotate_left
       ·intro w'
        go_simp
        with_reducible rfl
       rotate_left
       ·simp only [Act.put, List.setIfInBounds_toArray, List.set_cons_zero, List.set_cons_succ, i64_w, i32_w]
        rfl
       refine one_ (i := 4) (N := some 27) #[true, true, true, true, true, false, false, false] rfl rfl (one_of HT_.out (by kernel_rfl)) (by decide) (fun K hK => ?_)
       refine goes_ Try.func22 (by kernel_rfl) rfl #[.pointer (some ⟨g126, 0, none⟩), .int .i64 5] (by rfl) rfl rfl (by (try simp only [List.map_toArray, List.map_cons, List.map_nil]); first | done | rfl | (simp only [List.length_drop, List.length_take]; rfl)) ?_
       with_reducible refine (corporamade_Tape_Next.calls g126 t124 t132 5 t134 t135 w _ ?side1 ?side2 A10.out).mono ?_
       (case side1 => repeat (first | (with_reducible first | exact HI126.out | apply IsS65.alloc | apply IsS65.drewN | apply IsS65.drew | apply IsS65.set_1 | refine IsS65.far ?_ NB126_133.out _) | exact HI126.out))
       (case side2 => repeat (first | (with_reducible first | exact HB.out | apply below_alloc | apply pw_below_drewN | apply below_drew1 | refine below_set ?_ (IsS65.ge HI126.out) | refine below_set ?_ GE133.out) | exact HB.out))
       rintro e w17 ⟨rfl, hi, hb, hk⟩
       refine ⟨_, rfl, ?_⟩
       have n0_ := Aside0.mk (Kd.N_mono (Kd.N_keep (Kd.N_mono (ok := fun k_ => (((w.heap.size ≤ k_)) ∧ (k_ ≠ g126 ∧ k_ ≠ gb133))) (by (with_reducible repeat (first | apply Kd.N_alloc | apply Kd.N_drewN | apply Kd.N_drew)); exact HO_5.out) (fun k_ hk_ => (⟨hk_, hk_.2.1⟩ : _ ∧ k_ ≠ g126))) hk (fun _ h => h.2)) (fun _ h => h.1))
       have n1_ := Aside0.mk (KeepBut.blk hk (g' := gb133) (o := .cells #[.int .i64 t131, .int .i64 0, .slice none 0 0] 38 (0, 0)) (by (with_reducible repeat (first | refine blk_drewN ?_ _ | refine blk_drew ?_ | refine blk_alloc ?_ _)); exact BK133.out) NB133_126.out (by simp))
       have n2_ := Aside0.mk (hb)
       have n3_ := Aside0.mk (hi)
       clear HO_5
       clear BK133
       clear HB
       clear HI126
       have HO_5 := n0_
       have BK133 := n1_
       have HB := n2_
       have HI126 := n3_
       clear n0_ n1_ n2_ n3_
       (try clear hb)
       (try clear hb2)
       (try clear hk)
       (try clear hi)
       refine hK.out _ _ ⟨(blk_cell BK133.out 0).trans rfl, (blk_cell BK133.out 1).trans rfl, (blk_cell BK133.out 2).trans rfl⟩ (fun hHeld => ?_)
       clear hK K
       refine norm_ (a' := ?_) ?_ ?_
       rotate_left
       ·show Act.put _ (some 27) _ = _
        simp only [Act.put, List.setIfInBounds_toArray, List.set_cons_zero, List.set_cons_succ, i64_w, i32_w]
        rfl
       refine pure_ (i := 5) (N := some 28) (v := ?_) (a' := ?_) #[true, true, true, true, true, true, false, false] rfl rfl (any_of HT_.out (by kernel_rfl)) (fun _ _ _ h => h) (Or.inl ⟨by rfl, ?_⟩) ?_ ?_
       rotate_left
       ·intro w'
        go_simp
        with_reducible rfl
       rotate_left
       ·simp only [Act.put, List.setIfInBounds_toArray, List.set_cons_zero, List.set_cons_succ, i64_w, i32_w]
        rfl
       refine pure_ (i := 6) (N := some 29) (v := ?_) (a' := ?_) #[true, true, true, true, true, true, true, false] rfl rfl (any_of HT_.out (by kernel_rfl)) (fun _ _ _ h => h) (Or.inl ⟨by rfl, ?_⟩) ?_ ?_
       rotate_left
       ·intro w'
        go_simp
        with_reducible rfl
       rotate_left
       ·simp only [Act.put, List.setIfInBounds_toArray, List.set_cons_zero, List.set_cons_succ, i64_w, i32_w]
        rfl
       refine last_ (i := 7) (N := none) #[true, true, true, true, true, true, true, true] rfl rfl (one_of HT_.out (by kernel_rfl)) (by decide) (fun K hK => ?_)
       have hs18 : w17.cell? ⟨gb133, 1, none⟩ = some (.int .i64 0) := (blk_cell BK133.out 1).trans rfl
       have hfs18 := blk_frozen BK133.out 1
       refine skip_ (w1 := ?_) (by rfl) rfl ?_ ?_
       rotate_left
       ·go_simp
        rfl
       refine hK.out _ _ ?_
       clear hK K
       refine done_ (done_of HT_.out (by kernel_rfl)) ?_
       try go_wp2
       go_loopg [8] k1 (fun kq v8 w' => ∃ (x8_2 : Int) (x127001_2 : Int) (x134002_2 : List Int) (u134002 : Value), v8 = .int .i64 x8_2 ∧ Aside0 (corporalaw27_list.l1 kq t127 x5_1 x6_1 x8_2 t124 x127001_2 t131 (wrap64 ((wrap64 (t131 + 1)) + t134)) x134002_2 = some r) ∧ Aside0 (kq ≤ k1) ∧ Aside0 (Kd.N k38 38 w' w.heap.size (fun k_ => (w.heap.size ≤ k_) ∧ some k_ ≠ (u134002 : Value).ownBlock ∧ k_ ≠ gb133 ∧ k_ ≠ g126) u5 x5_1) ∧ Aside0 (Kd.R (Kd.int .i64) 3 w' w.heap.size (fun k_ => (w.heap.size ≤ k_)) u134002 x134002_2) ∧ Aside0 (w'.heap[gb133]? = some (.cells #[.int .i64 t131, .int .i64 (wrap64 ((wrap64 (t131 + 1)) + t134)), u134002] 38 (0, 0))) ∧ Aside0 (IsS65 w w' g126 t124 x127001_2) ∧ Aside0 (Below w.heap.size w w'))
       case atStart => exact ⟨(0), (t135), (([] : List Int)), (.slice none 0 0), (by first | rfl | (simp; done) | (simp [*]; done)), H', ⟨Nat.le_refl _⟩, ⟨by (with_reducible repeat (first | apply Kd.N_alloc | apply Kd.N_drewN | apply Kd.N_drew)); exact Kd.N_mono (Kd.N_far (p := ⟨gb133, 1, none⟩) (Kd.N_mono HO_5.out (fun k_ hk => (⟨hk, hk.2.2⟩ : _ ∧ k_ ≠ gb133))) (fun _ hk => hk.2) (.int .i64 (wrap64 ((wrap64 (t131 + 1)) + t134)))) (fun _ hk => ⟨hk.1.1, ⟨(by simp [Value.ownBlock]), ⟨hk.1.2.2, hk.1.2.1⟩⟩⟩)⟩, ⟨by first | exact Kd.R_nil _ _ _ _ _ | exact Kd.N_nil _ _ _ _ _ | exact Kd.V_nil _ _ _ _ _ | exact Kd.Q_nil _ _ _ _ _ | exact Kd.S_nil _ _ _ _ _⟩, ⟨by (with_reducible repeat (first | refine blk_drewN ?_ _ | refine blk_drew ?_ | refine blk_alloc ?_ _)); refine blk_put (cs := #[.int .i64 t131, .int .i64 0, .slice none 0 0]) ?_ 1 _ rfl; (with_reducible repeat (first | refine blk_drewN ?_ _ | refine blk_drew ?_ | refine blk_alloc ?_ _)); exact BK133.out⟩, ⟨by repeat (first | (with_reducible first | exact HI126.out | apply IsS65.alloc | apply IsS65.drewN | apply IsS65.drew | apply IsS65.set_1 | refine IsS65.far ?_ NB126_133.out _) | exact HI126.out)⟩, ⟨by repeat (first | (with_reducible first | exact HB.out | apply below_alloc | apply pw_below_drewN | apply below_drew1 | refine below_set ?_ (IsS65.ge HI126.out) | refine below_set ?_ GE133.out) | exact HB.out)⟩⟩
       case round =>
         clear H'
         try clear c1
         try clear c2
         try clear p2
         try clear p6
         try clear c8
         try clear c8b0
         try clear c10
         try clear c13
         try clear hcz14_0
         try clear hcz14_1
         try clear hcz14_2
         try clear hfz14_0
         try clear hfz14_1
         try clear hfz14_2
         try clear p2
         obtain ⟨x8_2, x127001_2, x134002_2, u134002, rfl, HA, HK2, HO_5, HO_134002, BK133, HI126, HB⟩ := hrel
         cases gk with
         | zero => exact absurd HA.out (by simp [corporalaw27_list.l1])
         | succ k2 =>
           have H := HA.out
           clear HA
           simp only [corporalaw27_list.l1] at H
           by_cases c19 : x8_2 < t127
           ·rw [if_pos c19] at H
            have c19b0 : decide (x8_2 < t127) = true := decide_eq_true c19
            clear c19
            replace H := Option.bind_eq_some_iff.mp H
            obtain ⟨⟨t136, t137⟩, A200, H⟩ := H
            replace H : ((some (([wrap64 (t136 - 1)] : List Int) : List Int)).bind fun y138 => (if x134002_2.length + y138.length < 17592186044416 then (corporalaw27_list.l1 k2 t127 x5_1 x6_1 (wrap64 (x8_2 + 1)) t124 t137 t131 (wrap64 ((wrap64 (t131 + 1)) + t134)) (x134002_2 ++ y138)) else (none))) = some r := H
            have A20 := Aside0.mk A200
            clear A200
            obtain ⟨y138, hy138⟩ : ∃ y_ : List Int, y_ = (([wrap64 (t136 - 1)] : List Int)) := ⟨_, rfl⟩
            replace H : (if x134002_2.length + y138.length < 17592186044416 then (corporalaw27_list.l1 k2 t127 x5_1 x6_1 (wrap64 (x8_2 + 1)) t124 t137 t131 (wrap64 ((wrap64 (t131 + 1)) + t134)) (x134002_2 ++ y138)) else (none)) = some r := by first | (rw [hy138]; with_reducible exact H) | (have H2_ := (Option.bind_some _ _).symm.trans H; rw [hy138]; with_reducible exact H2_) | (have H2_ := (Option.bind_some _ _).symm.trans H; with_reducible exact H2_) | with_reducible exact H | (rw [hy138]; exact H) | exact H
            have Ny138 := Aside0.mk hy138
            clear hy138
            by_cases c21 : x134002_2.length + y138.length < 17592186044416
            ·rw [if_pos c21] at H
             have LMc21 := Aside0.mk c21
             clear c21
             obtain ⟨y141, hy141⟩ : ∃ y_ : List Int, y_ = (x134002_2 ++ y138) := ⟨_, rfl⟩
             replace H : (corporalaw27_list.l1 k2 t127 x5_1 x6_1 (wrap64 (x8_2 + 1)) t124 t137 t131 (wrap64 ((wrap64 (t131 + 1)) + t134)) y141) = some r := by first | (rw [hy141]; with_reducible exact H) | (have H2_ := (Option.bind_some _ _).symm.trans H; rw [hy141]; with_reducible exact H2_) | (have H2_ := (Option.bind_some _ _).symm.trans H; with_reducible exact H2_) | with_reducible exact H | (rw [hy141]; exact H) | exact H
             have Ny141 := Aside0.mk hy141
             clear hy141
             have H' := Aside0.mk H
             clear H
             try go_wp2
             have n0_ := Aside0.mk (Kd.N_drew HO_5.out)
             have n1_ := Aside0.mk (Kd.R_drew HO_134002.out)
             have n2_ := Aside0.mk (blk_drew BK133.out)
             have n3_ := Aside0.mk (IsS65.drew HI126.out)
             have n4_ := Aside0.mk (below_drew1 HB.out)
             clear HO_5
             clear HO_134002
             clear BK133
             clear HI126
             clear HB
             have HO_5 := n0_
             have HO_134002 := n1_
             have BK133 := n2_
             have HI126 := n3_
             have HB := n4_
             clear n0_ n1_ n2_ n3_ n4_
             refine start_ (n := 9) (S := fun w' => w'.cell? ⟨gb133, 0, none⟩ = some (.int .i64 t131) ∧ w'.cell? ⟨gb133, 1, none⟩ = some (.int .i64 (wrap64 ((wrap64 (t131 + 1)) + t134))) ∧ w'.cell? ⟨gb133, 2, none⟩ = some (u134002)) (ds := [8]) #[false, false, false, false, false, false, false, false, false] (by kernel_rfl) rfl rfl ⟨(blk_cell BK133.out 0).trans rfl, (blk_cell BK133.out 1).trans rfl, (blk_cell BK133.out 2).trans rfl⟩ (fun hHeld => ?_); refine with_tabW corporalaw27_list.tab12 corporalaw27_list.bits12 (fun HT_ HW_ => ?_)
             generalize wr.drew = w22 at HO_5 HO_134002 BK133 HI126 HB hHeld ⊢
             refine pure_ (i := 0) (N := some 35) (v := ?_) (a' := ?_) #[true, false, false, false, false, false, false, false, false] rfl rfl (any_of HT_.out (by kernel_rfl)) (fun _ _ _ h => h) (Or.inl ⟨by rfl, ?_⟩) ?_ ?_
             rotate_left
             ·intro w'
              go_simp
              with_reducible rfl
             rotate_left
             ·simp only [Act.put, List.setIfInBounds_toArray, List.set_cons_zero, List.set_cons_succ, i64_w, i32_w]
              rfl
             refine pure_ (i := 2) (N := some 37) (v := ?_) (a' := ?_) #[true, false, true, false, false, false, false, false, false] rfl rfl (any_of HT_.out (by kernel_rfl)) (fun _ _ _ h => h) (Or.inl ⟨by rfl, ?_⟩) ?_ ?_
             rotate_left
             ·intro w'
              go_simp
              with_reducible rfl
             rotate_left
             ·simp only [Act.put, List.setIfInBounds_toArray, List.set_cons_zero, List.set_cons_succ, i64_w, i32_w]
              rfl
             refine take_ (i := 1) (N := some 36) (v := ?_) (a' := ?_) #[true, true, true, false, false, false, false, false, false] rfl rfl (take_ofW HT_.out HW_.out (by kernel_rfl)) (fun _ _ _ h => h) (Or.inl ⟨by rfl, ?_⟩) hHeld ?_ ?_
             rotate_left
             ·rintro w' ⟨s0, s1, s2⟩
              go_simp
              with_reducible rfl
             rotate_left
             ·simp only [Act.put, List.setIfInBounds_toArray, List.set_cons_zero, List.set_cons_succ, i64_w, i32_w]
              rfl
             refine one_ (i := 3) (N := some 38) #[true, true, true, true, false, false, false, false, false] rfl rfl (one_of HT_.out (by kernel_rfl)) (by decide) (fun K hK => ?_)
             refine goes_ Try.func22 (by kernel_rfl) rfl #[.pointer (some ⟨g126, 0, none⟩), .int .i64 5] (by rfl) rfl rfl (by (try simp only [List.map_toArray, List.map_cons, List.map_nil]); first | done | rfl | (simp only [List.length_drop, List.length_take]; rfl)) ?_
             with_reducible refine (corporamade_Tape_Next.calls g126 t124 x127001_2 5 t136 t137 w _ ?side1 ?side2 A20.out).mono ?_
             (case side1 => repeat (first | (with_reducible first | exact HI126.out | apply IsS65.alloc | apply IsS65.drewN | apply IsS65.drew | apply IsS65.set_1 | refine IsS65.far ?_ NB126_133.out _) | exact HI126.out))
             (case side2 => repeat (first | (with_reducible first | exact HB.out | apply below_alloc | apply pw_below_drewN | apply below_drew1 | refine below_set ?_ (IsS65.ge HI126.out) | refine below_set ?_ GE133.out) | exact HB.out))
             rintro e w23 ⟨rfl, hi, hb, hk⟩
             refine ⟨_, rfl, ?_⟩
             have n0_ := Aside0.mk (Kd.N_mono (Kd.N_keep (Kd.N_mono (ok := fun k_ => (((w.heap.size ≤ k_)) ∧ (some k_ ≠ (u134002 : Value).ownBlock ∧ (k_ ≠ gb133 ∧ k_ ≠ g126)))) (by (with_reducible repeat (first | apply Kd.N_alloc | apply Kd.N_drewN | apply Kd.N_drew)); exact HO_5.out) (fun k_ hk_ => (⟨hk_, hk_.2.2.2⟩ : _ ∧ k_ ≠ g126))) hk (fun _ h => h.2)) (fun _ h => h.1))
             have n1_ := Aside0.mk (Kd.R_mono (Kd.R_keep (IsS65.apart (show IsS65 w _ g126 t124 x127001_2 from by repeat (first | (with_reducible first | exact HI126.out | apply IsS65.alloc | apply IsS65.drewN | apply IsS65.drew | apply IsS65.set_1 | refine IsS65.far ?_ NB126_133.out _) | exact HI126.out)) (by (with_reducible repeat (first | apply Kd.R_alloc | apply Kd.R_drewN | apply Kd.R_drew)); exact HO_134002.out) (by decide)) hk (fun _ h => h.2)) (fun _ h => h.1))
             have n2_ := Aside0.mk (KeepBut.blk hk (g' := gb133) (o := .cells #[.int .i64 t131, .int .i64 (wrap64 ((wrap64 (t131 + 1)) + t134)), u134002] 38 (0, 0)) (by (with_reducible repeat (first | refine blk_drewN ?_ _ | refine blk_drew ?_ | refine blk_alloc ?_ _)); exact BK133.out) NB133_126.out (by simp))
             have n3_ := Aside0.mk (hb)
             have n4_ := Aside0.mk (hi)
             clear HO_5
             clear HO_134002
             clear BK133
             clear HB
             clear HI126
             have HO_5 := n0_
             have HO_134002 := n1_
             have BK133 := n2_
             have HB := n3_
             have HI126 := n4_
             clear n0_ n1_ n2_ n3_ n4_
             (try clear hb)
             (try clear hb2)
             (try clear hk)
             (try clear hi)
             refine hK.out _ _ ⟨(blk_cell BK133.out 0).trans rfl, (blk_cell BK133.out 1).trans rfl, (blk_cell BK133.out 2).trans rfl⟩ (fun hHeld => ?_)
             clear hK K
             refine norm_ (a' := ?_) ?_ ?_
             rotate_left
             ·show Act.put _ (some 38) _ = _
              simp only [Act.put, List.setIfInBounds_toArray, List.set_cons_zero, List.set_cons_succ, i64_w, i32_w]
              rfl
             refine pure_ (i := 4) (N := some 39) (v := ?_) (a' := ?_) #[true, true, true, true, true, false, false, false, false] rfl rfl (any_of HT_.out (by kernel_rfl)) (fun _ _ _ h => h) (Or.inl ⟨by rfl, ?_⟩) ?_ ?_
             rotate_left
             ·intro w'
              go_simp
              with_reducible rfl
             rotate_left
             ·simp only [Act.put, List.setIfInBounds_toArray, List.set_cons_zero, List.set_cons_succ, i64_w, i32_w]
              rfl
             refine one_ (i := 5) (N := some 40) #[true, true, true, true, true, true, false, false, false] rfl rfl (one_of HT_.out (by kernel_rfl)) (by decide) (fun K hK => ?_)
             refine Kd.R_lit_step (Kd.int .i64) _ 3 ?hg (N := 40) ?hd (xs := ([wrap64 (t136 - 1)] : List Int)) (inner := [.int .i64 (wrap64 (t136 - 1))]) (ok := fun _ => True) (okp := fun _ => True) ?hr ?hp (fun _ hk => hk) trivial (Below.refl _ _) (Nat.le_refl _) (by simp) ?_; (case hd => rfl); (case hg => rfl); (case hr => first | (go_simp; done) | (go_simp; rfl)); (case hp => exact (Reps.one (show Kd.M (Kd.int .i64) _ _ _ (wrap64 (t136 - 1)) [.int .i64 (wrap64 (t136 - 1))] from rfl) (Reps.none _ _)))
             intro v139 w24 ho25 hb hg_ hnew_
             clear hg_ hnew_
             (first | rw [← Ny138.out] at ho25 | (simp only [Int.reduceToNat] at ho25; rw [← Ny138.out] at ho25))
             have n0_ := Aside0.mk (Kd.N_elder' (by (with_reducible repeat (first | apply Kd.N_alloc | apply Kd.N_drewN | apply Kd.N_drew)); exact HO_5.out) (Kd.R_base ho25) hb)
             have n1_ := Aside0.mk (Kd.R_elder' (by (with_reducible repeat (first | apply Kd.R_alloc | apply Kd.R_drewN | apply Kd.R_drew)); exact HO_134002.out) (Kd.R_base ho25) hb)
             have n2_ := Aside0.mk (Kd.R_lower (Kd.R_new' (Kd.R_newM (M := fun k_ => (w.heap.size ≤ k_)) ho25 (below_size (by repeat (first | (with_reducible first | exact HB.out | apply below_alloc | apply pw_below_drewN | apply below_drew1 | refine below_set ?_ (IsS65.ge HI126.out) | refine below_set ?_ GE133.out) | exact HB.out))) (fun k_ h_ => h_)) (Kd.R_lt (by (with_reducible repeat (first | apply Kd.R_alloc | apply Kd.R_drewN | apply Kd.R_drew)); exact HO_134002.out))) (below_size (by repeat (first | (with_reducible first | exact HB.out | apply below_alloc | apply pw_below_drewN | apply below_drew1 | refine below_set ?_ (IsS65.ge HI126.out) | refine below_set ?_ GE133.out) | exact HB.out))))
             have n3_ := Aside0.mk (blk_below (g := gb133) (o := .cells #[.int .i64 t131, .int .i64 (wrap64 ((wrap64 (t131 + 1)) + t134)), u134002] 38 (0, 0)) (by (with_reducible repeat (first | refine blk_drewN ?_ _ | refine blk_drew ?_ | refine blk_alloc ?_ _)); exact BK133.out) hb)
             have n4_ := Aside0.mk (IsS65.below (by repeat (first | (with_reducible first | exact HI126.out | apply IsS65.alloc | apply IsS65.drewN | apply IsS65.drew | apply IsS65.set_1 | refine IsS65.far ?_ NB126_133.out _) | exact HI126.out)) hb)
             have n5_ := Aside0.mk (below_step (by repeat (first | (with_reducible first | exact HB.out | apply below_alloc | apply pw_below_drewN | apply below_drew1 | refine below_set ?_ (IsS65.ge HI126.out) | refine below_set ?_ GE133.out) | exact HB.out)) hb)
             clear HO_5
             clear HO_134002
             clear BK133
             clear HI126
             clear HB
             have HO_5 := n0_
             have HO_134002 := n1_
             have HO140 := n2_
             have BK133 := n3_
             have HI126 := n4_
             have HB := n5_
             clear n0_ n1_ n2_ n3_ n4_ n5_
             clear hb ho25
             obtain ⟨Ao27, co27, eo27⟩ := Kd.R_slice HO140.out
             (first | subst eo27 | (injection eo27 with f1_ f2_ f3_; have f4_ := f1_.symm; have f5_ := f3_.symm; clear f1_ f2_ f3_; subst f4_; subst f5_))
             refine hK.out _ _ ⟨(blk_cell BK133.out 0).trans rfl, (blk_cell BK133.out 1).trans rfl, (blk_cell BK133.out 2).trans rfl⟩ (fun hHeld => ?_)
             clear hK K
             refine norm_ (a' := ?_) ?_ ?_
             rotate_left
             ·show Act.put _ (some 40) _ = _
              simp only [Act.put, List.setIfInBounds_toArray, List.set_cons_zero, List.set_cons_succ, i64_w, i32_w]
              rfl
             refine one_ (i := 6) (N := some 41) #[true, true, true, true, true, true, true, false, false] rfl rfl (one_of HT_.out (by kernel_rfl)) (by decide) (fun K hK => ?_)
             refine Kd.R_append_rows_step (Kd.int .i64) (w0 := w) w.heap.size (by rfl) (.tmp 36) (.tmp 40) 22 3 (.int .i64 0) 8 rfl Try.underlying22 info3 rfl (by decide) (by omega) u134002 x134002_2 y138 _ _ _ (fun k_ => (w.heap.size ≤ k_) ∧ some k_ ≠ (.slice Ao27 y138.length co27 : Value).ownBlock) (fun _ => False) rfl rfl ?aO ?aR (fun _ _ h => h) (fun _ h => h.elim) ?aF ?aB ?aS ?aL ?_
             (case aR => repeat (first | exact (Kd.R_reads' HO140.out).2.2 | (with_reducible refine Kd.C_alloc ?_ _) | (with_reducible refine Kd.C_drewN ?_ _) | (with_reducible refine Kd.C_drew ?_)))
             (case aB => exact (by repeat (first | (with_reducible first | exact HB.out | apply below_alloc | apply pw_below_drewN | apply below_drew1 | refine below_set ?_ (IsS65.ge HI126.out) | refine below_set ?_ GE133.out) | exact HB.out)))
             (case aF => exact (fun k_ hk => ⟨(Nat.le_trans (below_size (by repeat (first | (with_reducible first | exact HB.out | apply below_alloc | apply pw_below_drewN | apply below_drew1 | refine below_set ?_ (IsS65.ge HI126.out) | refine below_set ?_ GE133.out) | exact HB.out))) hk), Kd.fresh' (Kd.R_lt (by (with_reducible repeat (first | apply Kd.R_alloc | apply Kd.R_drewN | apply Kd.R_drew)); exact HO140.out)) k_ hk⟩))
             (case aO => exact (by (with_reducible repeat (first | apply Kd.R_alloc | apply Kd.R_drewN | apply Kd.R_drew)); exact HO_134002.out))
             (case aS => exact (below_size (by repeat (first | (with_reducible first | exact HB.out | apply below_alloc | apply pw_below_drewN | apply below_drew1 | refine below_set ?_ (IsS65.ge HI126.out) | refine below_set ?_ GE133.out) | exact HB.out))))
             (case aL => have := LMc21.out; omega)
             intro v142 w26 ho hb hg hat
             rw [← Ny141.out] at ho
             have n0_ := Aside0.mk (Kd.N_afterv (ok := (fun k_ => (w.heap.size ≤ k_) ∧ some k_ ≠ (.slice Ao27 y138.length co27 : Value).ownBlock ∧ k_ ≠ gb133 ∧ k_ ≠ g126)) (by (with_reducible repeat (first | apply Kd.N_alloc | apply Kd.N_drewN | apply Kd.N_drew)); exact Kd.N_mono HO_5.out (fun _ hk => ⟨⟨hk.1.1, ⟨hk.2, ⟨hk.1.2.2.1, hk.1.2.2.2⟩⟩⟩, hk.1.2.1⟩)) hg hat)
             have n1_ := Aside0.mk (blk_grown (g := gb133) (o := .cells #[.int .i64 t131, .int .i64 (wrap64 ((wrap64 (t131 + 1)) + t134)), u134002] 38 (0, 0)) (by (with_reducible repeat (first | refine blk_drewN ?_ _ | refine blk_drew ?_ | refine blk_alloc ?_ _)); exact BK133.out) hg (Kd.R_ne HO_134002.out BK133.out (by decide)))
             have n2_ := Aside0.mk (IsS65.grown (by repeat (first | (with_reducible first | exact HI126.out | apply IsS65.alloc | apply IsS65.drewN | apply IsS65.drew | apply IsS65.set_1 | refine IsS65.far ?_ NB126_133.out _) | exact HI126.out)) hg (IsS65.own_ne HI126.out HO_134002.out (by decide)))
             have n3_ := Aside0.mk (Kd.R_after (ok := (fun k_ => (w.heap.size ≤ k_))) (by (with_reducible repeat (first | apply Kd.R_alloc | apply Kd.R_drewN | apply Kd.R_drew)); exact Kd.R_mono HO140.out (fun _ hk => ⟨hk.1.1, hk.2⟩)) hg hat)
             have n4_ := Aside0.mk (hb)
             have n5_ := Aside0.mk (ho)
             clear HO_5
             clear BK133
             clear HI126
             clear HO140
             clear HB
             clear HO_134002
             have HO_5 := n0_
             have BK133 := n1_
             have HI126 := n2_
             have HO140 := n3_
             have HB := n4_
             have HO143 := n5_
             clear n0_ n1_ n2_ n3_ n4_ n5_
             clear ho hb hg hat
             obtain ⟨Ao28, co28, eo28⟩ := Kd.R_slice HO143.out
             (first | subst eo28 | (injection eo28 with f1_ f2_ f3_; have f4_ := f1_.symm; have f5_ := f3_.symm; clear f1_ f2_ f3_; subst f4_; subst f5_))
             refine hK.out _ _ ⟨(blk_cell BK133.out 0).trans rfl, (blk_cell BK133.out 1).trans rfl, (blk_cell BK133.out 2).trans rfl⟩ (fun hHeld => ?_)
             clear hK K
             refine norm_ (a' := ?_) ?_ ?_
             rotate_left
             ·show Act.put _ (some 41) _ = _
              simp only [Act.put, List.setIfInBounds_toArray, List.set_cons_zero, List.set_cons_succ, i64_w, i32_w]
              rfl
             refine pure_ (i := 7) (N := some 42) (v := ?_) (a' := ?_) #[true, true, true, true, true, true, true, true, false] rfl rfl (any_of HT_.out (by kernel_rfl)) (fun _ _ _ h => h) (Or.inl ⟨by rfl, ?_⟩) ?_ ?_
             rotate_left
             ·intro w'
              go_simp
              with_reducible rfl
             rotate_left
             ·simp only [Act.put, List.setIfInBounds_toArray, List.set_cons_zero, List.set_cons_succ, i64_w, i32_w]
              rfl
             refine last_ (i := 8) (N := none) #[true, true, true, true, true, true, true, true, true] rfl rfl (one_of HT_.out (by kernel_rfl)) (by decide) (fun K hK => ?_)
             have hs29 : w26.cell? ⟨gb133, 2, none⟩ = some (u134002) := (blk_cell BK133.out 2).trans rfl
             have hfs29 := blk_frozen BK133.out 2
             refine skip_ (w1 := ?_) (by rfl) rfl ?_ ?_
             rotate_left
             ·go_simp
              rfl
             refine hK.out _ _ ?_
             clear hK K
             refine done_ (done_of HT_.out (by kernel_rfl)) ?_
             try go_wp2
             go_roundg k2
             case measure => have := HK1.out; have := HK2.out; omega
             case rel => exact ⟨(wrap64 (x8_2 + 1)), (t137), (y141), (.slice Ao28 y141.length co28), (by first | rfl | (simp; done) | (simp [*]; done)), H', ⟨by have := HK1.out; have := HK2.out; omega⟩, ⟨by (with_reducible repeat (first | apply Kd.N_alloc | apply Kd.N_drewN | apply Kd.N_drew)); exact Kd.N_mono (Kd.N_far (p := ⟨gb133, 2, none⟩) (Kd.N_mono HO_5.out (fun k_ hk => (⟨hk, hk.1.2.2.1⟩ : _ ∧ k_ ≠ gb133))) (fun _ hk => hk.2) (.slice Ao28 y141.length co28)) (fun _ hk => ⟨hk.1.1.1, ⟨hk.1.2, ⟨hk.1.1.2.2.1, hk.1.1.2.2.2⟩⟩⟩)⟩, ⟨by (with_reducible repeat (first | apply Kd.R_alloc | apply Kd.R_drewN | apply Kd.R_drew)); exact Kd.R_mono (Kd.R_far (p := ⟨gb133, 2, none⟩) (Kd.R_types HO143.out BK133.out (by decide)) (fun _ hk => hk.2) (.slice Ao28 y141.length co28)) (fun _ hk => hk.1.1)⟩, ⟨by (with_reducible repeat (first | refine blk_drewN ?_ _ | refine blk_drew ?_ | refine blk_alloc ?_ _)); refine blk_put (cs := #[.int .i64 t131, .int .i64 (wrap64 ((wrap64 (t131 + 1)) + t134)), u134002]) ?_ 2 _ rfl; (with_reducible repeat (first | refine blk_drewN ?_ _ | refine blk_drew ?_ | refine blk_alloc ?_ _)); exact BK133.out⟩, ⟨by repeat (first | (with_reducible first | exact HI126.out | apply IsS65.alloc | apply IsS65.drewN | apply IsS65.drew | apply IsS65.set_1 | refine IsS65.far ?_ NB126_133.out _) | exact HI126.out)⟩, ⟨by repeat (first | (with_reducible first | exact HB.out | apply below_alloc | apply pw_below_drewN | apply below_drew1 | refine below_set ?_ (IsS65.ge HI126.out) | refine below_set ?_ GE133.out) | exact HB.out)⟩⟩
            rw [if_neg c21] at H
            exact absurd H (by simp)
           rw [if_neg c19] at H
           have c19b0 : decide (x8_2 < t127) = false := decide_eq_false c19
           clear c19
           have H' := Aside0.mk H
           clear H
           obtain ⟨Ao30, co30, eo30⟩ := Kd.N_slice HO_5.out
           subst eo30
           go_upto_block 4 with fail
           go_cut [9] (fun v9 wc => ∃ (x9_3 : Int) (k3 : Nat), v9 = .int .i64 x9_3 ∧ Aside0 (corporalaw27_list.tail k3 t127 x5_1 x6_1 x9_3 t124 x127001_2 t131 (wrap64 ((wrap64 (t131 + 1)) + t134)) x134002_2 = some r) ∧ Aside0 (k3 + 1 ≤ k2) ∧ Aside0 (Kd.N k38 38 wc w.heap.size (fun k_ => (w.heap.size ≤ k_) ∧ some k_ ≠ (u134002 : Value).ownBlock ∧ k_ ≠ gb133 ∧ k_ ≠ g126) (.slice Ao30 x5_1.length co30) x5_1) ∧ Aside0 (Kd.R (Kd.int .i64) 3 wc w.heap.size (fun k_ => (w.heap.size ≤ k_)) u134002 x134002_2) ∧ Aside0 (wc.heap[gb133]? = some (.cells #[.int .i64 t131, .int .i64 (wrap64 ((wrap64 (t131 + 1)) + t134)), u134002] 38 (0, 0))) ∧ Aside0 (IsS65 w wc g126 t124 x127001_2) ∧ Aside0 (Below w.heap.size w wc) ∧ Aside0 (0 ≤ x9_3))
           case first =>
             go_wp2_with fail
             go_loopg [9] k2 (fun kq v9 w' => ∃ (x9_3 : Int), v9 = .int .i64 x9_3 ∧ Aside0 (corporalaw27_list.l2 kq t127 x5_1 x6_1 x9_3 t124 x127001_2 t131 (wrap64 ((wrap64 (t131 + 1)) + t134)) x134002_2 = some r) ∧ Aside0 (kq ≤ k2) ∧ Aside0 (Kd.N k38 38 w' w.heap.size (fun k_ => (w.heap.size ≤ k_) ∧ some k_ ≠ (u134002 : Value).ownBlock ∧ k_ ≠ gb133 ∧ k_ ≠ g126) (.slice Ao30 x5_1.length co30) x5_1) ∧ Aside0 (Kd.R (Kd.int .i64) 3 w' w.heap.size (fun k_ => (w.heap.size ≤ k_)) u134002 x134002_2) ∧ Aside0 (w'.heap[gb133]? = some (.cells #[.int .i64 t131, .int .i64 (wrap64 ((wrap64 (t131 + 1)) + t134)), u134002] 38 (0, 0))) ∧ Aside0 (IsS65 w w' g126 t124 x127001_2) ∧ Aside0 (Below w.heap.size w w') ∧ Aside0 (0 ≤ x9_3))
             case atStart => exact ⟨((x5_1.length : Int)), (by first | rfl | (simp; done) | (simp [*]; done)), H', ⟨Nat.le_refl _⟩, ⟨by (with_reducible repeat (first | apply Kd.N_alloc | apply Kd.N_drewN | apply Kd.N_drew)); exact HO_5.out⟩, ⟨by (with_reducible repeat (first | apply Kd.R_alloc | apply Kd.R_drewN | apply Kd.R_drew)); exact HO_134002.out⟩, ⟨by (with_reducible repeat (first | refine blk_drewN ?_ _ | refine blk_drew ?_ | refine blk_alloc ?_ _)); exact BK133.out⟩, ⟨by repeat (first | (with_reducible first | exact HI126.out | apply IsS65.alloc | apply IsS65.drewN | apply IsS65.drew | apply IsS65.set_1 | refine IsS65.far ?_ NB126_133.out _) | exact HI126.out)⟩, ⟨by repeat (first | (with_reducible first | exact HB.out | apply below_alloc | apply pw_below_drewN | apply below_drew1 | refine below_set ?_ (IsS65.ge HI126.out) | refine below_set ?_ GE133.out) | exact HB.out)⟩, ⟨Int.natCast_nonneg _⟩⟩
             case round =>
               clear H'
               try clear c1
               try clear c2
               try clear p2
               try clear p6
               try clear c8
               try clear c8b0
               try clear c10
               try clear c13
               try clear c19
               try clear c19b0
               try clear c21
               try clear c22
               try clear hcz14_0
               try clear hcz14_1
               try clear hcz14_2
               try clear hfz14_0
               try clear hfz14_1
               try clear hfz14_2
               try clear p2
               try clear p6
               obtain ⟨x9_3, rfl, HA, HK3, HO_5, HO_134002, BK133, HI126, HB, HN9⟩ := hrel
               cases gk with
               | zero => exact absurd HA.out (by simp [corporalaw27_list.l2])
               | succ k3 =>
                 have H := HA.out
                 clear HA
                 simp only [corporalaw27_list.l2] at H
                 by_cases c31 : x9_3 > 0
                 ·rw [if_pos c31] at H
                  have c31b0 : decide (0 < x9_3) = true := decide_eq_true c31
                  clear c31
                  obtain ⟨ji32, hji32⟩ : ∃ j_ : Int, (wrap64 (x9_3 - 1)) = j_ := ⟨_, rfl⟩
                  replace H : (if 0 ≤ (ji32) then (if (ji32) < (x5_1.length : Int) then ((corporaref24_Compare.f k3 t131 (wrap64 ((wrap64 (t131 + 1)) + t134)) x134002_2 ((rd_T38 x5_1 (ji32)).f0) ((rd_T38 x5_1 (ji32)).f1) ((rd_T38 x5_1 (ji32)).f2)).bind fun t145 => (if t145 < 0 then (corporalaw27_list.l2 k3 t127 x5_1 x6_1 ji32 t124 x127001_2 t131 (wrap64 ((wrap64 (t131 + 1)) + t134)) x134002_2) else (if x9_3 = 0 then ((some (([] : List (S38)) : List (S38))).bind fun y146 => (if 0 ≤ x9_3 then (if x9_3 ≤ (x5_1.length : Int) then ((some (x5_1.take (x9_3 : Int).toNat : List (S38))).bind fun y149 => (if y146.length + y149.length < 3518437208883 then ((some (y146 ++ y149 : List (S38))).bind fun y154 => ((some (([(⟨t131, (wrap64 ((wrap64 (t131 + 1)) + t134)), x134002_2⟩ : S38)] : List (S38)) : List (S38))).bind fun y157 => (if y154.length + y157.length < 3518437208883 then ((some (y154 ++ y157 : List (S38))).bind fun y160 => ((some (x5_1.drop (x9_3 : Int).toNat : List (S38))).bind fun y163 => (if y160.length + y163.length < 3518437208883 then (corporalaw27_list.l0 k3 t127 (y160 ++ y163) (wrap64 (x6_1 - 1)) t124 x127001_2) else (none)))) else (none)))) else (none))) else (none)) else (none))) else ((corporaref24_Compare.f k3 t131 (wrap64 ((wrap64 (t131 + 1)) + t134)) x134002_2 ((rd_T38 x5_1 (ji32)).f0) ((rd_T38 x5_1 (ji32)).f1) ((rd_T38 x5_1 (ji32)).f2)).bind fun t172 => (if t172 = 0 then (corporalaw27_list.l0 k3 t127 x5_1 (wrap64 (x6_1 - 1)) t124 x127001_2) else ((some (([] : List (S38)) : List (S38))).bind fun y173 => (if 0 ≤ x9_3 then (if x9_3 ≤ (x5_1.length : Int) then ((some (x5_1.take (x9_3 : Int).toNat : List (S38))).bind fun y176 => (if y173.length + y176.length < 3518437208883 then ((some (y173 ++ y176 : List (S38))).bind fun y181 => ((some (([(⟨t131, (wrap64 ((wrap64 (t131 + 1)) + t134)), x134002_2⟩ : S38)] : List (S38)) : List (S38))).bind fun y184 => (if y181.length + y184.length < 3518437208883 then ((some (y181 ++ y184 : List (S38))).bind fun y187 => ((some (x5_1.drop (x9_3 : Int).toNat : List (S38))).bind fun y190 => (if y187.length + y190.length < 3518437208883 then (corporalaw27_list.l0 k3 t127 (y187 ++ y190) (wrap64 (x6_1 - 1)) t124 x127001_2) else (none)))) else (none)))) else (none))) else (none)) else (none)))))))) else (none)) else (none)) = some r := by first | (rw [hji32] at H; exact H) | (simp only [hji32] at H ⊢; exact H)
                  have hji32w : (IntKind.i64.wrap (x9_3 - 1)) = ji32 := (i64_w _).trans hji32
                  by_cases c33 : 0 ≤ (ji32)
                  ·rw [if_pos c33] at H
                   have c33b0 : decide (0 ≤ (ji32)) = true := decide_eq_true c33
                   clear c33
                   by_cases c34 : (ji32) < (x5_1.length : Int)
                   ·rw [if_pos c34] at H
                    have c34b0 : decide ((ji32) < (x5_1.length : Int)) = true := decide_eq_true c34
                    clear c34
                    replace H := Option.bind_eq_some_iff.mp H
                    obtain ⟨t145, A350, H⟩ := H
                    replace H : (if t145 < 0 then (corporalaw27_list.l2 k3 t127 x5_1 x6_1 ji32 t124 x127001_2 t131 (wrap64 ((wrap64 (t131 + 1)) + t134)) x134002_2) else (if x9_3 = 0 then ((some (([] : List (S38)) : List (S38))).bind fun y146 => (if 0 ≤ x9_3 then (if x9_3 ≤ (x5_1.length : Int) then ((some (x5_1.take (x9_3 : Int).toNat : List (S38))).bind fun y149 => (if y146.length + y149.length < 3518437208883 then ((some (y146 ++ y149 : List (S38))).bind fun y154 => ((some (([(⟨t131, (wrap64 ((wrap64 (t131 + 1)) + t134)), x134002_2⟩ : S38)] : List (S38)) : List (S38))).bind fun y157 => (if y154.length + y157.length < 3518437208883 then ((some (y154 ++ y157 : List (S38))).bind fun y160 => ((some (x5_1.drop (x9_3 : Int).toNat : List (S38))).bind fun y163 => (if y160.length + y163.length < 3518437208883 then (corporalaw27_list.l0 k3 t127 (y160 ++ y163) (wrap64 (x6_1 - 1)) t124 x127001_2) else (none)))) else (none)))) else (none))) else (none)) else (none))) else ((corporaref24_Compare.f k3 t131 (wrap64 ((wrap64 (t131 + 1)) + t134)) x134002_2 ((rd_T38 x5_1 (ji32)).f0) ((rd_T38 x5_1 (ji32)).f1) ((rd_T38 x5_1 (ji32)).f2)).bind fun t172 => (if t172 = 0 then (corporalaw27_list.l0 k3 t127 x5_1 (wrap64 (x6_1 - 1)) t124 x127001_2) else ((some (([] : List (S38)) : List (S38))).bind fun y173 => (if 0 ≤ x9_3 then (if x9_3 ≤ (x5_1.length : Int) then ((some (x5_1.take (x9_3 : Int).toNat : List (S38))).bind fun y176 => (if y173.length + y176.length < 3518437208883 then ((some (y173 ++ y176 : List (S38))).bind fun y181 => ((some (([(⟨t131, (wrap64 ((wrap64 (t131 + 1)) + t134)), x134002_2⟩ : S38)] : List (S38)) : List (S38))).bind fun y184 => (if y181.length + y184.length < 3518437208883 then ((some (y181 ++ y184 : List (S38))).bind fun y187 => ((some (x5_1.drop (x9_3 : Int).toNat : List (S38))).bind fun y190 => (if y187.length + y190.length < 3518437208883 then (corporalaw27_list.l0 k3 t127 (y187 ++ y190) (wrap64 (x6_1 - 1)) t124 x127001_2) else (none)))) else (none)))) else (none))) else (none)) else (none))))))) = some r := H
                    have A35 := Aside0.mk A350
                    clear A350
                    try go_wp2
                    have n0_ := Aside0.mk (Kd.N_drew HO_5.out)
                    have n1_ := Aside0.mk (Kd.R_drew HO_134002.out)
                    have n2_ := Aside0.mk (blk_drew BK133.out)
                    have n3_ := Aside0.mk (IsS65.drew HI126.out)
                    have n4_ := Aside0.mk (below_drew1 HB.out)
                    clear HO_5
                    clear HO_134002
                    clear BK133
                    clear HI126
                    clear HB
                    have HO_5 := n0_
                    have HO_134002 := n1_
                    have BK133 := n2_
                    have HI126 := n3_
                    have HB := n4_
                    clear n0_ n1_ n2_ n3_ n4_
                    have p144 : 0 ≤ ((ji32) : Int) := of_decide_eq_true (by first | (with_reducible assumption) | assumption)
                    have q144 : (ji32) < (x5_1.length : Int) := of_decide_eq_true (by first | (with_reducible assumption) | assumption)
                    obtain ⟨ad144, A144_2, c144_2, e144, hx144_0, hx144_1, hx144_2, hl144_2, hi144_2⟩ := at_T38 (Kd.N_reads' HO_5.out).2.2 (ji32) p144 q144
                    cases e144
                    obtain ⟨ce144, hce144, hMe144, hcc144⟩ := Kd.N_get HO_5.out z38 (ji32) p144 (by first | exact q144 | exact of_decide_eq_true (by first | (with_reducible assumption) | assumption) | (have e_ := (Kd.N_reads' HO_5.out).1; omega))
                    obtain ⟨ua144_2, uc144_2, rfl, ul144_2, ge144_2⟩ := k38_openF hMe144
                    have hv144_2 := hcc144 2 _ rfl
                    rw [add_field _ _ 2 (by omega)] at hv144_2
                    replace hv144_2 := Option.some.inj (hv144_2.symm.trans hx144_2)
                    injection hv144_2 with hva_ hvn_ hvc_
                    rw [hva_] at ge144_2
                    rw [hvc_] at ul144_2
                    have HL144_2 := Aside0.mk (show Kd.V (Kd.int .i64) 3 _ w.heap.size _ _ ((rd_T38 x5_1 (ji32)).f2) from Kd.V_mk ul144_2 ge144_2)
                    clear hva_ hvn_ hvc_ ge144_2 ul144_2
                    clear hcc144 hce144
                    have HR144_2 := Aside0.mk hi144_2
                    have HC144_2 := Aside0.mk hl144_2
                    clear hi144_2 hl144_2
                    replace p144 := eq_true p144
                    replace q144 := eq_true q144
                    obtain ⟨Ao67, co67, eo67⟩ := Kd.R_slice HO_134002.out
                    (first | subst eo67 | (injection eo67 with f1_ f2_ f3_; have f4_ := f1_.symm; have f5_ := f3_.symm; clear f1_ f2_ f3_; subst f4_; subst f5_))
                    refine start_ (n := 12) (S := fun w' => w'.cell? ⟨gb133, 0, none⟩ = some (.int .i64 t131) ∧ w'.cell? ⟨gb133, 1, none⟩ = some (.int .i64 (wrap64 ((wrap64 (t131 + 1)) + t134))) ∧ w'.cell? ⟨gb133, 2, none⟩ = some (.slice Ao67 x134002_2.length co67) ∧ w'.cell? (ad144.add (((ji32)).toNat * 3)) = some (.int .i64 ((rd_T38 x5_1 (ji32)).f0)) ∧ w'.cell? ⟨(ad144.add (((ji32)).toNat * 3)).block, (ad144.add (((ji32)).toNat * 3)).off + 1, none⟩ = some (.int .i64 ((rd_T38 x5_1 (ji32)).f1)) ∧ w'.cell? ⟨(ad144.add (((ji32)).toNat * 3)).block, (ad144.add (((ji32)).toNat * 3)).off + 2, none⟩ = some (.slice A144_2 ((rd_T38 x5_1 (ji32)).f2).length c144_2)) (ds := []) #[false, false, false, false, false, false, false, false, false, false, false, false] (by kernel_rfl) rfl rfl ⟨(blk_cell BK133.out 0).trans rfl, (blk_cell BK133.out 1).trans rfl, (blk_cell BK133.out 2).trans rfl, hx144_0, hx144_1, hx144_2⟩ (fun hHeld => ?_); refine with_tabW corporalaw27_list.tab14 corporalaw27_list.bits14 (fun HT_ HW_ => ?_)
                    generalize wr.drew = w66 at HO_5 HO_134002 BK133 HI126 HB HL144_2 HR144_2 hx144_0 hx144_1 hx144_2 hHeld ⊢
                    refine pure_ (i := 0) (N := some 45) (v := ?_) (a' := ?_) #[true, false, false, false, false, false, false, false, false, false, false, false] rfl rfl (any_of HT_.out (by kernel_rfl)) (fun _ _ _ h => h) (Or.inl ⟨by rfl, ?_⟩) ?_ ?_
                    rotate_left
                    ·intro w'
                     go_simp
                     with_reducible rfl
                    rotate_left
                    ·simp only [Act.put, List.setIfInBounds_toArray, List.set_cons_zero, List.set_cons_succ, i64_w, i32_w]
                     rfl
                    refine pure_ (i := 1) (N := some 46) (v := ?_) (a' := ?_) #[true, true, false, false, false, false, false, false, false, false, false, false] rfl rfl (any_of HT_.out (by kernel_rfl)) (fun _ _ _ h => h) (Or.inl ⟨by rfl, ?_⟩) ?_ ?_
                    rotate_left
                    ·intro w'
                     go_simp
                     with_reducible rfl
                    rotate_left
                    ·simp only [Act.put, List.setIfInBounds_toArray, List.set_cons_zero, List.set_cons_succ, i64_w, i32_w]
                     rfl
                    refine pure_ (i := 2) (N := some 47) (v := ?_) (a' := ?_) #[true, true, true, false, false, false, false, false, false, false, false, false] rfl rfl (any_of HT_.out (by kernel_rfl)) (fun _ _ _ h => h) (Or.inl ⟨by rfl, ?_⟩) ?_ ?_
                    rotate_left
                    ·intro w'
                     go_simp
                     with_reducible rfl
                    rotate_left
                    ·simp only [Act.put, List.setIfInBounds_toArray, List.set_cons_zero, List.set_cons_succ, i64_w, i32_w]
                     rfl
                    refine pure_ (i := 4) (N := some 49) (v := ?_) (a' := ?_) #[true, true, true, false, true, false, false, false, false, false, false, false] rfl rfl (any_of HT_.out (by kernel_rfl)) (fun _ _ _ h => h) (Or.inl ⟨by rfl, ?_⟩) ?_ ?_
                    rotate_left
                    ·intro w'
                     go_simp
                     with_reducible rfl
                    rotate_left
                    ·simp only [Act.put, List.setIfInBounds_toArray, List.set_cons_zero, List.set_cons_succ, i64_w, i32_w]
                     rfl
                    refine pure_ (i := 5) (N := some 50) (v := ?_) (a' := ?_) #[true, true, true, false, true, true, false, false, false, false, false, false] rfl rfl (any_of HT_.out (by kernel_rfl)) (fun _ _ _ h => h) (Or.inl ⟨by rfl, ?_⟩) ?_ ?_
                    rotate_left
                    ·intro w'
                     go_simp
                     with_reducible rfl
                    rotate_left
                    ·simp only [Act.put, List.setIfInBounds_toArray, List.set_cons_zero, List.set_cons_succ, i64_w, i32_w]
                     rfl
                    refine pure_ (i := 6) (N := some 51) (v := ?_) (a' := ?_) #[true, true, true, false, true, true, true, false, false, false, false, false] rfl rfl (any_of HT_.out (by kernel_rfl)) (fun _ _ _ h => h) (Or.inl ⟨by rfl, ?_⟩) ?_ ?_
                    rotate_left
                    ·intro w'
                     go_simp
                     with_reducible rfl
                    rotate_left
                    ·simp only [Act.put, List.setIfInBounds_toArray, List.set_cons_zero, List.set_cons_succ, i64_w, i32_w]
                     rfl
                    refine pure_ (i := 7) (N := some 52) (v := ?_) (a' := ?_) #[true, true, true, false, true, true, true, true, false, false, false, false] rfl rfl (any_of HT_.out (by kernel_rfl)) (fun _ _ _ h => h) (Or.inl ⟨by rfl, ?_⟩) ?_ ?_
                    rotate_left
                    ·intro w'
                     go_simp
                     with_reducible rfl
                    rotate_left
                    ·simp only [Act.put, List.setIfInBounds_toArray, List.set_cons_zero, List.set_cons_succ, i64_w, i32_w]
                     rfl
                    refine take_ (i := 3) (N := some 48) (v := ?_) (a' := ?_) #[true, true, true, true, true, true, true, true, false, false, false, false] rfl rfl (take_ofW HT_.out HW_.out (by kernel_rfl)) (fun _ _ _ h => h) (Or.inl ⟨by rfl, ?_⟩) hHeld ?_ ?_
                    rotate_left
                    ·rintro w' ⟨s0, s1, s2, s3, s4, s5⟩
                     go_simp
                     with_reducible rfl
                    rotate_left
                    ·simp only [Act.put, List.setIfInBounds_toArray, List.set_cons_zero, List.set_cons_succ, i64_w, i32_w]
                     rfl
                    refine take_ (i := 8) (N := some 53) (v := ?_) (a' := ?_) #[true, true, true, true, true, true, true, true, true, false, false, false] rfl rfl (take_ofW HT_.out HW_.out (by kernel_rfl)) (fun _ _ _ h => h) (Or.inl ⟨by rfl, ?_⟩) hHeld ?_ ?_
                    rotate_left
                    ·rintro w' ⟨s0, s1, s2, s3, s4, s5⟩
                     go_simp
                     with_reducible rfl
                    rotate_left
                    ·simp only [Act.put, List.setIfInBounds_toArray, List.set_cons_zero, List.set_cons_succ, i64_w, i32_w]
                     rfl
                    refine one_ (i := 9) (N := some 54) #[true, true, true, true, true, true, true, true, true, true, false, false] rfl rfl (one_of HT_.out (by kernel_rfl)) (by decide) (fun K hK => ?_)
                    refine goes_ Try.func23 (by kernel_rfl) rfl #[.agg #[.int .i64 t131, .int .i64 (wrap64 ((wrap64 (t131 + 1)) + t134)), .slice Ao67 x134002_2.length co67], .agg #[.int .i64 ((rd_T38 x5_1 (ji32)).f0), .int .i64 ((rd_T38 x5_1 (ji32)).f1), .slice A144_2 ((rd_T38 x5_1 (ji32)).f2).length c144_2]] (by rfl) rfl rfl (by (try simp only [List.map_toArray, List.map_cons, List.map_nil]); first | done | (simp only [hji32]; rfl) | rfl | (simp only [List.length_drop, List.length_take]; rfl)) ?_
                    with_reducible refine (corporaref24_Compare.calls k3 t131 (wrap64 ((wrap64 (t131 + 1)) + t134)) _ _ x134002_2 ((rd_T38 x5_1 (ji32)).f0) ((rd_T38 x5_1 (ji32)).f1) _ _ ((rd_T38 x5_1 (ji32)).f2) t145 _ ?side1 ?side2 ?side3 ?side4 A35.out).mono ?_
                    (case side1 => repeat (first | exact (Kd.R_reads' HO_134002.out).2.2 | (with_reducible refine Kd.C_alloc ?_ _) | (with_reducible refine Kd.C_drewN ?_ _) | (with_reducible refine Kd.C_drew ?_)))
                    (case side2 => exact (Kd.R_reads' HO_134002.out).2.1)
                    (case side3 => repeat (first | exact (by repeat (first | (with_reducible exact HR144_2.out) | (with_reducible refine Kd.C_alloc ?_ _) | (with_reducible refine Kd.C_drewN ?_ _) | (with_reducible refine Kd.C_drew ?_) | exact HR144_2.out)) | (with_reducible refine Kd.C_alloc ?_ _) | (with_reducible refine Kd.C_drewN ?_ _) | (with_reducible refine Kd.C_drew ?_)))
                    (case side4 => exact HC144_2.out)
                    rintro e w68 ⟨rfl, hb⟩
                    have HS3_ := (hb.cell (World.block_lt_of_cell? _ _ (hHeld.2.2.2.1))).trans (hHeld.2.2.2.1)
                    have HS4_ := (hb.cell (World.block_lt_of_cell? _ _ (hHeld.2.2.2.2.1))).trans (hHeld.2.2.2.2.1)
                    have HS5_ := (hb.cell (World.block_lt_of_cell? _ _ (hHeld.2.2.2.2.2))).trans (hHeld.2.2.2.2.2)
                    refine ⟨_, rfl, ?_⟩
                    have n0_ := Aside0.mk (Kd.N_below (by (with_reducible repeat (first | apply Kd.N_alloc | apply Kd.N_drewN | apply Kd.N_drew)); exact HO_5.out) hb)
                    have n1_ := Aside0.mk (Kd.R_below (by (with_reducible repeat (first | apply Kd.R_alloc | apply Kd.R_drewN | apply Kd.R_drew)); exact HO_134002.out) hb)
                    have n2_ := Aside0.mk (Kd.V_below (by (with_reducible repeat (first | apply Kd.V_alloc | apply Kd.V_drewN | apply Kd.V_drew)); exact HL144_2.out) hb)
                    have n3_ := Aside0.mk (blk_below (g := gb133) (o := .cells #[.int .i64 t131, .int .i64 (wrap64 ((wrap64 (t131 + 1)) + t134)), .slice Ao67 x134002_2.length co67] 38 (0, 0)) (by (with_reducible repeat (first | refine blk_drewN ?_ _ | refine blk_drew ?_ | refine blk_alloc ?_ _)); exact BK133.out) hb)
                    have n4_ := Aside0.mk (IsS65.below (by repeat (first | (with_reducible first | exact HI126.out | apply IsS65.alloc | apply IsS65.drewN | apply IsS65.drew | apply IsS65.set_1 | refine IsS65.far ?_ NB126_133.out _) | exact HI126.out)) hb)
                    have n5_ := Aside0.mk (Kd.C_below (by repeat (first | (with_reducible exact HR144_2.out) | (with_reducible refine Kd.C_alloc ?_ _) | (with_reducible refine Kd.C_drewN ?_ _) | (with_reducible refine Kd.C_drew ?_) | exact HR144_2.out)) hb)
                    have n6_ := Aside0.mk (below_step (by repeat (first | (with_reducible first | exact HB.out | apply below_alloc | apply pw_below_drewN | apply below_drew1 | refine below_set ?_ (IsS65.ge HI126.out) | refine below_set ?_ GE133.out) | exact HB.out)) hb)
                    clear HO_5
                    clear HO_134002
                    clear HL144_2
                    clear BK133
                    clear HI126
                    clear HR144_2
                    clear HB
                    have HO_5 := n0_
                    have HO_134002 := n1_
                    have HL144_2 := n2_
                    have BK133 := n3_
                    have HI126 := n4_
                    have HR144_2 := n5_
                    have HB := n6_
                    clear n0_ n1_ n2_ n3_ n4_ n5_ n6_
                    (try clear hb)
                    (try clear hb2)
                    (try clear hk)
                    (try clear hi)
                    refine hK.out _ _ ⟨(blk_cell BK133.out 0).trans rfl, (blk_cell BK133.out 1).trans rfl, (blk_cell BK133.out 2).trans rfl, HS3_, HS4_, HS5_⟩ (fun hHeld => ?_)
                    clear hK K
                    refine norm_ (a' := ?_) ?_ ?_
                    rotate_left
                    ·show Act.put _ (some 54) _ = _
                     simp only [Act.put, List.setIfInBounds_toArray, List.set_cons_zero, List.set_cons_succ, i64_w, i32_w]
                     rfl
                    by_cases c36 : t145 < 0
                    ·rw [if_pos c36] at H
                     have c36b0 : decide (t145 < 0) = true := decide_eq_true c36
                     clear c36
                     have H' := Aside0.mk H
                     clear H
                     refine pure_ (i := 10) (N := some 55) (v := ?_) (a' := ?_) #[true, true, true, true, true, true, true, true, true, true, true, false] rfl rfl (any_of HT_.out (by kernel_rfl)) (fun _ _ _ h => h) (Or.inl ⟨by rfl, ?_⟩) ?_ ?_
                     rotate_left
                     ·intro w'
                      go_simp
                      with_reducible rfl
                     rotate_left
                     ·simp only [Act.put, List.setIfInBounds_toArray, List.set_cons_zero, List.set_cons_succ, i64_w, i32_w]
                      rfl
                     refine pure_ (i := 11) (N := some 56) (v := ?_) (a' := ?_) #[true, true, true, true, true, true, true, true, true, true, true, true] rfl rfl (any_of HT_.out (by kernel_rfl)) (fun _ _ _ h => h) (Or.inl ⟨by rfl, ?_⟩) ?_ ?_
                     rotate_left
                     ·intro w'
                      go_simp
                      with_reducible rfl
                     rotate_left
                     ·simp only [Act.put, List.setIfInBounds_toArray, List.set_cons_zero, List.set_cons_succ, i64_w, i32_w]
                      rfl
                     refine done_ (done_of HT_.out (by kernel_rfl)) ?_
                     try go_wp2
                     go_roundg k3
                     case measure => have := HK1.out; have := HK2.out; have := HK3.out; omega
                     case rel => exact ⟨(ji32), (by first | rfl | (simp; done) | (simp only [← hji32] <;> (first | rfl | simp)) | (simp [*]; done)), H', ⟨by have := HK1.out; have := HK2.out; have := HK3.out; omega⟩, ⟨by (with_reducible repeat (first | apply Kd.N_alloc | apply Kd.N_drewN | apply Kd.N_drew)); exact HO_5.out⟩, ⟨by (with_reducible repeat (first | apply Kd.R_alloc | apply Kd.R_drewN | apply Kd.R_drew)); exact HO_134002.out⟩, ⟨by (with_reducible repeat (first | refine blk_drewN ?_ _ | refine blk_drew ?_ | refine blk_alloc ?_ _)); exact BK133.out⟩, ⟨by repeat (first | (with_reducible first | exact HI126.out | apply IsS65.alloc | apply IsS65.drewN | apply IsS65.drew | apply IsS65.set_1 | refine IsS65.far ?_ NB126_133.out _) | exact HI126.out)⟩, ⟨by repeat (first | (with_reducible first | exact HB.out | apply below_alloc | apply pw_below_drewN | apply below_drew1 | refine below_set ?_ (IsS65.ge HI126.out) | refine below_set ?_ GE133.out) | exact HB.out)⟩, ⟨of_decide_eq_true c33b0⟩⟩
                    rw [if_neg c36] at H
                    have c36b0 : decide (t145 < 0) = false := decide_eq_false c36
                    clear c36
                    refine pure_ (i := 10) (N := some 55) (v := ?_) (a' := ?_) #[true, true, true, true, true, true, true, true, true, true, true, false] rfl rfl (any_of HT_.out (by kernel_rfl)) (fun _ _ _ h => h) (Or.inl ⟨by rfl, ?_⟩) ?_ ?_
                    rotate_left
                    ·intro w'
                     go_simp
                     with_reducible rfl
                    rotate_left
                    ·simp only [Act.put, List.setIfInBounds_toArray, List.set_cons_zero, List.set_cons_succ, i64_w, i32_w]
                     rfl
                    refine pure_ (i := 11) (N := some 56) (v := ?_) (a' := ?_) #[true, true, true, true, true, true, true, true, true, true, true, true] rfl rfl (any_of HT_.out (by kernel_rfl)) (fun _ _ _ h => h) (Or.inl ⟨by rfl, ?_⟩) ?_ ?_
                    rotate_left
                    ·intro w'
                     go_simp
                     with_reducible rfl
                    rotate_left
                    ·simp only [Act.put, List.setIfInBounds_toArray, List.set_cons_zero, List.set_cons_succ, i64_w, i32_w]
                     rfl
                    refine done_ (done_of HT_.out (by kernel_rfl)) ?_
                    go_wp2
                    go_meet
                    case rel => exact ⟨x9_3, k3, (by first | rfl | (simp; done) | (simp [*]; done)), ⟨by unfold corporalaw27_list.tail; have n_ : ¬ x9_3 = 0 := (by have h_ := of_decide_eq_true c31b0; omega); rw [if_neg n_] at H ⊢; rw [hji32, if_pos (of_decide_eq_true c33b0), if_pos (of_decide_eq_true c34b0)]; exact H⟩, ⟨HK3.out⟩, ⟨by (with_reducible repeat (first | apply Kd.N_alloc | apply Kd.N_drewN | apply Kd.N_drew)); exact HO_5.out⟩, ⟨by (with_reducible repeat (first | apply Kd.R_alloc | apply Kd.R_drewN | apply Kd.R_drew)); exact HO_134002.out⟩, ⟨by (with_reducible repeat (first | refine blk_drewN ?_ _ | refine blk_drew ?_ | refine blk_alloc ?_ _)); exact BK133.out⟩, ⟨by repeat (first | (with_reducible first | exact HI126.out | apply IsS65.alloc | apply IsS65.drewN | apply IsS65.drew | apply IsS65.set_1 | refine IsS65.far ?_ NB126_133.out _) | exact HI126.out)⟩, ⟨by repeat (first | (with_reducible first | exact HB.out | apply below_alloc | apply pw_below_drewN | apply below_drew1 | refine below_set ?_ (IsS65.ge HI126.out) | refine below_set ?_ GE133.out) | exact HB.out)⟩, ⟨HN9.out⟩⟩
                   rw [if_neg c34] at H
                   exact absurd H (by simp)
                  rw [if_neg c33] at H
                  exact absurd H (by simp)
                 rw [if_neg c31] at H
                 have c31b0 : decide (0 < x9_3) = false := decide_eq_false c31
                 clear c31
                 try go_wp2
                 have n0_ := Aside0.mk (Kd.N_drew HO_5.out)
                 have n1_ := Aside0.mk (Kd.R_drew HO_134002.out)
                 have n2_ := Aside0.mk (blk_drew BK133.out)
                 have n3_ := Aside0.mk (IsS65.drew HI126.out)
                 have n4_ := Aside0.mk (below_drew1 HB.out)
                 clear HO_5
                 clear HO_134002
                 clear BK133
                 clear HI126
                 clear HB
                 have HO_5 := n0_
                 have HO_134002 := n1_
                 have BK133 := n2_
                 have HI126 := n3_
                 have HB := n4_
                 clear n0_ n1_ n2_ n3_ n4_
                 refine start_ (n := 12) (S := fun w' => True) (ds := []) #[false, false, false, false, false, false, false, false, false, false, false, false] (by kernel_rfl) rfl rfl trivial (fun hHeld => ?_); refine with_tabW corporalaw27_list.tab14 corporalaw27_list.bits14 (fun HT_ HW_ => ?_)
                 generalize wr.drew = w103 at HO_5 HO_134002 BK133 HI126 HB hHeld ⊢
                 refine pure_ (i := 0) (N := some 45) (v := ?_) (a' := ?_) #[true, false, false, false, false, false, false, false, false, false, false, false] rfl rfl (any_of HT_.out (by kernel_rfl)) (fun _ _ _ h => h) (Or.inl ⟨by rfl, ?_⟩) ?_ ?_
                 rotate_left
                 ·intro w'
                  go_simp
                  with_reducible rfl
                 rotate_left
                 ·simp only [Act.put, List.setIfInBounds_toArray, List.set_cons_zero, List.set_cons_succ, i64_w, i32_w]
                  rfl
                 refine pure_ (i := 1) (N := some 46) (v := ?_) (a' := ?_) #[true, true, false, false, false, false, false, false, false, false, false, false] rfl rfl (any_of HT_.out (by kernel_rfl)) (fun _ _ _ h => h) (Or.inl ⟨by rfl, ?_⟩) ?_ ?_
                 rotate_left
                 ·intro w'
                  go_simp
                  with_reducible rfl
                 rotate_left
                 ·simp only [Act.put, List.setIfInBounds_toArray, List.set_cons_zero, List.set_cons_succ, i64_w, i32_w]
                  rfl
                 refine pure_ (i := 2) (N := some 47) (v := ?_) (a' := ?_) #[true, true, true, false, false, false, false, false, false, false, false, false] rfl rfl (any_of HT_.out (by kernel_rfl)) (fun _ _ _ h => h) (Or.inl ⟨by rfl, ?_⟩) ?_ ?_
                 rotate_left
                 ·intro w'
                  go_simp
                  with_reducible rfl
                 rotate_left
                 ·simp only [Act.put, List.setIfInBounds_toArray, List.set_cons_zero, List.set_cons_succ, i64_w, i32_w]
                  rfl
                 refine pure_ (i := 3) (N := some 48) (v := undef) (a' := ?_) #[true, true, true, true, false, false, false, false, false, false, false, false] rfl rfl (any_of HT_.out (by kernel_rfl)) (fun _ _ _ h => h) (Or.inr ⟨by rfl, rfl⟩) ?_ ?_
                 rotate_left
                 ·simp only [Act.put, List.setIfInBounds_toArray, List.set_cons_zero, List.set_cons_succ, i64_w, i32_w]
                  rfl
                 refine pure_ (i := 4) (N := some 49) (v := undef) (a' := ?_) #[true, true, true, true, true, false, false, false, false, false, false, false] rfl rfl (any_of HT_.out (by kernel_rfl)) (fun _ _ _ h => h) (Or.inr ⟨by rfl, rfl⟩) ?_ ?_
                 rotate_left
                 ·simp only [Act.put, List.setIfInBounds_toArray, List.set_cons_zero, List.set_cons_succ, i64_w, i32_w]
                  rfl
                 refine pure_ (i := 5) (N := some 50) (v := undef) (a' := ?_) #[true, true, true, true, true, true, false, false, false, false, false, false] rfl rfl (any_of HT_.out (by kernel_rfl)) (fun _ _ _ h => h) (Or.inr ⟨by rfl, rfl⟩) ?_ ?_
                 rotate_left
                 ·simp only [Act.put, List.setIfInBounds_toArray, List.set_cons_zero, List.set_cons_succ, i64_w, i32_w]
                  rfl
                 refine pure_ (i := 6) (N := some 51) (v := undef) (a' := ?_) #[true, true, true, true, true, true, true, false, false, false, false, false] rfl rfl (any_of HT_.out (by kernel_rfl)) (fun _ _ _ h => h) (Or.inr ⟨by rfl, rfl⟩) ?_ ?_
                 rotate_left
                 ·simp only [Act.put, List.setIfInBounds_toArray, List.set_cons_zero, List.set_cons_succ, i64_w, i32_w]
                  rfl
                 refine pure_ (i := 7) (N := some 52) (v := undef) (a' := ?_) #[true, true, true, true, true, true, true, true, false, false, false, false] rfl rfl (any_of HT_.out (by kernel_rfl)) (fun _ _ _ h => h) (Or.inr ⟨by rfl, rfl⟩) ?_ ?_
                 rotate_left
                 ·simp only [Act.put, List.setIfInBounds_toArray, List.set_cons_zero, List.set_cons_succ, i64_w, i32_w]
                  rfl
                 refine pure_ (i := 8) (N := some 53) (v := undef) (a' := ?_) #[true, true, true, true, true, true, true, true, true, false, false, false] rfl rfl (any_of HT_.out (by kernel_rfl)) (fun _ _ _ h => h) (Or.inr ⟨by rfl, rfl⟩) ?_ ?_
                 rotate_left
                 ·simp only [Act.put, List.setIfInBounds_toArray, List.set_cons_zero, List.set_cons_succ, i64_w, i32_w]
                  rfl
                 refine pure_ (i := 9) (N := some 54) (v := undef) (a' := ?_) #[true, true, true, true, true, true, true, true, true, true, false, false] rfl rfl (any_of HT_.out (by kernel_rfl)) (fun _ _ _ h => h) (Or.inr ⟨by rfl, rfl⟩) ?_ ?_
                 rotate_left
                 ·simp only [Act.put, List.setIfInBounds_toArray, List.set_cons_zero, List.set_cons_succ, i64_w, i32_w]
                  rfl
                 refine pure_ (i := 10) (N := some 55) (v := undef) (a' := ?_) #[true, true, true, true, true, true, true, true, true, true, true, false] rfl rfl (any_of HT_.out (by kernel_rfl)) (fun _ _ _ h => h) (Or.inr ⟨by rfl, rfl⟩) ?_ ?_
                 rotate_left
                 ·simp only [Act.put, List.setIfInBounds_toArray, List.set_cons_zero, List.set_cons_succ, i64_w, i32_w]
                  rfl
                 refine pure_ (i := 11) (N := some 56) (v := ?_) (a' := ?_) #[true, true, true, true, true, true, true, true, true, true, true, true] rfl rfl (any_of HT_.out (by kernel_rfl)) (fun _ _ _ h => h) (Or.inl ⟨by rfl, ?_⟩) ?_ ?_
                 rotate_left
                 ·intro w'
                  go_simp
                  with_reducible rfl
                 rotate_left
                 ·simp only [Act.put, List.setIfInBounds_toArray, List.set_cons_zero, List.set_cons_succ, i64_w, i32_w]
                  rfl
                 refine done_ (done_of HT_.out (by kernel_rfl)) ?_
                 go_wp2
                 go_meet
                 case rel => exact ⟨x9_3, k3, (by first | rfl | (simp; done) | (simp [*]; done)), ⟨by unfold corporalaw27_list.tail; exact H⟩, ⟨HK3.out⟩, ⟨by (with_reducible repeat (first | apply Kd.N_alloc | apply Kd.N_drewN | apply Kd.N_drew)); exact HO_5.out⟩, ⟨by (with_reducible repeat (first | apply Kd.R_alloc | apply Kd.R_drewN | apply Kd.R_drew)); exact HO_134002.out⟩, ⟨by (with_reducible repeat (first | refine blk_drewN ?_ _ | refine blk_drew ?_ | refine blk_alloc ?_ _)); exact BK133.out⟩, ⟨by repeat (first | (with_reducible first | exact HI126.out | apply IsS65.alloc | apply IsS65.drewN | apply IsS65.drew | apply IsS65.set_1 | refine IsS65.far ?_ NB126_133.out _) | exact HI126.out)⟩, ⟨by repeat (first | (with_reducible first | exact HB.out | apply below_alloc | apply pw_below_drewN | apply below_drew1 | refine below_set ?_ (IsS65.ge HI126.out) | refine below_set ?_ GE133.out) | exact HB.out)⟩, ⟨HN9.out⟩⟩
           case rest =>
             skip
             obtain ⟨x9_3, k3, rfl, HA, HK3, HO_5, HO_134002, BK133, HI126, HB, HN9⟩ := hcut
             have H := HA.out
             clear HA
             unfold corporalaw27_list.tail at H
             go_upto_region 16 with (fail)
             go_cut [70] (fun v70 wc => ∃ (y_ : Bool), v70 = .bool y_ ∧ Aside0 ((if y_ = true then ((some (([] : List (S38)) : List (S38))).bind fun y198 => (if 0 ≤ x9_3 then (if x9_3 ≤ (x5_1.length : Int) then ((some (x5_1.take (x9_3 : Int).toNat : List (S38))).bind fun y201 => (if y198.length + y201.length < 3518437208883 then ((some (y198 ++ y201 : List (S38))).bind fun y206 => ((some (([(⟨t131, (wrap64 ((wrap64 (t131 + 1)) + t134)), x134002_2⟩ : S38)] : List (S38)) : List (S38))).bind fun y209 => (if y206.length + y209.length < 3518437208883 then ((some (y206 ++ y209 : List (S38))).bind fun y212 => ((some (x5_1.drop (x9_3 : Int).toNat : List (S38))).bind fun y215 => (if y212.length + y215.length < 3518437208883 then (corporalaw27_list.l0 k3 t127 (y212 ++ y215) (wrap64 (x6_1 - 1)) t124 x127001_2) else (none)))) else (none)))) else (none))) else (none)) else (none))) else (corporalaw27_list.l0 k3 t127 x5_1 (wrap64 (x6_1 - 1)) t124 x127001_2)) = some r) ∧ Aside0 (Kd.N k38 38 wc w.heap.size (fun k_ => (w.heap.size ≤ k_) ∧ some k_ ≠ (u134002 : Value).ownBlock ∧ k_ ≠ gb133 ∧ k_ ≠ g126) (.slice Ao30 x5_1.length co30) x5_1) ∧ Aside0 (Kd.R (Kd.int .i64) 3 wc w.heap.size (fun k_ => (w.heap.size ≤ k_)) u134002 x134002_2) ∧ Aside0 (wc.heap[gb133]? = some (.cells #[.int .i64 t131, .int .i64 (wrap64 ((wrap64 (t131 + 1)) + t134)), u134002] 38 (0, 0))) ∧ Aside0 (IsS65 w wc g126 t124 x127001_2) ∧ Aside0 (Below w.heap.size w wc))
             case first =>
               by_cases c95 : x9_3 = 0
               ·rw [if_pos c95] at H
                have c95b0 : (x9_3 == 0) = true := beq_iff_eq.mpr c95
                have c95b1 : (x9_3 != 0) = false := bne_eq_false_iff_eq.mpr c95
                clear c95
                try go_wp2
                have n0_ := Aside0.mk (Kd.N_drew HO_5.out)
                have n1_ := Aside0.mk (Kd.R_drew HO_134002.out)
                have n2_ := Aside0.mk (blk_drew BK133.out)
                have n3_ := Aside0.mk (IsS65.drew HI126.out)
                have n4_ := Aside0.mk (below_drew1 HB.out)
                clear HO_5
                clear HO_134002
                clear BK133
                clear HI126
                clear HB
                have HO_5 := n0_
                have HO_134002 := n1_
                have BK133 := n2_
                have HI126 := n3_
                have HB := n4_
                clear n0_ n1_ n2_ n3_ n4_
                refine start_ (n := 12) (S := fun w' => True) (ds := []) #[false, false, false, false, false, false, false, false, false, false, false, false] (by kernel_rfl) rfl rfl trivial (fun hHeld => ?_); refine with_tabW corporalaw27_list.tab16 corporalaw27_list.bits16 (fun HT_ HW_ => ?_)
                generalize wc.drew = w104 at HO_5 HO_134002 BK133 HI126 HB hHeld ⊢
                refine pure_ (i := 0) (N := some 59) (v := ?_) (a' := ?_) #[true, false, false, false, false, false, false, false, false, false, false, false] rfl rfl (any_of HT_.out (by kernel_rfl)) (fun _ _ _ h => h) (Or.inl ⟨by rfl, ?_⟩) ?_ ?_
                rotate_left
                ·intro w'
                 go_simp
                 with_reducible rfl
                rotate_left
                ·simp only [Act.put, List.setIfInBounds_toArray, List.set_cons_zero, List.set_cons_succ, i64_w, i32_w]
                 rfl
                refine pure_ (i := 1) (N := some 60) (v := ?_) (a' := ?_) #[true, true, false, false, false, false, false, false, false, false, false, false] rfl rfl (any_of HT_.out (by kernel_rfl)) (fun _ _ _ h => h) (Or.inl ⟨by rfl, ?_⟩) ?_ ?_
                rotate_left
                ·intro w'
                 go_simp
                 with_reducible rfl
                rotate_left
                ·simp only [Act.put, List.setIfInBounds_toArray, List.set_cons_zero, List.set_cons_succ, i64_w, i32_w]
                 rfl
                refine pure_ (i := 2) (N := some 61) (v := ?_) (a' := ?_) #[true, true, true, false, false, false, false, false, false, false, false, false] rfl rfl (any_of HT_.out (by kernel_rfl)) (fun _ _ _ h => h) (Or.inl ⟨by rfl, ?_⟩) ?_ ?_
                rotate_left
                ·intro w'
                 go_simp
                 with_reducible rfl
                rotate_left
                ·simp only [Act.put, List.setIfInBounds_toArray, List.set_cons_zero, List.set_cons_succ, i64_w, i32_w]
                 rfl
                refine pure_ (i := 3) (N := some 62) (v := undef) (a' := ?_) #[true, true, true, true, false, false, false, false, false, false, false, false] rfl rfl (any_of HT_.out (by kernel_rfl)) (fun _ _ _ h => h) (Or.inr ⟨by rfl, rfl⟩) ?_ ?_
                rotate_left
                ·simp only [Act.put, List.setIfInBounds_toArray, List.set_cons_zero, List.set_cons_succ, i64_w, i32_w]
                 rfl
                refine pure_ (i := 4) (N := some 63) (v := undef) (a' := ?_) #[true, true, true, true, true, false, false, false, false, false, false, false] rfl rfl (any_of HT_.out (by kernel_rfl)) (fun _ _ _ h => h) (Or.inr ⟨by rfl, rfl⟩) ?_ ?_
                rotate_left
                ·simp only [Act.put, List.setIfInBounds_toArray, List.set_cons_zero, List.set_cons_succ, i64_w, i32_w]
                 rfl
                refine pure_ (i := 5) (N := some 64) (v := undef) (a' := ?_) #[true, true, true, true, true, true, false, false, false, false, false, false] rfl rfl (any_of HT_.out (by kernel_rfl)) (fun _ _ _ h => h) (Or.inr ⟨by rfl, rfl⟩) ?_ ?_
                rotate_left
                ·simp only [Act.put, List.setIfInBounds_toArray, List.set_cons_zero, List.set_cons_succ, i64_w, i32_w]
                 rfl
                refine pure_ (i := 6) (N := some 65) (v := undef) (a' := ?_) #[true, true, true, true, true, true, true, false, false, false, false, false] rfl rfl (any_of HT_.out (by kernel_rfl)) (fun _ _ _ h => h) (Or.inr ⟨by rfl, rfl⟩) ?_ ?_
                rotate_left
                ·simp only [Act.put, List.setIfInBounds_toArray, List.set_cons_zero, List.set_cons_succ, i64_w, i32_w]
                 rfl
                refine pure_ (i := 7) (N := some 66) (v := undef) (a' := ?_) #[true, true, true, true, true, true, true, true, false, false, false, false] rfl rfl (any_of HT_.out (by kernel_rfl)) (fun _ _ _ h => h) (Or.inr ⟨by rfl, rfl⟩) ?_ ?_
                rotate_left
                ·simp only [Act.put, List.setIfInBounds_toArray, List.set_cons_zero, List.set_cons_succ, i64_w, i32_w]
                 rfl
                refine pure_ (i := 8) (N := some 67) (v := undef) (a' := ?_) #[true, true, true, true, true, true, true, true, true, false, false, false] rfl rfl (any_of HT_.out (by kernel_rfl)) (fun _ _ _ h => h) (Or.inr ⟨by rfl, rfl⟩) ?_ ?_
                rotate_left
                ·simp only [Act.put, List.setIfInBounds_toArray, List.set_cons_zero, List.set_cons_succ, i64_w, i32_w]
                 rfl
                refine pure_ (i := 9) (N := some 68) (v := undef) (a' := ?_) #[true, true, true, true, true, true, true, true, true, true, false, false] rfl rfl (any_of HT_.out (by kernel_rfl)) (fun _ _ _ h => h) (Or.inr ⟨by rfl, rfl⟩) ?_ ?_
                rotate_left
                ·simp only [Act.put, List.setIfInBounds_toArray, List.set_cons_zero, List.set_cons_succ, i64_w, i32_w]
                 rfl
                refine pure_ (i := 10) (N := some 69) (v := undef) (a' := ?_) #[true, true, true, true, true, true, true, true, true, true, true, false] rfl rfl (any_of HT_.out (by kernel_rfl)) (fun _ _ _ h => h) (Or.inr ⟨by rfl, rfl⟩) ?_ ?_
                rotate_left
                ·simp only [Act.put, List.setIfInBounds_toArray, List.set_cons_zero, List.set_cons_succ, i64_w, i32_w]
                 rfl
                refine pure_ (i := 11) (N := some 70) (v := ?_) (a' := ?_) #[true, true, true, true, true, true, true, true, true, true, true, true] rfl rfl (any_of HT_.out (by kernel_rfl)) (fun _ _ _ h => h) (Or.inl ⟨by rfl, ?_⟩) ?_ ?_
                rotate_left
                ·intro w'
                 go_simp
                 with_reducible rfl
                rotate_left
                ·simp only [Act.put, List.setIfInBounds_toArray, List.set_cons_zero, List.set_cons_succ, i64_w, i32_w]
                 rfl
                refine done_ (done_of HT_.out (by kernel_rfl)) ?_
                go_wp2
                go_meet
                case rel => exact ⟨true, (by first | rfl | (simp; done) | (simp [*]; done)), ⟨by rw [if_pos (by simp)]; exact H⟩, ⟨by (with_reducible repeat (first | apply Kd.N_alloc | apply Kd.N_drewN | apply Kd.N_drew)); exact HO_5.out⟩, ⟨by (with_reducible repeat (first | apply Kd.R_alloc | apply Kd.R_drewN | apply Kd.R_drew)); exact HO_134002.out⟩, ⟨by (with_reducible repeat (first | refine blk_drewN ?_ _ | refine blk_drew ?_ | refine blk_alloc ?_ _)); exact BK133.out⟩, ⟨by repeat (first | (with_reducible first | exact HI126.out | apply IsS65.alloc | apply IsS65.drewN | apply IsS65.drew | apply IsS65.set_1 | refine IsS65.far ?_ NB126_133.out _) | exact HI126.out)⟩, ⟨by repeat (first | (with_reducible first | exact HB.out | apply below_alloc | apply pw_below_drewN | apply below_drew1 | refine below_set ?_ (IsS65.ge HI126.out) | refine below_set ?_ GE133.out) | exact HB.out)⟩⟩
               rw [if_neg c95] at H
               have c40b0 : (x9_3 == 0) = false := beq_eq_false_iff_ne.mpr c95
               have c40b1 : (x9_3 != 0) = true := bne_iff_ne.mpr c95
               obtain ⟨ji32, hji32⟩ : ∃ j_ : Int, (wrap64 (x9_3 - 1)) = j_ := ⟨_, rfl⟩
               simp only [hji32] at H
               have hji32w : (IntKind.i64.wrap (x9_3 - 1)) = ji32 := (i64_w _).trans hji32
               by_cases c33 : 0 ≤ (ji32)
               ·rw [if_pos c33] at H
                have c33b0 : decide (0 ≤ (ji32)) = true := decide_eq_true c33
                clear c33
                by_cases c34 : (ji32) < (x5_1.length : Int)
                ·rw [if_pos c34] at H
                 have c34b0 : decide ((ji32) < (x5_1.length : Int)) = true := decide_eq_true c34
                 clear c34
                 replace H := Option.bind_eq_some_iff.mp H
                 obtain ⟨t172, A640, H⟩ := H
                 have A64 := Aside0.mk A640
                 clear A640
                 have p144 : 0 ≤ ((ji32) : Int) := of_decide_eq_true (by first | (with_reducible assumption) | assumption)
                 have q144 : (ji32) < (x5_1.length : Int) := of_decide_eq_true (by first | (with_reducible assumption) | assumption)
                 obtain ⟨ad144, A144_2, c144_2, e144, hx144_0, hx144_1, hx144_2, hl144_2, hi144_2⟩ := at_T38 (Kd.N_reads' HO_5.out).2.2 (ji32) p144 q144
                 cases e144
                 obtain ⟨ce144, hce144, hMe144, hcc144⟩ := Kd.N_get HO_5.out z38 (ji32) p144 (by first | exact q144 | exact of_decide_eq_true (by first | (with_reducible assumption) | assumption) | (have e_ := (Kd.N_reads' HO_5.out).1; omega))
                 obtain ⟨ua144_2, uc144_2, rfl, ul144_2, ge144_2⟩ := k38_openF hMe144
                 have hv144_2 := hcc144 2 _ rfl
                 rw [add_field _ _ 2 (by omega)] at hv144_2
                 replace hv144_2 := Option.some.inj (hv144_2.symm.trans hx144_2)
                 injection hv144_2 with hva_ hvn_ hvc_
                 rw [hva_] at ge144_2
                 rw [hvc_] at ul144_2
                 have HL144_2 := Aside0.mk (show Kd.V (Kd.int .i64) 3 _ w.heap.size _ _ ((rd_T38 x5_1 (ji32)).f2) from Kd.V_mk ul144_2 ge144_2)
                 clear hva_ hvn_ hvc_ ge144_2 ul144_2
                 clear hcc144 hce144
                 have HR144_2 := Aside0.mk hi144_2
                 have HC144_2 := Aside0.mk hl144_2
                 clear hi144_2 hl144_2
                 replace p144 := eq_true p144
                 replace q144 := eq_true q144
                 obtain ⟨Ao67, co67, eo67⟩ := Kd.R_slice HO_134002.out
                 (first | subst eo67 | (injection eo67 with f1_ f2_ f3_; have f4_ := f1_.symm; have f5_ := f3_.symm; clear f1_ f2_ f3_; subst f4_; subst f5_))
                 try go_wp2
                 have n0_ := Aside0.mk (Kd.N_drew HO_5.out)
                 have n1_ := Aside0.mk (Kd.R_drew HO_134002.out)
                 have n2_ := Aside0.mk (Kd.V_drew HL144_2.out)
                 have n3_ := Aside0.mk (blk_drew BK133.out)
                 have n4_ := Aside0.mk (Kd.C_drew HR144_2.out)
                 have n5_ := Aside0.mk (IsS65.drew HI126.out)
                 have n6_ := Aside0.mk (below_drew1 HB.out)
                 clear HO_5
                 clear HO_134002
                 clear HL144_2
                 clear BK133
                 clear HR144_2
                 clear HI126
                 clear HB
                 have HO_5 := n0_
                 have HO_134002 := n1_
                 have HL144_2 := n2_
                 have BK133 := n3_
                 have HR144_2 := n4_
                 have HI126 := n5_
                 have HB := n6_
                 clear n0_ n1_ n2_ n3_ n4_ n5_ n6_
                 have p171 : 0 ≤ ((ji32) : Int) := of_decide_eq_true (by first | (with_reducible assumption) | assumption)
                 have q171 : (ji32) < (x5_1.length : Int) := of_decide_eq_true (by first | (with_reducible assumption) | assumption)
                 obtain ⟨ad171, A171_2, c171_2, e171, hx171_0, hx171_1, hx171_2, hl171_2, hi171_2⟩ := at_T38 (Kd.N_reads' HO_5.out).2.2 (ji32) p171 q171
                 obtain rfl : ad144 = ad171 := (by injection e171)
                 obtain ⟨ce171, hce171, hMe171, hcc171⟩ := Kd.N_get HO_5.out z38 (ji32) p171 (by first | exact q171 | exact of_decide_eq_true (by first | (with_reducible assumption) | assumption) | (have e_ := (Kd.N_reads' HO_5.out).1; omega))
                 obtain ⟨ua171_2, uc171_2, rfl, ul171_2, ge171_2⟩ := k38_openF hMe171
                 have hv171_2 := hcc171 2 _ rfl
                 rw [add_field _ _ 2 (by omega)] at hv171_2
                 replace hv171_2 := Option.some.inj (hv171_2.symm.trans hx171_2)
                 injection hv171_2 with hva_ hvn_ hvc_
                 rw [hva_] at ge171_2
                 rw [hvc_] at ul171_2
                 have HL171_2 := Aside0.mk (show Kd.V (Kd.int .i64) 3 _ w.heap.size _ _ ((rd_T38 x5_1 (ji32)).f2) from Kd.V_mk ul171_2 ge171_2)
                 clear hva_ hvn_ hvc_ ge171_2 ul171_2
                 clear hcc171 hce171
                 have HR171_2 := Aside0.mk hi171_2
                 have HC171_2 := Aside0.mk hl171_2
                 clear hi171_2 hl171_2
                 replace p171 := eq_true p171
                 replace q171 := eq_true q171
                 refine start_ (n := 12) (S := fun w' => w'.cell? ⟨gb133, 0, none⟩ = some (.int .i64 t131) ∧ w'.cell? ⟨gb133, 1, none⟩ = some (.int .i64 (wrap64 ((wrap64 (t131 + 1)) + t134))) ∧ w'.cell? ⟨gb133, 2, none⟩ = some (.slice Ao67 x134002_2.length co67) ∧ w'.cell? (ad144.add (((ji32)).toNat * 3)) = some (.int .i64 ((rd_T38 x5_1 (ji32)).f0)) ∧ w'.cell? ⟨(ad144.add (((ji32)).toNat * 3)).block, (ad144.add (((ji32)).toNat * 3)).off + 1, none⟩ = some (.int .i64 ((rd_T38 x5_1 (ji32)).f1)) ∧ w'.cell? ⟨(ad144.add (((ji32)).toNat * 3)).block, (ad144.add (((ji32)).toNat * 3)).off + 2, none⟩ = some (.slice A171_2 ((rd_T38 x5_1 (ji32)).f2).length c171_2)) (ds := []) #[false, false, false, false, false, false, false, false, false, false, false, false] (by kernel_rfl) rfl rfl ⟨(blk_cell BK133.out 0).trans rfl, (blk_cell BK133.out 1).trans rfl, (blk_cell BK133.out 2).trans rfl, hx171_0, hx171_1, hx171_2⟩ (fun hHeld => ?_); refine with_tabW corporalaw27_list.tab16 corporalaw27_list.bits16 (fun HT_ HW_ => ?_)
                 generalize wc.drew = w69 at HO_5 HO_134002 HL144_2 BK133 HR144_2 HI126 HB HL171_2 HR171_2 hx171_0 hx171_1 hx171_2 hHeld ⊢
                 refine pure_ (i := 0) (N := some 59) (v := ?_) (a' := ?_) #[true, false, false, false, false, false, false, false, false, false, false, false] rfl rfl (any_of HT_.out (by kernel_rfl)) (fun _ _ _ h => h) (Or.inl ⟨by rfl, ?_⟩) ?_ ?_
                 rotate_left
                 ·intro w'
                  go_simp
                  with_reducible rfl
                 rotate_left
                 ·simp only [Act.put, List.setIfInBounds_toArray, List.set_cons_zero, List.set_cons_succ, i64_w, i32_w]
                  rfl
                 refine pure_ (i := 1) (N := some 60) (v := ?_) (a' := ?_) #[true, true, false, false, false, false, false, false, false, false, false, false] rfl rfl (any_of HT_.out (by kernel_rfl)) (fun _ _ _ h => h) (Or.inl ⟨by rfl, ?_⟩) ?_ ?_
                 rotate_left
                 ·intro w'
                  go_simp
                  with_reducible rfl
                 rotate_left
                 ·simp only [Act.put, List.setIfInBounds_toArray, List.set_cons_zero, List.set_cons_succ, i64_w, i32_w]
                  rfl
                 refine pure_ (i := 2) (N := some 61) (v := ?_) (a' := ?_) #[true, true, true, false, false, false, false, false, false, false, false, false] rfl rfl (any_of HT_.out (by kernel_rfl)) (fun _ _ _ h => h) (Or.inl ⟨by rfl, ?_⟩) ?_ ?_
                 rotate_left
                 ·intro w'
                  go_simp
                  with_reducible rfl
                 rotate_left
                 ·simp only [Act.put, List.setIfInBounds_toArray, List.set_cons_zero, List.set_cons_succ, i64_w, i32_w]
                  rfl
                 refine pure_ (i := 4) (N := some 63) (v := ?_) (a' := ?_) #[true, true, true, false, true, false, false, false, false, false, false, false] rfl rfl (any_of HT_.out (by kernel_rfl)) (fun _ _ _ h => h) (Or.inl ⟨by rfl, ?_⟩) ?_ ?_
                 rotate_left
                 ·intro w'
                  go_simp
                  with_reducible rfl
                 rotate_left
                 ·simp only [Act.put, List.setIfInBounds_toArray, List.set_cons_zero, List.set_cons_succ, i64_w, i32_w]
                  rfl
                 refine pure_ (i := 5) (N := some 64) (v := ?_) (a' := ?_) #[true, true, true, false, true, true, false, false, false, false, false, false] rfl rfl (any_of HT_.out (by kernel_rfl)) (fun _ _ _ h => h) (Or.inl ⟨by rfl, ?_⟩) ?_ ?_
                 rotate_left
                 ·intro w'
                  go_simp
                  with_reducible rfl
                 rotate_left
                 ·simp only [Act.put, List.setIfInBounds_toArray, List.set_cons_zero, List.set_cons_succ, i64_w, i32_w]
                  rfl
                 refine pure_ (i := 6) (N := some 65) (v := ?_) (a' := ?_) #[true, true, true, false, true, true, true, false, false, false, false, false] rfl rfl (any_of HT_.out (by kernel_rfl)) (fun _ _ _ h => h) (Or.inl ⟨by rfl, ?_⟩) ?_ ?_
                 rotate_left
                 ·intro w'
                  go_simp
                  with_reducible rfl
                 rotate_left
                 ·simp only [Act.put, List.setIfInBounds_toArray, List.set_cons_zero, List.set_cons_succ, i64_w, i32_w]
                  rfl
                 refine pure_ (i := 7) (N := some 66) (v := ?_) (a' := ?_) #[true, true, true, false, true, true, true, true, false, false, false, false] rfl rfl (any_of HT_.out (by kernel_rfl)) (fun _ _ _ h => h) (Or.inl ⟨by rfl, ?_⟩) ?_ ?_
                 rotate_left
                 ·intro w'
                  go_simp
                  with_reducible rfl
                 rotate_left
                 ·simp only [Act.put, List.setIfInBounds_toArray, List.set_cons_zero, List.set_cons_succ, i64_w, i32_w]
                  rfl
                 refine take_ (i := 3) (N := some 62) (v := ?_) (a' := ?_) #[true, true, true, true, true, true, true, true, false, false, false, false] rfl rfl (take_ofW HT_.out HW_.out (by kernel_rfl)) (fun _ _ _ h => h) (Or.inl ⟨by rfl, ?_⟩) hHeld ?_ ?_
                 rotate_left
                 ·rintro w' ⟨s0, s1, s2, s3, s4, s5⟩
                  go_simp
                  with_reducible rfl
                 rotate_left
                 ·simp only [Act.put, List.setIfInBounds_toArray, List.set_cons_zero, List.set_cons_succ, i64_w, i32_w]
                  rfl
                 refine take_ (i := 8) (N := some 67) (v := ?_) (a' := ?_) #[true, true, true, true, true, true, true, true, true, false, false, false] rfl rfl (take_ofW HT_.out HW_.out (by kernel_rfl)) (fun _ _ _ h => h) (Or.inl ⟨by rfl, ?_⟩) hHeld ?_ ?_
                 rotate_left
                 ·rintro w' ⟨s0, s1, s2, s3, s4, s5⟩
                  go_simp
                  with_reducible rfl
                 rotate_left
                 ·simp only [Act.put, List.setIfInBounds_toArray, List.set_cons_zero, List.set_cons_succ, i64_w, i32_w]
                  rfl
                 refine one_ (i := 9) (N := some 68) #[true, true, true, true, true, true, true, true, true, true, false, false] rfl rfl (one_of HT_.out (by kernel_rfl)) (by decide) (fun K hK => ?_)
                 refine goes_ Try.func23 (by kernel_rfl) rfl #[.agg #[.int .i64 t131, .int .i64 (wrap64 ((wrap64 (t131 + 1)) + t134)), .slice Ao67 x134002_2.length co67], .agg #[.int .i64 ((rd_T38 x5_1 (ji32)).f0), .int .i64 ((rd_T38 x5_1 (ji32)).f1), .slice A171_2 ((rd_T38 x5_1 (ji32)).f2).length c171_2]] (by rfl) rfl rfl (by (try simp only [List.map_toArray, List.map_cons, List.map_nil]); first | done | (simp only [hji32]; rfl) | rfl | (simp only [List.length_drop, List.length_take]; rfl)) ?_
                 with_reducible refine (corporaref24_Compare.calls k3 t131 (wrap64 ((wrap64 (t131 + 1)) + t134)) _ _ x134002_2 ((rd_T38 x5_1 (ji32)).f0) ((rd_T38 x5_1 (ji32)).f1) _ _ ((rd_T38 x5_1 (ji32)).f2) t172 _ ?side1 ?side2 ?side3 ?side4 A64.out).mono ?_
                 (case side1 => repeat (first | exact (Kd.R_reads' HO_134002.out).2.2 | (with_reducible refine Kd.C_alloc ?_ _) | (with_reducible refine Kd.C_drewN ?_ _) | (with_reducible refine Kd.C_drew ?_)))
                 (case side2 => exact (Kd.R_reads' HO_134002.out).2.1)
                 (case side3 => repeat (first | exact (by repeat (first | (with_reducible exact HR171_2.out) | (with_reducible refine Kd.C_alloc ?_ _) | (with_reducible refine Kd.C_drewN ?_ _) | (with_reducible refine Kd.C_drew ?_) | exact HR171_2.out)) | (with_reducible refine Kd.C_alloc ?_ _) | (with_reducible refine Kd.C_drewN ?_ _) | (with_reducible refine Kd.C_drew ?_)))
                 (case side4 => exact HC171_2.out)
                 rintro e w70 ⟨rfl, hb⟩
                 have HS3_ := (hb.cell (World.block_lt_of_cell? _ _ (hHeld.2.2.2.1))).trans (hHeld.2.2.2.1)
                 have HS4_ := (hb.cell (World.block_lt_of_cell? _ _ (hHeld.2.2.2.2.1))).trans (hHeld.2.2.2.2.1)
                 have HS5_ := (hb.cell (World.block_lt_of_cell? _ _ (hHeld.2.2.2.2.2))).trans (hHeld.2.2.2.2.2)
                 refine ⟨_, rfl, ?_⟩
                 have n0_ := Aside0.mk (Kd.N_below (by (with_reducible repeat (first | apply Kd.N_alloc | apply Kd.N_drewN | apply Kd.N_drew)); exact HO_5.out) hb)
                 have n1_ := Aside0.mk (Kd.R_below (by (with_reducible repeat (first | apply Kd.R_alloc | apply Kd.R_drewN | apply Kd.R_drew)); exact HO_134002.out) hb)
                 have n2_ := Aside0.mk (Kd.V_below (by (with_reducible repeat (first | apply Kd.V_alloc | apply Kd.V_drewN | apply Kd.V_drew)); exact HL144_2.out) hb)
                 have n3_ := Aside0.mk (Kd.V_below (by (with_reducible repeat (first | apply Kd.V_alloc | apply Kd.V_drewN | apply Kd.V_drew)); exact HL171_2.out) hb)
                 have n4_ := Aside0.mk (blk_below (g := gb133) (o := .cells #[.int .i64 t131, .int .i64 (wrap64 ((wrap64 (t131 + 1)) + t134)), .slice Ao67 x134002_2.length co67] 38 (0, 0)) (by (with_reducible repeat (first | refine blk_drewN ?_ _ | refine blk_drew ?_ | refine blk_alloc ?_ _)); exact BK133.out) hb)
                 have n5_ := Aside0.mk (IsS65.below (by repeat (first | (with_reducible first | exact HI126.out | apply IsS65.alloc | apply IsS65.drewN | apply IsS65.drew | apply IsS65.set_1 | refine IsS65.far ?_ NB126_133.out _) | exact HI126.out)) hb)
                 have n6_ := Aside0.mk (Kd.C_below (by repeat (first | (with_reducible exact HR144_2.out) | (with_reducible refine Kd.C_alloc ?_ _) | (with_reducible refine Kd.C_drewN ?_ _) | (with_reducible refine Kd.C_drew ?_) | exact HR144_2.out)) hb)
                 have n7_ := Aside0.mk (Kd.C_below (by repeat (first | (with_reducible exact HR171_2.out) | (with_reducible refine Kd.C_alloc ?_ _) | (with_reducible refine Kd.C_drewN ?_ _) | (with_reducible refine Kd.C_drew ?_) | exact HR171_2.out)) hb)
                 have n8_ := Aside0.mk (below_step (by repeat (first | (with_reducible first | exact HB.out | apply below_alloc | apply pw_below_drewN | apply below_drew1 | refine below_set ?_ (IsS65.ge HI126.out) | refine below_set ?_ GE133.out) | exact HB.out)) hb)
                 clear HO_5
                 clear HO_134002
                 clear HL144_2
                 clear HL171_2
                 clear BK133
                 clear HI126
                 clear HR144_2
                 clear HR171_2
                 clear HB
                 have HO_5 := n0_
                 have HO_134002 := n1_
                 have HL144_2 := n2_
                 have HL171_2 := n3_
                 have BK133 := n4_
                 have HI126 := n5_
                 have HR144_2 := n6_
                 have HR171_2 := n7_
                 have HB := n8_
                 clear n0_ n1_ n2_ n3_ n4_ n5_ n6_ n7_ n8_
                 (try clear hb)
                 (try clear hb2)
                 (try clear hk)
                 (try clear hi)
                 refine hK.out _ _ ⟨(blk_cell BK133.out 0).trans rfl, (blk_cell BK133.out 1).trans rfl, (blk_cell BK133.out 2).trans rfl, HS3_, HS4_, HS5_⟩ (fun hHeld => ?_)
                 clear hK K
                 refine norm_ (a' := ?_) ?_ ?_
                 rotate_left
                 ·show Act.put _ (some 68) _ = _
                  simp only [Act.put, List.setIfInBounds_toArray, List.set_cons_zero, List.set_cons_succ, i64_w, i32_w]
                  rfl
                 by_cases c65 : t172 = 0
                 ·rw [if_pos c65] at H
                  have c65b0 : (t172 == 0) = true := beq_iff_eq.mpr c65
                  have c65b1 : (t172 != 0) = false := bne_eq_false_iff_eq.mpr c65
                  clear c65
                  refine pure_ (i := 10) (N := some 69) (v := ?_) (a' := ?_) #[true, true, true, true, true, true, true, true, true, true, true, false] rfl rfl (any_of HT_.out (by kernel_rfl)) (fun _ _ _ h => h) (Or.inl ⟨by rfl, ?_⟩) ?_ ?_
                  rotate_left
                  ·intro w'
                   go_simp
                   with_reducible rfl
                  rotate_left
                  ·simp only [Act.put, List.setIfInBounds_toArray, List.set_cons_zero, List.set_cons_succ, i64_w, i32_w]
                   rfl
                  refine pure_ (i := 11) (N := some 70) (v := ?_) (a' := ?_) #[true, true, true, true, true, true, true, true, true, true, true, true] rfl rfl (any_of HT_.out (by kernel_rfl)) (fun _ _ _ h => h) (Or.inl ⟨by rfl, ?_⟩) ?_ ?_
                  rotate_left
                  ·intro w'
                   go_simp
                   with_reducible rfl
                  rotate_left
                  ·simp only [Act.put, List.setIfInBounds_toArray, List.set_cons_zero, List.set_cons_succ, i64_w, i32_w]
                   rfl
                  refine done_ (done_of HT_.out (by kernel_rfl)) ?_
                  go_wp2
                  go_meet
                  case rel => exact ⟨false, (by first | rfl | (simp; done) | (simp [*]; done)), ⟨by rw [if_neg (by simp)]; exact H⟩, ⟨by (with_reducible repeat (first | apply Kd.N_alloc | apply Kd.N_drewN | apply Kd.N_drew)); exact HO_5.out⟩, ⟨by (with_reducible repeat (first | apply Kd.R_alloc | apply Kd.R_drewN | apply Kd.R_drew)); exact HO_134002.out⟩, ⟨by (with_reducible repeat (first | refine blk_drewN ?_ _ | refine blk_drew ?_ | refine blk_alloc ?_ _)); exact BK133.out⟩, ⟨by repeat (first | (with_reducible first | exact HI126.out | apply IsS65.alloc | apply IsS65.drewN | apply IsS65.drew | apply IsS65.set_1 | refine IsS65.far ?_ NB126_133.out _) | exact HI126.out)⟩, ⟨by repeat (first | (with_reducible first | exact HB.out | apply below_alloc | apply pw_below_drewN | apply below_drew1 | refine below_set ?_ (IsS65.ge HI126.out) | refine below_set ?_ GE133.out) | exact HB.out)⟩⟩
                 rw [if_neg c65] at H
                 have c65b0 : (t172 == 0) = false := beq_eq_false_iff_ne.mpr c65
                 have c65b1 : (t172 != 0) = true := bne_iff_ne.mpr c65
                 refine pure_ (i := 10) (N := some 69) (v := ?_) (a' := ?_) #[true, true, true, true, true, true, true, true, true, true, true, false] rfl rfl (any_of HT_.out (by kernel_rfl)) (fun _ _ _ h => h) (Or.inl ⟨by rfl, ?_⟩) ?_ ?_
                 rotate_left
                 ·intro w'
                  go_simp
                  with_reducible rfl
                 rotate_left
                 ·simp only [Act.put, List.setIfInBounds_toArray, List.set_cons_zero, List.set_cons_succ, i64_w, i32_w]
                  rfl
                 refine pure_ (i := 11) (N := some 70) (v := ?_) (a' := ?_) #[true, true, true, true, true, true, true, true, true, true, true, true] rfl rfl (any_of HT_.out (by kernel_rfl)) (fun _ _ _ h => h) (Or.inl ⟨by rfl, ?_⟩) ?_ ?_
                 rotate_left
                 ·intro w'
                  go_simp
                  with_reducible rfl
                 rotate_left
                 ·simp only [Act.put, List.setIfInBounds_toArray, List.set_cons_zero, List.set_cons_succ, i64_w, i32_w]
                  rfl
                 refine done_ (done_of HT_.out (by kernel_rfl)) ?_
                 go_wp2
                 go_meet
                 case rel => exact ⟨true, (by first | rfl | (simp; done) | (simp [*]; done)), ⟨by rw [if_pos (by simp)]; exact H⟩, ⟨by (with_reducible repeat (first | apply Kd.N_alloc | apply Kd.N_drewN | apply Kd.N_drew)); exact HO_5.out⟩, ⟨by (with_reducible repeat (first | apply Kd.R_alloc | apply Kd.R_drewN | apply Kd.R_drew)); exact HO_134002.out⟩, ⟨by (with_reducible repeat (first | refine blk_drewN ?_ _ | refine blk_drew ?_ | refine blk_alloc ?_ _)); exact BK133.out⟩, ⟨by repeat (first | (with_reducible first | exact HI126.out | apply IsS65.alloc | apply IsS65.drewN | apply IsS65.drew | apply IsS65.set_1 | refine IsS65.far ?_ NB126_133.out _) | exact HI126.out)⟩, ⟨by repeat (first | (with_reducible first | exact HB.out | apply below_alloc | apply pw_below_drewN | apply below_drew1 | refine below_set ?_ (IsS65.ge HI126.out) | refine below_set ?_ GE133.out) | exact HB.out)⟩⟩
                rw [if_neg c34] at H
                exact absurd H (by simp)
               rw [if_neg c33] at H
               exact absurd H (by simp)
             case rest =>
               clear H HO_5 HO_134002 BK133 HI126 HB
               obtain ⟨y_, rfl, HA, HO_5, HO_134002, BK133, HI126, HB⟩ := hcut
               have H := HA.out
               clear HA
               cases y_ with
               | true =>
                 rw [if_pos rfl] at H
                 obtain ⟨Ao111, co111, eo111⟩ := Kd.R_slice HO_134002.out
                 subst eo111
                 obtain ⟨y198, hy198⟩ : ∃ y_ : List (S38), y_ = (([] : List (S38))) := ⟨_, rfl⟩
                 replace H : (if 0 ≤ x9_3 then (if x9_3 ≤ (x5_1.length : Int) then ((some (x5_1.take (x9_3 : Int).toNat : List (S38))).bind fun y201 => (if y198.length + y201.length < 3518437208883 then ((some (y198 ++ y201 : List (S38))).bind fun y206 => ((some (([(⟨t131, (wrap64 ((wrap64 (t131 + 1)) + t134)), x134002_2⟩ : S38)] : List (S38)) : List (S38))).bind fun y209 => (if y206.length + y209.length < 3518437208883 then ((some (y206 ++ y209 : List (S38))).bind fun y212 => ((some (x5_1.drop (x9_3 : Int).toNat : List (S38))).bind fun y215 => (if y212.length + y215.length < 3518437208883 then (corporalaw27_list.l0 k3 t127 (y212 ++ y215) (wrap64 (x6_1 - 1)) t124 x127001_2) else (none)))) else (none)))) else (none))) else (none)) else (none)) = some r := by first | (rw [hy198]; with_reducible exact H) | (have H2_ := (Option.bind_some _ _).symm.trans H; rw [hy198]; with_reducible exact H2_) | (have H2_ := (Option.bind_some _ _).symm.trans H; with_reducible exact H2_) | with_reducible exact H | (rw [hy198]; exact H) | exact H
                 have Ny198 := Aside0.mk hy198
                 clear hy198
                 by_cases c96 : 0 ≤ x9_3
                 ·rw [if_pos c96] at H
                  have c96b0 := eq_true c96
                  have c96b1 : decide (0 ≤ x9_3) = true := decide_eq_true c96
                  clear c96
                  by_cases c97 : x9_3 ≤ (x5_1.length : Int)
                  ·rw [if_pos c97] at H
                   have c97b0 := eq_true c97
                   have c97b1 : decide (x9_3 ≤ (x5_1.length : Int)) = true := decide_eq_true c97
                   clear c97
                   obtain ⟨y201, hy201⟩ : ∃ y_ : List (S38), y_ = (x5_1.take (x9_3 : Int).toNat) := ⟨_, rfl⟩
                   replace H : (if y198.length + y201.length < 3518437208883 then ((some (y198 ++ y201 : List (S38))).bind fun y206 => ((some (([(⟨t131, (wrap64 ((wrap64 (t131 + 1)) + t134)), x134002_2⟩ : S38)] : List (S38)) : List (S38))).bind fun y209 => (if y206.length + y209.length < 3518437208883 then ((some (y206 ++ y209 : List (S38))).bind fun y212 => ((some (x5_1.drop (x9_3 : Int).toNat : List (S38))).bind fun y215 => (if y212.length + y215.length < 3518437208883 then (corporalaw27_list.l0 k3 t127 (y212 ++ y215) (wrap64 (x6_1 - 1)) t124 x127001_2) else (none)))) else (none)))) else (none)) = some r := by first | (rw [hy201]; with_reducible exact H) | (have H2_ := (Option.bind_some _ _).symm.trans H; rw [hy201]; with_reducible exact H2_) | (have H2_ := (Option.bind_some _ _).symm.trans H; with_reducible exact H2_) | with_reducible exact H | (rw [hy201]; exact H) | exact H
                   have Ny201 := Aside0.mk hy201
                   clear hy201
                   by_cases c98 : y198.length + y201.length < 3518437208883
                   ·rw [if_pos c98] at H
                    have LMc98 := Aside0.mk c98
                    clear c98
                    obtain ⟨y206, hy206⟩ : ∃ y_ : List (S38), y_ = (y198 ++ y201) := ⟨_, rfl⟩
                    replace H : ((some (([(⟨t131, (wrap64 ((wrap64 (t131 + 1)) + t134)), x134002_2⟩ : S38)] : List (S38)) : List (S38))).bind fun y209 => (if y206.length + y209.length < 3518437208883 then ((some (y206 ++ y209 : List (S38))).bind fun y212 => ((some (x5_1.drop (x9_3 : Int).toNat : List (S38))).bind fun y215 => (if y212.length + y215.length < 3518437208883 then (corporalaw27_list.l0 k3 t127 (y212 ++ y215) (wrap64 (x6_1 - 1)) t124 x127001_2) else (none)))) else (none))) = some r := by first | (rw [hy206]; with_reducible exact H) | (have H2_ := (Option.bind_some _ _).symm.trans H; rw [hy206]; with_reducible exact H2_) | (have H2_ := (Option.bind_some _ _).symm.trans H; with_reducible exact H2_) | with_reducible exact H | (rw [hy206]; exact H) | exact H
                    have Ny206 := Aside0.mk hy206
                    clear hy206
                    obtain ⟨y209, hy209⟩ : ∃ y_ : List (S38), y_ = (([(⟨t131, (wrap64 ((wrap64 (t131 + 1)) + t134)), x134002_2⟩ : S38)] : List (S38))) := ⟨_, rfl⟩
                    replace H : (if y206.length + y209.length < 3518437208883 then ((some (y206 ++ y209 : List (S38))).bind fun y212 => ((some (x5_1.drop (x9_3 : Int).toNat : List (S38))).bind fun y215 => (if y212.length + y215.length < 3518437208883 then (corporalaw27_list.l0 k3 t127 (y212 ++ y215) (wrap64 (x6_1 - 1)) t124 x127001_2) else (none)))) else (none)) = some r := by first | (rw [hy209]; with_reducible exact H) | (have H2_ := (Option.bind_some _ _).symm.trans H; rw [hy209]; with_reducible exact H2_) | (have H2_ := (Option.bind_some _ _).symm.trans H; with_reducible exact H2_) | with_reducible exact H | (rw [hy209]; exact H) | exact H
                    have Ny209 := Aside0.mk hy209
                    clear hy209
                    by_cases c99 : y206.length + y209.length < 3518437208883
                    ·rw [if_pos c99] at H
                     have LMc99 := Aside0.mk c99
                     clear c99
                     obtain ⟨y212, hy212⟩ : ∃ y_ : List (S38), y_ = (y206 ++ y209) := ⟨_, rfl⟩
                     replace H : ((some (x5_1.drop (x9_3 : Int).toNat : List (S38))).bind fun y215 => (if y212.length + y215.length < 3518437208883 then (corporalaw27_list.l0 k3 t127 (y212 ++ y215) (wrap64 (x6_1 - 1)) t124 x127001_2) else (none))) = some r := by first | (rw [hy212]; with_reducible exact H) | (have H2_ := (Option.bind_some _ _).symm.trans H; rw [hy212]; with_reducible exact H2_) | (have H2_ := (Option.bind_some _ _).symm.trans H; with_reducible exact H2_) | with_reducible exact H | (rw [hy212]; exact H) | exact H
                     have Ny212 := Aside0.mk hy212
                     clear hy212
                     have c100b0 := eq_true (of_decide_eq_true (by first | (with_reducible assumption) | assumption) : 0 ≤ x9_3)
                     have c101b0 := eq_true (of_decide_eq_true (by first | (with_reducible assumption) | assumption) : x9_3 ≤ (x5_1.length : Int))
                     obtain ⟨y215, hy215⟩ : ∃ y_ : List (S38), y_ = (x5_1.drop (x9_3 : Int).toNat) := ⟨_, rfl⟩
                     replace H : (if y212.length + y215.length < 3518437208883 then (corporalaw27_list.l0 k3 t127 (y212 ++ y215) (wrap64 (x6_1 - 1)) t124 x127001_2) else (none)) = some r := by first | (rw [hy215]; with_reducible exact H) | (have H2_ := (Option.bind_some _ _).symm.trans H; rw [hy215]; with_reducible exact H2_) | (have H2_ := (Option.bind_some _ _).symm.trans H; with_reducible exact H2_) | with_reducible exact H | (rw [hy215]; exact H) | exact H
                     have Ny215 := Aside0.mk hy215
                     clear hy215
                     by_cases c102 : y212.length + y215.length < 3518437208883
                     ·rw [if_pos c102] at H
                      have LMc102 := Aside0.mk c102
                      clear c102
                      obtain ⟨y220, hy220⟩ : ∃ y_ : List (S38), y_ = (y212 ++ y215) := ⟨_, rfl⟩
                      replace H : (corporalaw27_list.l0 k3 t127 y220 (wrap64 (x6_1 - 1)) t124 x127001_2) = some r := by first | (rw [hy220]; with_reducible exact H) | (have H2_ := (Option.bind_some _ _).symm.trans H; rw [hy220]; with_reducible exact H2_) | (have H2_ := (Option.bind_some _ _).symm.trans H; with_reducible exact H2_) | with_reducible exact H | (rw [hy220]; exact H) | exact H
                      have Ny220 := Aside0.mk hy220
                      clear hy220
                      have H' := Aside0.mk H
                      clear H
                      try go_wp2
                      have n0_ := Aside0.mk (Kd.N_drew HO_5.out)
                      have n1_ := Aside0.mk (Kd.R_drew HO_134002.out)
                      have n2_ := Aside0.mk (blk_drew BK133.out)
                      have n3_ := Aside0.mk (IsS65.drew HI126.out)
                      have n4_ := Aside0.mk (below_drew1 HB.out)
                      clear HO_5
                      clear HO_134002
                      clear BK133
                      clear HI126
                      clear HB
                      have HO_5 := n0_
                      have HO_134002 := n1_
                      have BK133 := n2_
                      have HI126 := n3_
                      have HB := n4_
                      clear n0_ n1_ n2_ n3_ n4_
                      have q106 : (x9_3 : Int) ≤ ((x5_1.length : Int) : Int) := of_decide_eq_true (by first | (with_reducible assumption) | assumption)
                      obtain ⟨i0106, hi0106, _, hsz106, _⟩ := info_parts info38
                      have hroom106 : x5_1.length ≤ co30 := (Kd.N_reads' HO_5.out).2.1
                      have hC106 : Kd.F k38 _ _ Ao30 x5_1.length x5_1 := (Kd.V_at (base := w.heap.size) (Kd.N_V HO_5.out)).2.2
                      have hcut106 := cut_to (P := Try.prog) 23 38 .i64 Try.underlying23 hi0106 Ao30 x5_1.length co30 x9_3 (of_decide_eq_true (by first | (with_reducible assumption) | assumption)) q106 hroom106
                      have hr106 := Kd.F_take (m := (x9_3 : Int).toNat) hC106 (by omega)
                      have hy106 : y201.length = (x9_3 : Int).toNat := (by rw [Ny201.out, List.length_take]; omega)
                      rw [← Ny201.out] at hr106
                      rw [← hy106] at hcut106
                      have HO205 := Aside0.mk (show Kd.V k38 38 _ w.heap.size _ (.slice Ao30 y201.length co30) y201 from Kd.V_mk (by omega) hr106)
                      have HC205 := Aside0.mk (show y201.length ≤ co30 from by omega)
                      clear hr106 hC106 hroom106 hi0106 hsz106
                      have KY106 := Aside0.mk hy106
                      clear hy106
                      replace q106 := eq_true q106
                      have q107 : (x9_3 : Int) ≤ ((x5_1.length : Int) : Int) := of_decide_eq_true (by first | (with_reducible assumption) | assumption)
                      obtain ⟨i0107, hi0107, _, hsz107, _⟩ := info_parts info38
                      have hroom107 : x5_1.length ≤ co30 := (Kd.N_reads' HO_5.out).2.1
                      have hC107 : Kd.F k38 _ _ Ao30 x5_1.length x5_1 := (Kd.V_at (base := w.heap.size) (Kd.N_V HO_5.out)).2.2
                      have q0107 : (0 : Int) ≤ (x9_3 : Int) := of_decide_eq_true (by first | (with_reducible assumption) | assumption)
                      have hcut107 := cut_from (P := Try.prog) 23 38 .i64 Try.underlying23 hi0107 3 hsz107 Ao30 x5_1.length co30 x9_3 q0107 q107
                      have hr107 := Kd.F_cut (m := (x9_3 : Int).toNat) (c := co30) hC107 (by omega) hroom107
                      obtain ⟨A107, hA107⟩ : ∃ A1, A1 = (if co30 = (x9_3 : Int).toNat then Ao30 else (Ao30 : Option Addr).map (·.add ((x9_3 : Int).toNat * 3))) := ⟨_, rfl⟩
                      obtain ⟨c107, hc107⟩ : ∃ c1, c1 = co30 - (x9_3 : Int).toNat := ⟨_, rfl⟩
                      have hy107 : y215.length = x5_1.length - (x9_3 : Int).toNat := (by rw [Ny215.out, List.length_drop] <;> omega)
                      rw [show (x5_1).drop (x9_3 : Int).toNat = y215 from Ny215.out.symm] at hr107
                      replace hr107 : Kd.F k38 _ _ A107 y215.length y215 := (by rw [hA107]; exact hr107)
                      rw [← hy107, ← hA107, ← hc107] at hcut107
                      have HO219 := Aside0.mk (show Kd.V k38 38 _ w.heap.size _ (.slice A107 y215.length c107) y215 from Kd.V_mk (by rw [hy107, hc107]; exact Nat.sub_le_sub_right hroom107 _) hr107)
                      have HC219 := Aside0.mk (show y215.length ≤ c107 from by rw [hy107, hc107]; exact Nat.sub_le_sub_right hroom107 _)
                      clear hr107 hC107 hroom107 hi0107 hsz107 hc107
                      have KY107 := Aside0.mk hy107
                      have KA107 := Aside0.mk hA107
                      clear hy107 hA107
                      replace q107 := eq_true q107
                      refine start_ (n := 13) (S := fun w' => w'.cell? ⟨gb133, 0, none⟩ = some (.int .i64 t131) ∧ w'.cell? ⟨gb133, 1, none⟩ = some (.int .i64 (wrap64 ((wrap64 (t131 + 1)) + t134))) ∧ w'.cell? ⟨gb133, 2, none⟩ = some ((.slice Ao111 x134002_2.length co111))) (ds := []) #[false, false, false, false, false, false, false, false, false, false, false, false, false] (by kernel_rfl) rfl rfl ⟨(blk_cell BK133.out 0).trans rfl, (blk_cell BK133.out 1).trans rfl, (blk_cell BK133.out 2).trans rfl⟩ (fun hHeld => ?_); refine with_tabW corporalaw27_list.tab17 corporalaw27_list.bits17 (fun HT_ HW_ => ?_)
                      generalize wc.drew = w105 at HO_5 HO_134002 BK133 HI126 HB HO205 HO219 hHeld ⊢
                      refine pure_ (i := 1) (N := some 72) (v := ?_) (a' := ?_) #[false, true, false, false, false, false, false, false, false, false, false, false, false] rfl rfl (any_of HT_.out (by kernel_rfl)) (fun _ _ _ h => h) (Or.inl ⟨by rfl, ?_⟩) ?_ ?_
                      rotate_left
                      ·intro w'
                       go_simp
                       with_reducible rfl
                      rotate_left
                      ·simp only [Act.put, List.setIfInBounds_toArray, List.set_cons_zero, List.set_cons_succ, i64_w, i32_w]
                       rfl
                      refine pure_ (i := 2) (N := some 73) (v := ?_) (a' := ?_) #[false, true, true, false, false, false, false, false, false, false, false, false, false] rfl rfl (any_of HT_.out (by kernel_rfl)) (fun _ _ _ h => h) (Or.inl ⟨by rfl, ?_⟩) ?_ ?_
                      rotate_left
                      ·intro w'
                       go_simp
                       with_reducible rfl
                      rotate_left
                      ·simp only [Act.put, List.setIfInBounds_toArray, List.set_cons_zero, List.set_cons_succ, i64_w, i32_w]
                       rfl
                      refine pure_ (i := 3) (N := some 74) (v := ?_) (a' := ?_) #[false, true, true, true, false, false, false, false, false, false, false, false, false] rfl rfl (any_of HT_.out (by kernel_rfl)) (fun _ _ _ h => h) (Or.inl ⟨by rfl, ?_⟩) ?_ ?_
                      rotate_left
                      ·intro w'
                       go_simp
                       with_reducible rfl
                      rotate_left
                      ·simp only [Act.put, List.setIfInBounds_toArray, List.set_cons_zero, List.set_cons_succ, i64_w, i32_w]
                       rfl
                      refine pure_ (i := 8) (N := some 79) (v := ?_) (a' := ?_) #[false, true, true, true, false, false, false, false, true, false, false, false, false] rfl rfl (any_of HT_.out (by kernel_rfl)) (fun _ _ _ h => h) (Or.inl ⟨by rfl, ?_⟩) ?_ ?_
                      rotate_left
                      ·intro w'
                       go_simp
                       with_reducible rfl
                      rotate_left
                      ·simp only [Act.put, List.setIfInBounds_toArray, List.set_cons_zero, List.set_cons_succ, i64_w, i32_w]
                       rfl
                      refine pure_ (i := 9) (N := some 80) (v := ?_) (a' := ?_) #[false, true, true, true, false, false, false, false, true, true, false, false, false] rfl rfl (any_of HT_.out (by kernel_rfl)) (fun _ _ _ h => h) (Or.inl ⟨by rfl, ?_⟩) ?_ ?_
                      rotate_left
                      ·intro w'
                       go_simp
                       with_reducible rfl
                      rotate_left
                      ·simp only [Act.put, List.setIfInBounds_toArray, List.set_cons_zero, List.set_cons_succ, i64_w, i32_w]
                       rfl
                      refine pure_ (i := 10) (N := some 81) (v := ?_) (a' := ?_) #[false, true, true, true, false, false, false, false, true, true, true, false, false] rfl rfl (any_of HT_.out (by kernel_rfl)) (fun _ _ _ h => h) (Or.inl ⟨by rfl, ?_⟩) ?_ ?_
                      rotate_left
                      ·intro w'
                       go_simp
                       with_reducible rfl
                      rotate_left
                      ·simp only [Act.put, List.setIfInBounds_toArray, List.set_cons_zero, List.set_cons_succ, i64_w, i32_w]
                       rfl
                      refine take_ (i := 5) (N := some 76) (v := ?_) (a' := ?_) #[false, true, true, true, false, true, false, false, true, true, true, false, false] rfl rfl (take_ofW HT_.out HW_.out (by kernel_rfl)) (fun _ _ _ h => h) (Or.inl ⟨by rfl, ?_⟩) hHeld ?_ ?_
                      rotate_left
                      ·rintro w' ⟨s0, s1, s2⟩
                       go_simp
                       with_reducible rfl
                      rotate_left
                      ·simp only [Act.put, List.setIfInBounds_toArray, List.set_cons_zero, List.set_cons_succ, i64_w, i32_w]
                       rfl
                      refine join_ (σ := Value × Value × Value) 3 #[true, true, true, true, true, true, true, false, true, true, true, false, false] (fun s_ => [(71, s_.1), (75, s_.2.1), (77, s_.2.2)]) (fun s_ w' => (w'.cell? ⟨gb133, 0, none⟩ = some (.int .i64 t131) ∧ w'.cell? ⟨gb133, 1, none⟩ = some (.int .i64 (wrap64 ((wrap64 (t131 + 1)) + t134))) ∧ w'.cell? ⟨gb133, 2, none⟩ = some ((.slice Ao111 x134002_2.length co111))) ∧ (Kd.V k38 38 w' w.heap.size (fun k_ => (w.heap.size ≤ k_) ∧ some k_ ≠ (s_.2.1 : Value).ownBlock ∧ some k_ ≠ (s_.2.2 : Value).ownBlock ∧ k_ ≠ g126 ∧ k_ ≠ gb133) (.slice Ao30 y201.length co30) y201) ∧ (Kd.N k38 38 w' w.heap.size (fun k_ => (w.heap.size ≤ k_) ∧ some k_ ≠ (s_.2.2 : Value).ownBlock ∧ k_ ≠ g126 ∧ k_ ≠ gb133) s_.2.1 y206) ∧ (Kd.N k38 38 w' w.heap.size (fun k_ => (w.heap.size ≤ k_) ∧ some k_ ≠ (s_.2.1 : Value).ownBlock ∧ some k_ ≠ (.slice Ao30 x5_1.length co30 : Value).ownBlock ∧ k_ ≠ g126 ∧ k_ ≠ gb133) s_.2.2 y209) ∧ (Kd.V k38 38 w' w.heap.size (fun k_ => (w.heap.size ≤ k_) ∧ some k_ ≠ (s_.2.1 : Value).ownBlock ∧ some k_ ≠ (s_.2.2 : Value).ownBlock ∧ k_ ≠ g126 ∧ k_ ≠ gb133) (.slice A107 y215.length c107) y215) ∧ (Kd.N k38 38 w' w.heap.size (fun k_ => (w.heap.size ≤ k_) ∧ some k_ ≠ (s_.2.1 : Value).ownBlock ∧ some k_ ≠ (s_.2.2 : Value).ownBlock ∧ k_ ≠ g126 ∧ k_ ≠ gb133) (.slice Ao30 x5_1.length co30) x5_1) ∧ (w'.heap[gb133]? = some (.cells #[.int .i64 t131, .int .i64 (wrap64 ((wrap64 (t131 + 1)) + t134)), .slice Ao111 x134002_2.length co111] 38 (0, 0))) ∧ (IsS65 w w' g126 t124 x127001_2) ∧ (Below w.heap.size w w')) ?_ ?_
                      rotate_left
                      ·intro hCont
                       refine two_ (i := 0) (j := 6) (Ni := some 71) (Nj := some 77) #[true, true, true, true, false, true, false, false, true, true, true, false, false] #[false, true, true, true, false, true, true, false, true, true, true, false, false] rfl rfl rfl rfl (two_of HT_.out (by kernel_rfl)) (by decide) (by decide) (fun K hK => ?_) (fun K hK => ?_)
                       ·skip
                        refine Kd.N_lit_step k38 _ 38 ?hg (N' := 71) ?hd (xs := ([] : List (S38))) (inner := []) (ok := (fun k_ => (w.heap.size ≤ k_) ∧ some k_ ≠ (.slice Ao30 x5_1.length co30 : Value).ownBlock ∧ some k_ ≠ ((.slice Ao111 x134002_2.length co111) : Value).ownBlock ∧ k_ ≠ gb133 ∧ k_ ≠ g126)) (okp := (fun k_ => (w.heap.size ≤ k_) ∧ some k_ ≠ (.slice Ao30 x5_1.length co30 : Value).ownBlock ∧ some k_ ≠ ((.slice Ao111 x134002_2.length co111) : Value).ownBlock ∧ k_ ≠ gb133 ∧ k_ ≠ g126)) ?hr ?hp (fun _ hk => hk) ((show ∀ k_, w105.heap.size ≤ k_ → (fun k_ => (w.heap.size ≤ k_) ∧ some k_ ≠ (.slice Ao30 x5_1.length co30 : Value).ownBlock ∧ some k_ ≠ ((.slice Ao111 x134002_2.length co111) : Value).ownBlock ∧ k_ ≠ gb133 ∧ k_ ≠ g126) k_ from fun k_ hk => ⟨(Nat.le_trans (below_size (by repeat (first | (with_reducible first | exact HB.out | apply below_alloc | apply pw_below_drewN | apply below_drew1 | refine below_set ?_ (IsS65.ge HI126.out) | refine below_set ?_ GE133.out) | exact HB.out))) hk), Kd.fresh' (Kd.N_lt (by (with_reducible repeat (first | apply Kd.N_alloc | apply Kd.N_drewN | apply Kd.N_drew)); exact HO_5.out)) k_ hk, Kd.fresh' (Kd.R_lt (by (with_reducible repeat (first | apply Kd.R_alloc | apply Kd.R_drewN | apply Kd.R_drew)); exact HO_134002.out)) k_ hk, Kd.freshB (g := gb133) (o := .cells #[.int .i64 t131, .int .i64 (wrap64 ((wrap64 (t131 + 1)) + t134)), (.slice Ao111 x134002_2.length co111)] 38 (0, 0)) (by (with_reducible repeat (first | refine blk_drewN ?_ _ | refine blk_drew ?_ | refine blk_alloc ?_ _)); exact BK133.out) k_ hk, IsS65.fresh (by repeat (first | (with_reducible first | exact HI126.out | apply IsS65.alloc | apply IsS65.drewN | apply IsS65.drew | apply IsS65.set_1 | refine IsS65.far ?_ NB126_133.out _) | exact HI126.out)) k_ hk⟩) _ (Nat.le_refl _)) (Below.refl _ _) (Nat.le_refl _) (by simp) ?_; (case hd => rfl); (case hg => rfl); (case hr => first | (go_simp; done) | (go_simp; rfl)); (case hp => exact (Reps.none _ _))
                        intro v199 w108 ho109 hb hg_ hnew_
                        clear hg_ hnew_
                        (first | rw [← Ny198.out] at ho109 | (simp only [Int.reduceToNat] at ho109; rw [← Ny198.out] at ho109))
                        have n0_ := Aside0.mk (Kd.N_elder' (by (with_reducible repeat (first | apply Kd.N_alloc | apply Kd.N_drewN | apply Kd.N_drew)); exact HO_5.out) (Kd.N_base ho109) hb)
                        have n1_ := Aside0.mk (Kd.R_below (by (with_reducible repeat (first | apply Kd.R_alloc | apply Kd.R_drewN | apply Kd.R_drew)); exact HO_134002.out) hb)
                        have n2_ := Aside0.mk (Kd.V_elder' (by (with_reducible repeat (first | apply Kd.V_alloc | apply Kd.V_drewN | apply Kd.V_drew)); exact HO205.out) (Kd.N_base ho109) hb)
                        have n3_ := Aside0.mk (Kd.V_elder' (by (with_reducible repeat (first | apply Kd.V_alloc | apply Kd.V_drewN | apply Kd.V_drew)); exact HO219.out) (Kd.N_base ho109) hb)
                        have n4_ := Aside0.mk (Kd.N_lower ho109 (below_size (by repeat (first | (with_reducible first | exact HB.out | apply below_alloc | apply pw_below_drewN | apply below_drew1 | refine below_set ?_ (IsS65.ge HI126.out) | refine below_set ?_ GE133.out) | exact HB.out))))
                        have n5_ := Aside0.mk (blk_below (g := gb133) (o := .cells #[.int .i64 t131, .int .i64 (wrap64 ((wrap64 (t131 + 1)) + t134)), (.slice Ao111 x134002_2.length co111)] 38 (0, 0)) (by (with_reducible repeat (first | refine blk_drewN ?_ _ | refine blk_drew ?_ | refine blk_alloc ?_ _)); exact BK133.out) hb)
                        have n6_ := Aside0.mk (IsS65.below (by repeat (first | (with_reducible first | exact HI126.out | apply IsS65.alloc | apply IsS65.drewN | apply IsS65.drew | apply IsS65.set_1 | refine IsS65.far ?_ NB126_133.out _) | exact HI126.out)) hb)
                        have n7_ := Aside0.mk (below_step (by repeat (first | (with_reducible first | exact HB.out | apply below_alloc | apply pw_below_drewN | apply below_drew1 | refine below_set ?_ (IsS65.ge HI126.out) | refine below_set ?_ GE133.out) | exact HB.out)) hb)
                        clear HO_5
                        clear HO_134002
                        clear HO205
                        clear HO219
                        clear BK133
                        clear HI126
                        clear HB
                        have HO_5 := n0_
                        have HO_134002 := n1_
                        have HO205 := n2_
                        have HO219 := n3_
                        have HO200 := n4_
                        have BK133 := n5_
                        have HI126 := n6_
                        have HB := n7_
                        clear n0_ n1_ n2_ n3_ n4_ n5_ n6_ n7_
                        clear hb ho109
                        refine hK.out _ _ ⟨(blk_cell BK133.out 0).trans rfl, (blk_cell BK133.out 1).trans rfl, (blk_cell BK133.out 2).trans rfl⟩ (fun hHeld => ?_)
                        clear hK K
                        refine norm_ (a' := ?_) ?_ ?_
                        rotate_left
                        ·show Act.put _ (some 71) _ = _
                         simp only [Act.put, List.setIfInBounds_toArray, List.set_cons_zero, List.set_cons_succ, i64_w, i32_w]
                         rfl
                        refine two_ (i := 4) (j := 6) (Ni := some 75) (Nj := some 77) #[true, true, true, true, true, true, false, false, true, true, true, false, false] #[true, true, true, true, false, true, true, false, true, true, true, false, false] rfl rfl rfl rfl (two_of HT_.out (by kernel_rfl)) (by decide) (by decide) (fun K hK => ?_) (fun K hK => ?_)
                        ·skip
                         refine Kd.N_append_rows_step k38 (w0 := w) w.heap.size (by rfl) (.tmp 71) (.tmp 74) 23 38 (.agg #[(.int .i64 0), (.int .i64 0), (.slice none 0 0)]) 40 rfl Try.underlying23 info38 rfl (by decide) (by omega) v199 y198 y201 _ _ _ (fun k_ => (w.heap.size ≤ k_) ∧ some k_ ≠ ((.slice Ao111 x134002_2.length co111) : Value).ownBlock ∧ k_ ≠ gb133 ∧ k_ ≠ g126) (fun k_ => ((fun k_ => (w.heap.size ≤ k_) ∧ some k_ ≠ ((.slice Ao111 x134002_2.length co111) : Value).ownBlock ∧ k_ ≠ gb133 ∧ k_ ≠ g126)) k_ ∧ some k_ ≠ (v199 : Value).ownBlock) rfl rfl ?aO ?aR (fun _ hk => hk) ?aF ?aB ?aS ?aL ?_
                         (case aR => exact (by skip; exact Kd.V_F (Kd.V_mono (ok' := (fun k_ => ((fun k_ => (w.heap.size ≤ k_) ∧ some k_ ≠ ((.slice Ao111 x134002_2.length co111) : Value).ownBlock ∧ k_ ≠ gb133 ∧ k_ ≠ g126)) k_ ∧ some k_ ≠ (v199 : Value).ownBlock)) (HO205.out) (fun k_ hk => ⟨⟨hk.1.1, ⟨hk.1.2.1, ⟨hk.1.2.2.1, hk.1.2.2.2⟩⟩⟩, hk.2⟩))))
                         (case aB => exact (by repeat (first | (with_reducible first | exact HB.out | apply below_alloc | apply pw_below_drewN | apply below_drew1 | refine below_set ?_ (IsS65.ge HI126.out) | refine below_set ?_ GE133.out) | exact HB.out)))
                         (case aF => exact (fun k_ hk => ⟨(Nat.le_trans (below_size (by repeat (first | (with_reducible first | exact HB.out | apply below_alloc | apply pw_below_drewN | apply below_drew1 | refine below_set ?_ (IsS65.ge HI126.out) | refine below_set ?_ GE133.out) | exact HB.out))) hk), Kd.fresh' (Kd.R_lt (by (with_reducible repeat (first | apply Kd.R_alloc | apply Kd.R_drewN | apply Kd.R_drew)); exact HO_134002.out)) k_ hk, Kd.freshB (g := gb133) (o := .cells #[.int .i64 t131, .int .i64 (wrap64 ((wrap64 (t131 + 1)) + t134)), (.slice Ao111 x134002_2.length co111)] 38 (0, 0)) (by (with_reducible repeat (first | refine blk_drewN ?_ _ | refine blk_drew ?_ | refine blk_alloc ?_ _)); exact BK133.out) k_ hk, IsS65.fresh (by repeat (first | (with_reducible first | exact HI126.out | apply IsS65.alloc | apply IsS65.drewN | apply IsS65.drew | apply IsS65.set_1 | refine IsS65.far ?_ NB126_133.out _) | exact HI126.out)) k_ hk⟩))
                         (case aO => exact (by (with_reducible repeat (first | apply Kd.N_alloc | apply Kd.N_drewN | apply Kd.N_drew)); exact Kd.N_mono HO200.out (fun _ hk => ⟨hk.1, ⟨hk.2.2.1, ⟨hk.2.2.2.1, hk.2.2.2.2⟩⟩⟩)))
                         (case aS => exact (below_size (by repeat (first | (with_reducible first | exact HB.out | apply below_alloc | apply pw_below_drewN | apply below_drew1 | refine below_set ?_ (IsS65.ge HI126.out) | refine below_set ?_ GE133.out) | exact HB.out))))
                         (case aL => have := LMc98.out; omega)
                         intro v207 w110 ho hb hg hat
                         rw [← Ny206.out] at ho
                         have n0_ := Aside0.mk (Kd.N_afterv (ok := (fun k_ => (w.heap.size ≤ k_) ∧ some k_ ≠ ((.slice Ao111 x134002_2.length co111) : Value).ownBlock ∧ k_ ≠ gb133 ∧ k_ ≠ g126)) (by (with_reducible repeat (first | apply Kd.N_alloc | apply Kd.N_drewN | apply Kd.N_drew)); exact HO_5.out) hg hat)
                         have n1_ := Aside0.mk (Kd.R_over' (by (with_reducible repeat (first | apply Kd.R_alloc | apply Kd.R_drewN | apply Kd.R_drew)); exact HO_134002.out) (Kd.N_typed (by (with_reducible repeat (first | apply Kd.N_alloc | apply Kd.N_drewN | apply Kd.N_drew)); exact HO200.out)) (by decide) hg)
                         have n2_ := Aside0.mk (blk_grown (g := gb133) (o := .cells #[.int .i64 t131, .int .i64 (wrap64 ((wrap64 (t131 + 1)) + t134)), (.slice Ao111 x134002_2.length co111)] 38 (0, 0)) (by (with_reducible repeat (first | refine blk_drewN ?_ _ | refine blk_drew ?_ | refine blk_alloc ?_ _)); exact BK133.out) hg (Kd.N_away HO200.out (fun _ hk => hk.2.2.2.1)))
                         have n3_ := Aside0.mk (IsS65.grown (by repeat (first | (with_reducible first | exact HI126.out | apply IsS65.alloc | apply IsS65.drewN | apply IsS65.drew | apply IsS65.set_1 | refine IsS65.far ?_ NB126_133.out _) | exact HI126.out)) hg (IsS65.own_neN HI126.out HO200.out (by decide)))
                         have n4_ := Aside0.mk (Kd.V_afterv (ok := (fun k_ => (w.heap.size ≤ k_) ∧ some k_ ≠ ((.slice Ao111 x134002_2.length co111) : Value).ownBlock ∧ k_ ≠ gb133 ∧ k_ ≠ g126)) (by (with_reducible repeat (first | apply Kd.V_alloc | apply Kd.V_drewN | apply Kd.V_drew)); exact HO205.out) hg hat)
                         have n5_ := Aside0.mk (Kd.V_afterv (ok := (fun k_ => (w.heap.size ≤ k_) ∧ some k_ ≠ ((.slice Ao111 x134002_2.length co111) : Value).ownBlock ∧ k_ ≠ gb133 ∧ k_ ≠ g126)) (by (with_reducible repeat (first | apply Kd.V_alloc | apply Kd.V_drewN | apply Kd.V_drew)); exact HO219.out) hg hat)
                         have n6_ := Aside0.mk (hb)
                         have n7_ := Aside0.mk (ho)
                         clear HO_5
                         clear HO_134002
                         clear BK133
                         clear HI126
                         clear HO205
                         clear HO219
                         clear HB
                         clear HO200
                         have HO_5 := n0_
                         have HO_134002 := n1_
                         have BK133 := n2_
                         have HI126 := n3_
                         have HO205 := n4_
                         have HO219 := n5_
                         have HB := n6_
                         have HO208 := n7_
                         clear n0_ n1_ n2_ n3_ n4_ n5_ n6_ n7_
                         clear ho hb hg hat
                         refine hK.out _ _ ⟨(blk_cell BK133.out 0).trans rfl, (blk_cell BK133.out 1).trans rfl, (blk_cell BK133.out 2).trans rfl⟩ (fun hHeld => ?_)
                         clear hK K
                         refine norm_ (a' := ?_) ?_ ?_
                         rotate_left
                         ·show Act.put _ (some 75) _ = _
                          simp only [Act.put, List.setIfInBounds_toArray, List.set_cons_zero, List.set_cons_succ, i64_w, i32_w]
                          rfl
                         refine one_ (i := 6) (N := some 77) #[true, true, true, true, true, true, true, false, true, true, true, false, false] rfl rfl (one_of HT_.out (by kernel_rfl)) (by decide) (fun K hK => ?_)
                         refine Kd.N_lit_step k38 _ 38 ?hg (N' := 77) ?hd (xs := ([(⟨t131, (wrap64 ((wrap64 (t131 + 1)) + t134)), x134002_2⟩ : S38)] : List (S38))) (inner := [.int .i64 t131, .int .i64 (wrap64 ((wrap64 (t131 + 1)) + t134)), .slice Ao111 x134002_2.length co111]) (ok := (fun k_ => (w.heap.size ≤ k_) ∧ some k_ ≠ (.slice Ao30 x5_1.length co30 : Value).ownBlock ∧ some k_ ≠ (v207 : Value).ownBlock ∧ k_ ≠ gb133 ∧ k_ ≠ g126)) (okp := (fun k_ => (w.heap.size ≤ k_) ∧ some k_ ≠ (.slice Ao30 x5_1.length co30 : Value).ownBlock ∧ some k_ ≠ (v207 : Value).ownBlock ∧ k_ ≠ gb133 ∧ k_ ≠ g126)) ?hr ?hp (fun _ hk => hk) ((show ∀ k_, w110.heap.size ≤ k_ → (fun k_ => (w.heap.size ≤ k_) ∧ some k_ ≠ (.slice Ao30 x5_1.length co30 : Value).ownBlock ∧ some k_ ≠ (v207 : Value).ownBlock ∧ k_ ≠ gb133 ∧ k_ ≠ g126) k_ from fun k_ hk => ⟨(Nat.le_trans (below_size (by repeat (first | (with_reducible first | exact HB.out | apply below_alloc | apply pw_below_drewN | apply below_drew1 | refine below_set ?_ (IsS65.ge HI126.out) | refine below_set ?_ GE133.out) | exact HB.out))) hk), Kd.fresh' (Kd.N_lt (by (with_reducible repeat (first | apply Kd.N_alloc | apply Kd.N_drewN | apply Kd.N_drew)); exact HO_5.out)) k_ hk, Kd.fresh' (Kd.N_lt (by (with_reducible repeat (first | apply Kd.N_alloc | apply Kd.N_drewN | apply Kd.N_drew)); exact HO208.out)) k_ hk, Kd.freshB (g := gb133) (o := .cells #[.int .i64 t131, .int .i64 (wrap64 ((wrap64 (t131 + 1)) + t134)), .slice Ao111 x134002_2.length co111] 38 (0, 0)) (by (with_reducible repeat (first | refine blk_drewN ?_ _ | refine blk_drew ?_ | refine blk_alloc ?_ _)); exact BK133.out) k_ hk, IsS65.fresh (by repeat (first | (with_reducible first | exact HI126.out | apply IsS65.alloc | apply IsS65.drewN | apply IsS65.drew | apply IsS65.set_1 | refine IsS65.far ?_ NB126_133.out _) | exact HI126.out)) k_ hk⟩) _ (Nat.le_refl _)) (Below.refl _ _) (Nat.le_refl _) (by simp) ?_; (case hd => rfl); (case hg => rfl); (case hr => first | (go_simp; done) | (go_simp; rfl)); (case hp => exact (Reps.c3 (show Kd.FK k38 _ _ (⟨t131, (wrap64 ((wrap64 (t131 + 1)) + t134)), x134002_2⟩ : S38) [.int .i64 t131, .int .i64 (wrap64 ((wrap64 (t131 + 1)) + t134)), .slice Ao111 x134002_2.length co111] from (k38_mkF _ _ (⟨t131, (wrap64 ((wrap64 (t131 + 1)) + t134)), x134002_2⟩ : S38) (Kd.R_reads' (Kd.R_mono (ok' := (fun k_ => (w.heap.size ≤ k_) ∧ some k_ ≠ (.slice Ao30 x5_1.length co30 : Value).ownBlock ∧ some k_ ≠ (v207 : Value).ownBlock ∧ k_ ≠ gb133 ∧ k_ ≠ g126)) (IsS65.apart HI126.out (Kd.R_types (Kd.R_apart' (Kd.R_apart' (HO_134002.out) (Kd.N_typed HO_5.out) (by decide)) (Kd.N_typed HO208.out) (by decide)) BK133.out (by decide)) (by decide)) (fun k_ hk => ⟨hk.1.1.1.1, ⟨hk.1.1.1.2, ⟨hk.1.1.2, ⟨hk.1.2, hk.2⟩⟩⟩⟩))).2.1 (Kd.R_F (Kd.R_mono (ok' := (fun k_ => (w.heap.size ≤ k_) ∧ some k_ ≠ (.slice Ao30 x5_1.length co30 : Value).ownBlock ∧ some k_ ≠ (v207 : Value).ownBlock ∧ k_ ≠ gb133 ∧ k_ ≠ g126)) (IsS65.apart HI126.out (Kd.R_types (Kd.R_apart' (Kd.R_apart' (HO_134002.out) (Kd.N_typed HO_5.out) (by decide)) (Kd.N_typed HO208.out) (by decide)) BK133.out (by decide)) (by decide)) (fun k_ hk => ⟨hk.1.1.1.1, ⟨hk.1.1.1.2, ⟨hk.1.1.2, ⟨hk.1.2, hk.2⟩⟩⟩⟩))))) (Reps.none _ _)))
                         intro v210 w112 ho113 hb hg_ hnew_
                         clear hg_ hnew_
                         (first | rw [← Ny209.out] at ho113 | (simp only [Int.reduceToNat] at ho113; rw [← Ny209.out] at ho113))
                         have n0_ := Aside0.mk (Kd.N_elder' (by (with_reducible repeat (first | apply Kd.N_alloc | apply Kd.N_drewN | apply Kd.N_drew)); exact HO_5.out) (Kd.N_base ho113) hb)
                         have n1_ := Aside0.mk (Kd.V_elder' (by (with_reducible repeat (first | apply Kd.V_alloc | apply Kd.V_drewN | apply Kd.V_drew)); exact HO205.out) (Kd.N_base ho113) hb)
                         have n2_ := Aside0.mk (Kd.V_elder' (by (with_reducible repeat (first | apply Kd.V_alloc | apply Kd.V_drewN | apply Kd.V_drew)); exact HO219.out) (Kd.N_base ho113) hb)
                         have n3_ := Aside0.mk (Kd.N_elder' (by (with_reducible repeat (first | apply Kd.N_alloc | apply Kd.N_drewN | apply Kd.N_drew)); exact HO208.out) (Kd.N_base ho113) hb)
                         have n4_ := Aside0.mk (Kd.N_lower ho113 (below_size (by repeat (first | (with_reducible first | exact HB.out | apply below_alloc | apply pw_below_drewN | apply below_drew1 | refine below_set ?_ (IsS65.ge HI126.out) | refine below_set ?_ GE133.out) | exact HB.out))))
                         have n5_ := Aside0.mk (blk_below (g := gb133) (o := .cells #[.int .i64 t131, .int .i64 (wrap64 ((wrap64 (t131 + 1)) + t134)), .slice Ao111 x134002_2.length co111] 38 (0, 0)) (by (with_reducible repeat (first | refine blk_drewN ?_ _ | refine blk_drew ?_ | refine blk_alloc ?_ _)); exact BK133.out) hb)
                         have n6_ := Aside0.mk (IsS65.below (by repeat (first | (with_reducible first | exact HI126.out | apply IsS65.alloc | apply IsS65.drewN | apply IsS65.drew | apply IsS65.set_1 | refine IsS65.far ?_ NB126_133.out _) | exact HI126.out)) hb)
                         have n7_ := Aside0.mk (below_step (by repeat (first | (with_reducible first | exact HB.out | apply below_alloc | apply pw_below_drewN | apply below_drew1 | refine below_set ?_ (IsS65.ge HI126.out) | refine below_set ?_ GE133.out) | exact HB.out)) hb)
                         clear HO_5
                         clear HO205
                         clear HO219
                         clear HO208
                         clear BK133
                         clear HI126
                         clear HB
                         clear HO_134002
                         have HO_5 := n0_
                         have HO205 := n1_
                         have HO219 := n2_
                         have HO208 := n3_
                         have HO211 := n4_
                         have BK133 := n5_
                         have HI126 := n6_
                         have HB := n7_
                         clear n0_ n1_ n2_ n3_ n4_ n5_ n6_ n7_
                         clear hb ho113
                         refine hK.out _ _ ⟨(blk_cell BK133.out 0).trans rfl, (blk_cell BK133.out 1).trans rfl, (blk_cell BK133.out 2).trans rfl⟩ (fun hHeld => ?_)
                         clear hK K
                         refine norm_ (a' := ?_) ?_ ?_
                         rotate_left
                         ·show Act.put _ (some 77) _ = _
                          simp only [Act.put, List.setIfInBounds_toArray, List.set_cons_zero, List.set_cons_succ, i64_w, i32_w]
                          rfl
                         exact norm_ (by simp only [putAll, Act.put, List.setIfInBounds_toArray, List.set_cons_zero, List.set_cons_succ]) (hCont (v199, v207, v210) _ ⟨hHeld, (by (with_reducible repeat (first | apply Kd.V_alloc | apply Kd.V_drewN | apply Kd.V_drew)); exact Kd.V_mono HO205.out (fun _ hk => ⟨hk.1.1.1, ⟨hk.1.2, ⟨hk.2, ⟨hk.1.1.2.2.2, hk.1.1.2.2.1⟩⟩⟩⟩)), (by (with_reducible repeat (first | apply Kd.N_alloc | apply Kd.N_drewN | apply Kd.N_drew)); exact Kd.N_mono HO208.out (fun _ hk => ⟨hk.1.1, ⟨hk.2, ⟨hk.1.2.2.2, hk.1.2.2.1⟩⟩⟩)), (by (with_reducible repeat (first | apply Kd.N_alloc | apply Kd.N_drewN | apply Kd.N_drew)); exact Kd.N_mono HO211.out (fun _ hk => ⟨hk.1, ⟨hk.2.2.1, ⟨hk.2.1, ⟨hk.2.2.2.2, hk.2.2.2.1⟩⟩⟩⟩)), (by (with_reducible repeat (first | apply Kd.V_alloc | apply Kd.V_drewN | apply Kd.V_drew)); exact Kd.V_mono HO219.out (fun _ hk => ⟨hk.1.1.1, ⟨hk.1.2, ⟨hk.2, ⟨hk.1.1.2.2.2, hk.1.1.2.2.1⟩⟩⟩⟩)), (by (with_reducible repeat (first | apply Kd.N_alloc | apply Kd.N_drewN | apply Kd.N_drew)); exact Kd.N_mono HO_5.out (fun _ hk => ⟨hk.1.1.1, ⟨hk.1.2, ⟨hk.2, ⟨hk.1.1.2.2.2, hk.1.1.2.2.1⟩⟩⟩⟩)), (by (with_reducible repeat (first | refine blk_drewN ?_ _ | refine blk_drew ?_ | refine blk_alloc ?_ _)); exact BK133.out), (by repeat (first | (with_reducible first | exact HI126.out | apply IsS65.alloc | apply IsS65.drewN | apply IsS65.drew | apply IsS65.set_1 | refine IsS65.far ?_ NB126_133.out _) | exact HI126.out)), (by repeat (first | (with_reducible first | exact HB.out | apply below_alloc | apply pw_below_drewN | apply below_drew1 | refine below_set ?_ (IsS65.ge HI126.out) | refine below_set ?_ GE133.out) | exact HB.out))⟩)
                        skip
                        refine Kd.N_lit_step k38 _ 38 ?hg (N' := 77) ?hd (xs := ([(⟨t131, (wrap64 ((wrap64 (t131 + 1)) + t134)), x134002_2⟩ : S38)] : List (S38))) (inner := [.int .i64 t131, .int .i64 (wrap64 ((wrap64 (t131 + 1)) + t134)), .slice Ao111 x134002_2.length co111]) (ok := (fun k_ => (w.heap.size ≤ k_) ∧ some k_ ≠ (.slice Ao30 x5_1.length co30 : Value).ownBlock ∧ some k_ ≠ (v199 : Value).ownBlock ∧ k_ ≠ gb133 ∧ k_ ≠ g126)) (okp := (fun k_ => (w.heap.size ≤ k_) ∧ some k_ ≠ (.slice Ao30 x5_1.length co30 : Value).ownBlock ∧ some k_ ≠ (v199 : Value).ownBlock ∧ k_ ≠ gb133 ∧ k_ ≠ g126)) ?hr ?hp (fun _ hk => hk) ((show ∀ k_, w108.heap.size ≤ k_ → (fun k_ => (w.heap.size ≤ k_) ∧ some k_ ≠ (.slice Ao30 x5_1.length co30 : Value).ownBlock ∧ some k_ ≠ (v199 : Value).ownBlock ∧ k_ ≠ gb133 ∧ k_ ≠ g126) k_ from fun k_ hk => ⟨(Nat.le_trans (below_size (by repeat (first | (with_reducible first | exact HB.out | apply below_alloc | apply pw_below_drewN | apply below_drew1 | refine below_set ?_ (IsS65.ge HI126.out) | refine below_set ?_ GE133.out) | exact HB.out))) hk), Kd.fresh' (Kd.N_lt (by (with_reducible repeat (first | apply Kd.N_alloc | apply Kd.N_drewN | apply Kd.N_drew)); exact HO_5.out)) k_ hk, Kd.fresh' (Kd.N_lt (by (with_reducible repeat (first | apply Kd.N_alloc | apply Kd.N_drewN | apply Kd.N_drew)); exact HO200.out)) k_ hk, Kd.freshB (g := gb133) (o := .cells #[.int .i64 t131, .int .i64 (wrap64 ((wrap64 (t131 + 1)) + t134)), .slice Ao111 x134002_2.length co111] 38 (0, 0)) (by (with_reducible repeat (first | refine blk_drewN ?_ _ | refine blk_drew ?_ | refine blk_alloc ?_ _)); exact BK133.out) k_ hk, IsS65.fresh (by repeat (first | (with_reducible first | exact HI126.out | apply IsS65.alloc | apply IsS65.drewN | apply IsS65.drew | apply IsS65.set_1 | refine IsS65.far ?_ NB126_133.out _) | exact HI126.out)) k_ hk⟩) _ (Nat.le_refl _)) (Below.refl _ _) (Nat.le_refl _) (by simp) ?_; (case hd => rfl); (case hg => rfl); (case hr => first | (go_simp; done) | (go_simp; rfl)); (case hp => exact (Reps.c3 (show Kd.FK k38 _ _ (⟨t131, (wrap64 ((wrap64 (t131 + 1)) + t134)), x134002_2⟩ : S38) [.int .i64 t131, .int .i64 (wrap64 ((wrap64 (t131 + 1)) + t134)), .slice Ao111 x134002_2.length co111] from (k38_mkF _ _ (⟨t131, (wrap64 ((wrap64 (t131 + 1)) + t134)), x134002_2⟩ : S38) (Kd.R_reads' (Kd.R_mono (ok' := (fun k_ => (w.heap.size ≤ k_) ∧ some k_ ≠ (.slice Ao30 x5_1.length co30 : Value).ownBlock ∧ some k_ ≠ (v199 : Value).ownBlock ∧ k_ ≠ gb133 ∧ k_ ≠ g126)) (IsS65.apart HI126.out (Kd.R_types (Kd.R_apart' (Kd.R_apart' (HO_134002.out) (Kd.N_typed HO_5.out) (by decide)) (Kd.N_typed HO200.out) (by decide)) BK133.out (by decide)) (by decide)) (fun k_ hk => ⟨hk.1.1.1.1, ⟨hk.1.1.1.2, ⟨hk.1.1.2, ⟨hk.1.2, hk.2⟩⟩⟩⟩))).2.1 (Kd.R_F (Kd.R_mono (ok' := (fun k_ => (w.heap.size ≤ k_) ∧ some k_ ≠ (.slice Ao30 x5_1.length co30 : Value).ownBlock ∧ some k_ ≠ (v199 : Value).ownBlock ∧ k_ ≠ gb133 ∧ k_ ≠ g126)) (IsS65.apart HI126.out (Kd.R_types (Kd.R_apart' (Kd.R_apart' (HO_134002.out) (Kd.N_typed HO_5.out) (by decide)) (Kd.N_typed HO200.out) (by decide)) BK133.out (by decide)) (by decide)) (fun k_ hk => ⟨hk.1.1.1.1, ⟨hk.1.1.1.2, ⟨hk.1.1.2, ⟨hk.1.2, hk.2⟩⟩⟩⟩))))) (Reps.none _ _)))
                        intro v210 w111 ho112 hb hg_ hnew_
                        clear hg_ hnew_
                        (first | rw [← Ny209.out] at ho112 | (simp only [Int.reduceToNat] at ho112; rw [← Ny209.out] at ho112))
                        have n0_ := Aside0.mk (Kd.N_elder' (by (with_reducible repeat (first | apply Kd.N_alloc | apply Kd.N_drewN | apply Kd.N_drew)); exact HO_5.out) (Kd.N_base ho112) hb)
                        have n1_ := Aside0.mk (Kd.V_elder' (by (with_reducible repeat (first | apply Kd.V_alloc | apply Kd.V_drewN | apply Kd.V_drew)); exact HO205.out) (Kd.N_base ho112) hb)
                        have n2_ := Aside0.mk (Kd.V_elder' (by (with_reducible repeat (first | apply Kd.V_alloc | apply Kd.V_drewN | apply Kd.V_drew)); exact HO219.out) (Kd.N_base ho112) hb)
                        have n3_ := Aside0.mk (Kd.N_elder' (by (with_reducible repeat (first | apply Kd.N_alloc | apply Kd.N_drewN | apply Kd.N_drew)); exact HO200.out) (Kd.N_base ho112) hb)
                        have n4_ := Aside0.mk (Kd.N_lower ho112 (below_size (by repeat (first | (with_reducible first | exact HB.out | apply below_alloc | apply pw_below_drewN | apply below_drew1 | refine below_set ?_ (IsS65.ge HI126.out) | refine below_set ?_ GE133.out) | exact HB.out))))
                        have n5_ := Aside0.mk (blk_below (g := gb133) (o := .cells #[.int .i64 t131, .int .i64 (wrap64 ((wrap64 (t131 + 1)) + t134)), .slice Ao111 x134002_2.length co111] 38 (0, 0)) (by (with_reducible repeat (first | refine blk_drewN ?_ _ | refine blk_drew ?_ | refine blk_alloc ?_ _)); exact BK133.out) hb)
                        have n6_ := Aside0.mk (IsS65.below (by repeat (first | (with_reducible first | exact HI126.out | apply IsS65.alloc | apply IsS65.drewN | apply IsS65.drew | apply IsS65.set_1 | refine IsS65.far ?_ NB126_133.out _) | exact HI126.out)) hb)
                        have n7_ := Aside0.mk (below_step (by repeat (first | (with_reducible first | exact HB.out | apply below_alloc | apply pw_below_drewN | apply below_drew1 | refine below_set ?_ (IsS65.ge HI126.out) | refine below_set ?_ GE133.out) | exact HB.out)) hb)
                        clear HO_5
                        clear HO205
                        clear HO219
                        clear HO200
                        clear BK133
                        clear HI126
                        clear HB
                        clear HO_134002
                        have HO_5 := n0_
                        have HO205 := n1_
                        have HO219 := n2_
                        have HO200 := n3_
                        have HO211 := n4_
                        have BK133 := n5_
                        have HI126 := n6_
                        have HB := n7_
                        clear n0_ n1_ n2_ n3_ n4_ n5_ n6_ n7_
                        clear hb ho112
                        refine hK.out _ _ ⟨(blk_cell BK133.out 0).trans rfl, (blk_cell BK133.out 1).trans rfl, (blk_cell BK133.out 2).trans rfl⟩ (fun hHeld => ?_)
                        clear hK K
                        refine norm_ (a' := ?_) ?_ ?_
                        rotate_left
                        ·show Act.put _ (some 77) _ = _
                         simp only [Act.put, List.setIfInBounds_toArray, List.set_cons_zero, List.set_cons_succ, i64_w, i32_w]
                         rfl
                        refine one_ (i := 4) (N := some 75) #[true, true, true, true, true, true, true, false, true, true, true, false, false] rfl rfl (one_of HT_.out (by kernel_rfl)) (by decide) (fun K hK => ?_)
                        refine Kd.N_append_rows_step k38 (w0 := w) w.heap.size (by rfl) (.tmp 71) (.tmp 74) 23 38 (.agg #[(.int .i64 0), (.int .i64 0), (.slice none 0 0)]) 40 rfl Try.underlying23 info38 rfl (by decide) (by omega) v199 y198 y201 _ _ _ (fun k_ => (w.heap.size ≤ k_) ∧ some k_ ≠ (v210 : Value).ownBlock ∧ k_ ≠ gb133 ∧ k_ ≠ g126) (fun k_ => ((fun k_ => (w.heap.size ≤ k_) ∧ some k_ ≠ (v210 : Value).ownBlock ∧ k_ ≠ gb133 ∧ k_ ≠ g126)) k_ ∧ some k_ ≠ (v199 : Value).ownBlock) rfl rfl ?aO ?aR (fun _ hk => hk) ?aF ?aB ?aS ?aL ?_
                        (case aR => exact (by skip; exact Kd.V_F (Kd.V_mono (ok' := (fun k_ => ((fun k_ => (w.heap.size ≤ k_) ∧ some k_ ≠ (v210 : Value).ownBlock ∧ k_ ≠ gb133 ∧ k_ ≠ g126)) k_ ∧ some k_ ≠ (v199 : Value).ownBlock)) (HO205.out) (fun k_ hk => ⟨⟨hk.1.1.1, ⟨hk.2, ⟨hk.1.1.2.2.1, hk.1.1.2.2.2⟩⟩⟩, hk.1.2⟩))))
                        (case aB => exact (by repeat (first | (with_reducible first | exact HB.out | apply below_alloc | apply pw_below_drewN | apply below_drew1 | refine below_set ?_ (IsS65.ge HI126.out) | refine below_set ?_ GE133.out) | exact HB.out)))
                        (case aF => exact (fun k_ hk => ⟨(Nat.le_trans (below_size (by repeat (first | (with_reducible first | exact HB.out | apply below_alloc | apply pw_below_drewN | apply below_drew1 | refine below_set ?_ (IsS65.ge HI126.out) | refine below_set ?_ GE133.out) | exact HB.out))) hk), Kd.fresh' (Kd.N_lt (by (with_reducible repeat (first | apply Kd.N_alloc | apply Kd.N_drewN | apply Kd.N_drew)); exact HO211.out)) k_ hk, Kd.freshB (g := gb133) (o := .cells #[.int .i64 t131, .int .i64 (wrap64 ((wrap64 (t131 + 1)) + t134)), .slice Ao111 x134002_2.length co111] 38 (0, 0)) (by (with_reducible repeat (first | refine blk_drewN ?_ _ | refine blk_drew ?_ | refine blk_alloc ?_ _)); exact BK133.out) k_ hk, IsS65.fresh (by repeat (first | (with_reducible first | exact HI126.out | apply IsS65.alloc | apply IsS65.drewN | apply IsS65.drew | apply IsS65.set_1 | refine IsS65.far ?_ NB126_133.out _) | exact HI126.out)) k_ hk⟩))
                        (case aO => exact (by (with_reducible repeat (first | apply Kd.N_alloc | apply Kd.N_drewN | apply Kd.N_drew)); exact Kd.N_mono HO200.out (fun _ hk => ⟨hk.1.1, ⟨hk.2, ⟨hk.1.2.2.2.1, hk.1.2.2.2.2⟩⟩⟩)))
                        (case aS => exact (below_size (by repeat (first | (with_reducible first | exact HB.out | apply below_alloc | apply pw_below_drewN | apply below_drew1 | refine below_set ?_ (IsS65.ge HI126.out) | refine below_set ?_ GE133.out) | exact HB.out))))
                        (case aL => have := LMc98.out; omega)
                        intro v207 w113 ho hb hg hat
                        rw [← Ny206.out] at ho
                        have n0_ := Aside0.mk (Kd.N_afterv (ok := (fun k_ => (w.heap.size ≤ k_) ∧ some k_ ≠ (v210 : Value).ownBlock ∧ k_ ≠ gb133 ∧ k_ ≠ g126)) (by (with_reducible repeat (first | apply Kd.N_alloc | apply Kd.N_drewN | apply Kd.N_drew)); exact Kd.N_mono HO_5.out (fun _ hk => ⟨⟨hk.1.1.1, ⟨hk.2, ⟨hk.1.1.2.2.1, hk.1.1.2.2.2⟩⟩⟩, hk.1.2⟩)) hg hat)
                        have n1_ := Aside0.mk (blk_grown (g := gb133) (o := .cells #[.int .i64 t131, .int .i64 (wrap64 ((wrap64 (t131 + 1)) + t134)), .slice Ao111 x134002_2.length co111] 38 (0, 0)) (by (with_reducible repeat (first | refine blk_drewN ?_ _ | refine blk_drew ?_ | refine blk_alloc ?_ _)); exact BK133.out) hg (Kd.N_away HO200.out (fun _ hk => hk.1.2.2.2.1)))
                        have n2_ := Aside0.mk (IsS65.grown (by repeat (first | (with_reducible first | exact HI126.out | apply IsS65.alloc | apply IsS65.drewN | apply IsS65.drew | apply IsS65.set_1 | refine IsS65.far ?_ NB126_133.out _) | exact HI126.out)) hg (IsS65.own_neN HI126.out HO200.out (by decide)))
                        have n3_ := Aside0.mk (Kd.V_afterv (ok := (fun k_ => (w.heap.size ≤ k_) ∧ some k_ ≠ (v210 : Value).ownBlock ∧ k_ ≠ gb133 ∧ k_ ≠ g126)) (by (with_reducible repeat (first | apply Kd.V_alloc | apply Kd.V_drewN | apply Kd.V_drew)); exact Kd.V_mono HO205.out (fun _ hk => ⟨⟨hk.1.1.1, ⟨hk.2, ⟨hk.1.1.2.2.1, hk.1.1.2.2.2⟩⟩⟩, hk.1.2⟩)) hg hat)
                        have n4_ := Aside0.mk (Kd.V_afterv (ok := (fun k_ => (w.heap.size ≤ k_) ∧ some k_ ≠ (v210 : Value).ownBlock ∧ k_ ≠ gb133 ∧ k_ ≠ g126)) (by (with_reducible repeat (first | apply Kd.V_alloc | apply Kd.V_drewN | apply Kd.V_drew)); exact Kd.V_mono HO219.out (fun _ hk => ⟨⟨hk.1.1.1, ⟨hk.2, ⟨hk.1.1.2.2.1, hk.1.1.2.2.2⟩⟩⟩, hk.1.2⟩)) hg hat)
                        have n5_ := Aside0.mk (Kd.N_afterv (ok := (fun k_ => (w.heap.size ≤ k_) ∧ some k_ ≠ (.slice Ao30 x5_1.length co30 : Value).ownBlock ∧ k_ ≠ gb133 ∧ k_ ≠ g126)) (by (with_reducible repeat (first | apply Kd.N_alloc | apply Kd.N_drewN | apply Kd.N_drew)); exact Kd.N_mono HO211.out (fun _ hk => ⟨⟨hk.1, ⟨hk.2.1, ⟨hk.2.2.2.1, hk.2.2.2.2⟩⟩⟩, hk.2.2.1⟩)) hg hat)
                        have n6_ := Aside0.mk (hb)
                        have n7_ := Aside0.mk (ho)
                        clear HO_5
                        clear BK133
                        clear HI126
                        clear HO205
                        clear HO219
                        clear HO211
                        clear HB
                        clear HO200
                        have HO_5 := n0_
                        have BK133 := n1_
                        have HI126 := n2_
                        have HO205 := n3_
                        have HO219 := n4_
                        have HO211 := n5_
                        have HB := n6_
                        have HO208 := n7_
                        clear n0_ n1_ n2_ n3_ n4_ n5_ n6_ n7_
                        clear ho hb hg hat
                        refine hK.out _ _ ⟨(blk_cell BK133.out 0).trans rfl, (blk_cell BK133.out 1).trans rfl, (blk_cell BK133.out 2).trans rfl⟩ (fun hHeld => ?_)
                        clear hK K
                        refine norm_ (a' := ?_) ?_ ?_
                        rotate_left
                        ·show Act.put _ (some 75) _ = _
                         simp only [Act.put, List.setIfInBounds_toArray, List.set_cons_zero, List.set_cons_succ, i64_w, i32_w]
                         rfl
                        exact norm_ (by simp only [putAll, Act.put, List.setIfInBounds_toArray, List.set_cons_zero, List.set_cons_succ]) (hCont (v199, v207, v210) _ ⟨hHeld, (by (with_reducible repeat (first | apply Kd.V_alloc | apply Kd.V_drewN | apply Kd.V_drew)); exact Kd.V_mono HO205.out (fun _ hk => ⟨hk.1.1, ⟨hk.2, ⟨hk.1.2.1, ⟨hk.1.2.2.2, hk.1.2.2.1⟩⟩⟩⟩)), (by (with_reducible repeat (first | apply Kd.N_alloc | apply Kd.N_drewN | apply Kd.N_drew)); exact Kd.N_mono HO208.out (fun _ hk => ⟨hk.1, ⟨hk.2.1, ⟨hk.2.2.2, hk.2.2.1⟩⟩⟩)), (by (with_reducible repeat (first | apply Kd.N_alloc | apply Kd.N_drewN | apply Kd.N_drew)); exact Kd.N_mono HO211.out (fun _ hk => ⟨hk.1.1, ⟨hk.2, ⟨hk.1.2.1, ⟨hk.1.2.2.2, hk.1.2.2.1⟩⟩⟩⟩)), (by (with_reducible repeat (first | apply Kd.V_alloc | apply Kd.V_drewN | apply Kd.V_drew)); exact Kd.V_mono HO219.out (fun _ hk => ⟨hk.1.1, ⟨hk.2, ⟨hk.1.2.1, ⟨hk.1.2.2.2, hk.1.2.2.1⟩⟩⟩⟩)), (by (with_reducible repeat (first | apply Kd.N_alloc | apply Kd.N_drewN | apply Kd.N_drew)); exact Kd.N_mono HO_5.out (fun _ hk => ⟨hk.1.1, ⟨hk.2, ⟨hk.1.2.1, ⟨hk.1.2.2.2, hk.1.2.2.1⟩⟩⟩⟩)), (by (with_reducible repeat (first | refine blk_drewN ?_ _ | refine blk_drew ?_ | refine blk_alloc ?_ _)); exact BK133.out), (by repeat (first | (with_reducible first | exact HI126.out | apply IsS65.alloc | apply IsS65.drewN | apply IsS65.drew | apply IsS65.set_1 | refine IsS65.far ?_ NB126_133.out _) | exact HI126.out)), (by repeat (first | (with_reducible first | exact HB.out | apply below_alloc | apply pw_below_drewN | apply below_drew1 | refine below_set ?_ (IsS65.ge HI126.out) | refine below_set ?_ GE133.out) | exact HB.out))⟩)
                       skip
                       refine Kd.N_lit_step k38 _ 38 ?hg (N' := 77) ?hd (xs := ([(⟨t131, (wrap64 ((wrap64 (t131 + 1)) + t134)), x134002_2⟩ : S38)] : List (S38))) (inner := [.int .i64 t131, .int .i64 (wrap64 ((wrap64 (t131 + 1)) + t134)), .slice Ao111 x134002_2.length co111]) (ok := (fun k_ => (w.heap.size ≤ k_) ∧ some k_ ≠ (.slice Ao30 x5_1.length co30 : Value).ownBlock ∧ k_ ≠ gb133 ∧ k_ ≠ g126)) (okp := (fun k_ => (w.heap.size ≤ k_) ∧ some k_ ≠ (.slice Ao30 x5_1.length co30 : Value).ownBlock ∧ k_ ≠ gb133 ∧ k_ ≠ g126)) ?hr ?hp (fun _ hk => hk) ((show ∀ k_, w105.heap.size ≤ k_ → (fun k_ => (w.heap.size ≤ k_) ∧ some k_ ≠ (.slice Ao30 x5_1.length co30 : Value).ownBlock ∧ k_ ≠ gb133 ∧ k_ ≠ g126) k_ from fun k_ hk => ⟨(Nat.le_trans (below_size (by repeat (first | (with_reducible first | exact HB.out | apply below_alloc | apply pw_below_drewN | apply below_drew1 | refine below_set ?_ (IsS65.ge HI126.out) | refine below_set ?_ GE133.out) | exact HB.out))) hk), Kd.fresh' (Kd.N_lt (by (with_reducible repeat (first | apply Kd.N_alloc | apply Kd.N_drewN | apply Kd.N_drew)); exact HO_5.out)) k_ hk, Kd.freshB (g := gb133) (o := .cells #[.int .i64 t131, .int .i64 (wrap64 ((wrap64 (t131 + 1)) + t134)), .slice Ao111 x134002_2.length co111] 38 (0, 0)) (by (with_reducible repeat (first | refine blk_drewN ?_ _ | refine blk_drew ?_ | refine blk_alloc ?_ _)); exact BK133.out) k_ hk, IsS65.fresh (by repeat (first | (with_reducible first | exact HI126.out | apply IsS65.alloc | apply IsS65.drewN | apply IsS65.drew | apply IsS65.set_1 | refine IsS65.far ?_ NB126_133.out _) | exact HI126.out)) k_ hk⟩) _ (Nat.le_refl _)) (Below.refl _ _) (Nat.le_refl _) (by simp) ?_; (case hd => rfl); (case hg => rfl); (case hr => first | (go_simp; done) | (go_simp; rfl)); (case hp => exact (Reps.c3 (show Kd.FK k38 _ _ (⟨t131, (wrap64 ((wrap64 (t131 + 1)) + t134)), x134002_2⟩ : S38) [.int .i64 t131, .int .i64 (wrap64 ((wrap64 (t131 + 1)) + t134)), .slice Ao111 x134002_2.length co111] from (k38_mkF _ _ (⟨t131, (wrap64 ((wrap64 (t131 + 1)) + t134)), x134002_2⟩ : S38) (Kd.R_reads' (Kd.R_mono (ok' := (fun k_ => (w.heap.size ≤ k_) ∧ some k_ ≠ (.slice Ao30 x5_1.length co30 : Value).ownBlock ∧ k_ ≠ gb133 ∧ k_ ≠ g126)) (IsS65.apart HI126.out (Kd.R_types (Kd.R_apart' (HO_134002.out) (Kd.N_typed HO_5.out) (by decide)) BK133.out (by decide)) (by decide)) (fun k_ hk => ⟨hk.1.1.1, ⟨hk.1.1.2, ⟨hk.1.2, hk.2⟩⟩⟩))).2.1 (Kd.R_F (Kd.R_mono (ok' := (fun k_ => (w.heap.size ≤ k_) ∧ some k_ ≠ (.slice Ao30 x5_1.length co30 : Value).ownBlock ∧ k_ ≠ gb133 ∧ k_ ≠ g126)) (IsS65.apart HI126.out (Kd.R_types (Kd.R_apart' (HO_134002.out) (Kd.N_typed HO_5.out) (by decide)) BK133.out (by decide)) (by decide)) (fun k_ hk => ⟨hk.1.1.1, ⟨hk.1.1.2, ⟨hk.1.2, hk.2⟩⟩⟩))))) (Reps.none _ _)))
                       intro v210 w109 ho110 hb hg_ hnew_
                       clear hg_ hnew_
                       (first | rw [← Ny209.out] at ho110 | (simp only [Int.reduceToNat] at ho110; rw [← Ny209.out] at ho110))
                       have n0_ := Aside0.mk (Kd.N_elder' (by (with_reducible repeat (first | apply Kd.N_alloc | apply Kd.N_drewN | apply Kd.N_drew)); exact HO_5.out) (Kd.N_base ho110) hb)
                       have n1_ := Aside0.mk (Kd.V_elder' (by (with_reducible repeat (first | apply Kd.V_alloc | apply Kd.V_drewN | apply Kd.V_drew)); exact HO205.out) (Kd.N_base ho110) hb)
                       have n2_ := Aside0.mk (Kd.V_elder' (by (with_reducible repeat (first | apply Kd.V_alloc | apply Kd.V_drewN | apply Kd.V_drew)); exact HO219.out) (Kd.N_base ho110) hb)
                       have n3_ := Aside0.mk (Kd.N_lower ho110 (below_size (by repeat (first | (with_reducible first | exact HB.out | apply below_alloc | apply pw_below_drewN | apply below_drew1 | refine below_set ?_ (IsS65.ge HI126.out) | refine below_set ?_ GE133.out) | exact HB.out))))
                       have n4_ := Aside0.mk (blk_below (g := gb133) (o := .cells #[.int .i64 t131, .int .i64 (wrap64 ((wrap64 (t131 + 1)) + t134)), .slice Ao111 x134002_2.length co111] 38 (0, 0)) (by (with_reducible repeat (first | refine blk_drewN ?_ _ | refine blk_drew ?_ | refine blk_alloc ?_ _)); exact BK133.out) hb)
                       have n5_ := Aside0.mk (IsS65.below (by repeat (first | (with_reducible first | exact HI126.out | apply IsS65.alloc | apply IsS65.drewN | apply IsS65.drew | apply IsS65.set_1 | refine IsS65.far ?_ NB126_133.out _) | exact HI126.out)) hb)
                       have n6_ := Aside0.mk (below_step (by repeat (first | (with_reducible first | exact HB.out | apply below_alloc | apply pw_below_drewN | apply below_drew1 | refine below_set ?_ (IsS65.ge HI126.out) | refine below_set ?_ GE133.out) | exact HB.out)) hb)
                       clear HO_5
                       clear HO205
                       clear HO219
                       clear BK133
                       clear HI126
                       clear HB
                       clear HO_134002
                       have HO_5 := n0_
                       have HO205 := n1_
                       have HO219 := n2_
                       have HO211 := n3_
                       have BK133 := n4_
                       have HI126 := n5_
                       have HB := n6_
                       clear n0_ n1_ n2_ n3_ n4_ n5_ n6_
                       clear hb ho110
                       refine hK.out _ _ ⟨(blk_cell BK133.out 0).trans rfl, (blk_cell BK133.out 1).trans rfl, (blk_cell BK133.out 2).trans rfl⟩ (fun hHeld => ?_)
                       clear hK K
                       refine norm_ (a' := ?_) ?_ ?_
                       rotate_left
                       ·show Act.put _ (some 77) _ = _
                        simp only [Act.put, List.setIfInBounds_toArray, List.set_cons_zero, List.set_cons_succ, i64_w, i32_w]
                        rfl
                       refine one_ (i := 0) (N := some 71) #[true, true, true, true, false, true, true, false, true, true, true, false, false] rfl rfl (one_of HT_.out (by kernel_rfl)) (by decide) (fun K hK => ?_)
                       refine Kd.N_lit_step k38 _ 38 ?hg (N' := 71) ?hd (xs := ([] : List (S38))) (inner := []) (ok := (fun k_ => (w.heap.size ≤ k_) ∧ some k_ ≠ (.slice Ao30 x5_1.length co30 : Value).ownBlock ∧ some k_ ≠ (v210 : Value).ownBlock ∧ k_ ≠ gb133 ∧ k_ ≠ g126)) (okp := (fun k_ => (w.heap.size ≤ k_) ∧ some k_ ≠ (.slice Ao30 x5_1.length co30 : Value).ownBlock ∧ some k_ ≠ (v210 : Value).ownBlock ∧ k_ ≠ gb133 ∧ k_ ≠ g126)) ?hr ?hp (fun _ hk => hk) ((show ∀ k_, w109.heap.size ≤ k_ → (fun k_ => (w.heap.size ≤ k_) ∧ some k_ ≠ (.slice Ao30 x5_1.length co30 : Value).ownBlock ∧ some k_ ≠ (v210 : Value).ownBlock ∧ k_ ≠ gb133 ∧ k_ ≠ g126) k_ from fun k_ hk => ⟨(Nat.le_trans (below_size (by repeat (first | (with_reducible first | exact HB.out | apply below_alloc | apply pw_below_drewN | apply below_drew1 | refine below_set ?_ (IsS65.ge HI126.out) | refine below_set ?_ GE133.out) | exact HB.out))) hk), Kd.fresh' (Kd.N_lt (by (with_reducible repeat (first | apply Kd.N_alloc | apply Kd.N_drewN | apply Kd.N_drew)); exact HO_5.out)) k_ hk, Kd.fresh' (Kd.N_lt (by (with_reducible repeat (first | apply Kd.N_alloc | apply Kd.N_drewN | apply Kd.N_drew)); exact HO211.out)) k_ hk, Kd.freshB (g := gb133) (o := .cells #[.int .i64 t131, .int .i64 (wrap64 ((wrap64 (t131 + 1)) + t134)), .slice Ao111 x134002_2.length co111] 38 (0, 0)) (by (with_reducible repeat (first | refine blk_drewN ?_ _ | refine blk_drew ?_ | refine blk_alloc ?_ _)); exact BK133.out) k_ hk, IsS65.fresh (by repeat (first | (with_reducible first | exact HI126.out | apply IsS65.alloc | apply IsS65.drewN | apply IsS65.drew | apply IsS65.set_1 | refine IsS65.far ?_ NB126_133.out _) | exact HI126.out)) k_ hk⟩) _ (Nat.le_refl _)) (Below.refl _ _) (Nat.le_refl _) (by simp) ?_; (case hd => rfl); (case hg => rfl); (case hr => first | (go_simp; done) | (go_simp; rfl)); (case hp => exact (Reps.none _ _))
                       intro v199 w111 ho112 hb hg_ hnew_
                       clear hg_ hnew_
                       (first | rw [← Ny198.out] at ho112 | (simp only [Int.reduceToNat] at ho112; rw [← Ny198.out] at ho112))
                       have n0_ := Aside0.mk (Kd.N_elder' (by (with_reducible repeat (first | apply Kd.N_alloc | apply Kd.N_drewN | apply Kd.N_drew)); exact HO_5.out) (Kd.N_base ho112) hb)
                       have n1_ := Aside0.mk (Kd.V_elder' (by (with_reducible repeat (first | apply Kd.V_alloc | apply Kd.V_drewN | apply Kd.V_drew)); exact HO205.out) (Kd.N_base ho112) hb)
                       have n2_ := Aside0.mk (Kd.V_elder' (by (with_reducible repeat (first | apply Kd.V_alloc | apply Kd.V_drewN | apply Kd.V_drew)); exact HO219.out) (Kd.N_base ho112) hb)
                       have n3_ := Aside0.mk (Kd.N_elder' (by (with_reducible repeat (first | apply Kd.N_alloc | apply Kd.N_drewN | apply Kd.N_drew)); exact HO211.out) (Kd.N_base ho112) hb)
                       have n4_ := Aside0.mk (Kd.N_lower ho112 (below_size (by repeat (first | (with_reducible first | exact HB.out | apply below_alloc | apply pw_below_drewN | apply below_drew1 | refine below_set ?_ (IsS65.ge HI126.out) | refine below_set ?_ GE133.out) | exact HB.out))))
                       have n5_ := Aside0.mk (blk_below (g := gb133) (o := .cells #[.int .i64 t131, .int .i64 (wrap64 ((wrap64 (t131 + 1)) + t134)), .slice Ao111 x134002_2.length co111] 38 (0, 0)) (by (with_reducible repeat (first | refine blk_drewN ?_ _ | refine blk_drew ?_ | refine blk_alloc ?_ _)); exact BK133.out) hb)
                       have n6_ := Aside0.mk (IsS65.below (by repeat (first | (with_reducible first | exact HI126.out | apply IsS65.alloc | apply IsS65.drewN | apply IsS65.drew | apply IsS65.set_1 | refine IsS65.far ?_ NB126_133.out _) | exact HI126.out)) hb)
                       have n7_ := Aside0.mk (below_step (by repeat (first | (with_reducible first | exact HB.out | apply below_alloc | apply pw_below_drewN | apply below_drew1 | refine below_set ?_ (IsS65.ge HI126.out) | refine below_set ?_ GE133.out) | exact HB.out)) hb)
                       clear HO_5
                       clear HO205
                       clear HO219
                       clear HO211
                       clear BK133
                       clear HI126
                       clear HB
                       have HO_5 := n0_
                       have HO205 := n1_
                       have HO219 := n2_
                       have HO211 := n3_
                       have HO200 := n4_
                       have BK133 := n5_
                       have HI126 := n6_
                       have HB := n7_
                       clear n0_ n1_ n2_ n3_ n4_ n5_ n6_ n7_
                       clear hb ho112
                       refine hK.out _ _ ⟨(blk_cell BK133.out 0).trans rfl, (blk_cell BK133.out 1).trans rfl, (blk_cell BK133.out 2).trans rfl⟩ (fun hHeld => ?_)
                       clear hK K
                       refine norm_ (a' := ?_) ?_ ?_
                       rotate_left
                       ·show Act.put _ (some 71) _ = _
                        simp only [Act.put, List.setIfInBounds_toArray, List.set_cons_zero, List.set_cons_succ, i64_w, i32_w]
                        rfl
                       refine one_ (i := 4) (N := some 75) #[true, true, true, true, true, true, true, false, true, true, true, false, false] rfl rfl (one_of HT_.out (by kernel_rfl)) (by decide) (fun K hK => ?_)
                       refine Kd.N_append_rows_step k38 (w0 := w) w.heap.size (by rfl) (.tmp 71) (.tmp 74) 23 38 (.agg #[(.int .i64 0), (.int .i64 0), (.slice none 0 0)]) 40 rfl Try.underlying23 info38 rfl (by decide) (by omega) v199 y198 y201 _ _ _ (fun k_ => (w.heap.size ≤ k_) ∧ some k_ ≠ (v210 : Value).ownBlock ∧ k_ ≠ gb133 ∧ k_ ≠ g126) (fun k_ => ((fun k_ => (w.heap.size ≤ k_) ∧ some k_ ≠ (v210 : Value).ownBlock ∧ k_ ≠ gb133 ∧ k_ ≠ g126)) k_ ∧ some k_ ≠ (v199 : Value).ownBlock) rfl rfl ?aO ?aR (fun _ hk => hk) ?aF ?aB ?aS ?aL ?_
                       (case aR => exact (by skip; exact Kd.V_F (Kd.V_mono (ok' := (fun k_ => ((fun k_ => (w.heap.size ≤ k_) ∧ some k_ ≠ (v210 : Value).ownBlock ∧ k_ ≠ gb133 ∧ k_ ≠ g126)) k_ ∧ some k_ ≠ (v199 : Value).ownBlock)) (HO205.out) (fun k_ hk => ⟨⟨hk.1.1.1, ⟨hk.1.2, ⟨hk.1.1.2.2.1, hk.1.1.2.2.2⟩⟩⟩, hk.2⟩))))
                       (case aB => exact (by repeat (first | (with_reducible first | exact HB.out | apply below_alloc | apply pw_below_drewN | apply below_drew1 | refine below_set ?_ (IsS65.ge HI126.out) | refine below_set ?_ GE133.out) | exact HB.out)))
                       (case aF => exact (fun k_ hk => ⟨(Nat.le_trans (below_size (by repeat (first | (with_reducible first | exact HB.out | apply below_alloc | apply pw_below_drewN | apply below_drew1 | refine below_set ?_ (IsS65.ge HI126.out) | refine below_set ?_ GE133.out) | exact HB.out))) hk), Kd.fresh' (Kd.N_lt (by (with_reducible repeat (first | apply Kd.N_alloc | apply Kd.N_drewN | apply Kd.N_drew)); exact HO211.out)) k_ hk, Kd.freshB (g := gb133) (o := .cells #[.int .i64 t131, .int .i64 (wrap64 ((wrap64 (t131 + 1)) + t134)), .slice Ao111 x134002_2.length co111] 38 (0, 0)) (by (with_reducible repeat (first | refine blk_drewN ?_ _ | refine blk_drew ?_ | refine blk_alloc ?_ _)); exact BK133.out) k_ hk, IsS65.fresh (by repeat (first | (with_reducible first | exact HI126.out | apply IsS65.alloc | apply IsS65.drewN | apply IsS65.drew | apply IsS65.set_1 | refine IsS65.far ?_ NB126_133.out _) | exact HI126.out)) k_ hk⟩))
                       (case aO => exact (by (with_reducible repeat (first | apply Kd.N_alloc | apply Kd.N_drewN | apply Kd.N_drew)); exact Kd.N_mono HO200.out (fun _ hk => ⟨hk.1, ⟨hk.2.2.1, ⟨hk.2.2.2.1, hk.2.2.2.2⟩⟩⟩)))
                       (case aS => exact (below_size (by repeat (first | (with_reducible first | exact HB.out | apply below_alloc | apply pw_below_drewN | apply below_drew1 | refine below_set ?_ (IsS65.ge HI126.out) | refine below_set ?_ GE133.out) | exact HB.out))))
                       (case aL => have := LMc98.out; omega)
                       intro v207 w113 ho hb hg hat
                       rw [← Ny206.out] at ho
                       have n0_ := Aside0.mk (Kd.N_afterv (ok := (fun k_ => (w.heap.size ≤ k_) ∧ some k_ ≠ (v210 : Value).ownBlock ∧ k_ ≠ gb133 ∧ k_ ≠ g126)) (by (with_reducible repeat (first | apply Kd.N_alloc | apply Kd.N_drewN | apply Kd.N_drew)); exact Kd.N_mono HO_5.out (fun _ hk => ⟨⟨hk.1.1.1, ⟨hk.1.2, ⟨hk.1.1.2.2.1, hk.1.1.2.2.2⟩⟩⟩, hk.2⟩)) hg hat)
                       have n1_ := Aside0.mk (blk_grown (g := gb133) (o := .cells #[.int .i64 t131, .int .i64 (wrap64 ((wrap64 (t131 + 1)) + t134)), .slice Ao111 x134002_2.length co111] 38 (0, 0)) (by (with_reducible repeat (first | refine blk_drewN ?_ _ | refine blk_drew ?_ | refine blk_alloc ?_ _)); exact BK133.out) hg (Kd.N_away HO200.out (fun _ hk => hk.2.2.2.1)))
                       have n2_ := Aside0.mk (IsS65.grown (by repeat (first | (with_reducible first | exact HI126.out | apply IsS65.alloc | apply IsS65.drewN | apply IsS65.drew | apply IsS65.set_1 | refine IsS65.far ?_ NB126_133.out _) | exact HI126.out)) hg (IsS65.own_neN HI126.out HO200.out (by decide)))
                       have n3_ := Aside0.mk (Kd.V_afterv (ok := (fun k_ => (w.heap.size ≤ k_) ∧ some k_ ≠ (v210 : Value).ownBlock ∧ k_ ≠ gb133 ∧ k_ ≠ g126)) (by (with_reducible repeat (first | apply Kd.V_alloc | apply Kd.V_drewN | apply Kd.V_drew)); exact Kd.V_mono HO205.out (fun _ hk => ⟨⟨hk.1.1.1, ⟨hk.1.2, ⟨hk.1.1.2.2.1, hk.1.1.2.2.2⟩⟩⟩, hk.2⟩)) hg hat)
                       have n4_ := Aside0.mk (Kd.V_afterv (ok := (fun k_ => (w.heap.size ≤ k_) ∧ some k_ ≠ (v210 : Value).ownBlock ∧ k_ ≠ gb133 ∧ k_ ≠ g126)) (by (with_reducible repeat (first | apply Kd.V_alloc | apply Kd.V_drewN | apply Kd.V_drew)); exact Kd.V_mono HO219.out (fun _ hk => ⟨⟨hk.1.1.1, ⟨hk.1.2, ⟨hk.1.1.2.2.1, hk.1.1.2.2.2⟩⟩⟩, hk.2⟩)) hg hat)
                       have n5_ := Aside0.mk (Kd.N_afterv (ok := (fun k_ => (w.heap.size ≤ k_) ∧ some k_ ≠ (.slice Ao30 x5_1.length co30 : Value).ownBlock ∧ k_ ≠ gb133 ∧ k_ ≠ g126)) (by (with_reducible repeat (first | apply Kd.N_alloc | apply Kd.N_drewN | apply Kd.N_drew)); exact HO211.out) hg hat)
                       have n6_ := Aside0.mk (hb)
                       have n7_ := Aside0.mk (ho)
                       clear HO_5
                       clear BK133
                       clear HI126
                       clear HO205
                       clear HO219
                       clear HO211
                       clear HB
                       clear HO200
                       have HO_5 := n0_
                       have BK133 := n1_
                       have HI126 := n2_
                       have HO205 := n3_
                       have HO219 := n4_
                       have HO211 := n5_
                       have HB := n6_
                       have HO208 := n7_
                       clear n0_ n1_ n2_ n3_ n4_ n5_ n6_ n7_
                       clear ho hb hg hat
                       refine hK.out _ _ ⟨(blk_cell BK133.out 0).trans rfl, (blk_cell BK133.out 1).trans rfl, (blk_cell BK133.out 2).trans rfl⟩ (fun hHeld => ?_)
                       clear hK K
                       refine norm_ (a' := ?_) ?_ ?_
                       rotate_left
                       ·show Act.put _ (some 75) _ = _
                        simp only [Act.put, List.setIfInBounds_toArray, List.set_cons_zero, List.set_cons_succ, i64_w, i32_w]
                        rfl
                       exact norm_ (by simp only [putAll, Act.put, List.setIfInBounds_toArray, List.set_cons_zero, List.set_cons_succ]) (hCont (v199, v207, v210) _ ⟨hHeld, (by (with_reducible repeat (first | apply Kd.V_alloc | apply Kd.V_drewN | apply Kd.V_drew)); exact Kd.V_mono HO205.out (fun _ hk => ⟨hk.1.1, ⟨hk.2, ⟨hk.1.2.1, ⟨hk.1.2.2.2, hk.1.2.2.1⟩⟩⟩⟩)), (by (with_reducible repeat (first | apply Kd.N_alloc | apply Kd.N_drewN | apply Kd.N_drew)); exact Kd.N_mono HO208.out (fun _ hk => ⟨hk.1, ⟨hk.2.1, ⟨hk.2.2.2, hk.2.2.1⟩⟩⟩)), (by (with_reducible repeat (first | apply Kd.N_alloc | apply Kd.N_drewN | apply Kd.N_drew)); exact Kd.N_mono HO211.out (fun _ hk => ⟨hk.1.1, ⟨hk.2, ⟨hk.1.2.1, ⟨hk.1.2.2.2, hk.1.2.2.1⟩⟩⟩⟩)), (by (with_reducible repeat (first | apply Kd.V_alloc | apply Kd.V_drewN | apply Kd.V_drew)); exact Kd.V_mono HO219.out (fun _ hk => ⟨hk.1.1, ⟨hk.2, ⟨hk.1.2.1, ⟨hk.1.2.2.2, hk.1.2.2.1⟩⟩⟩⟩)), (by (with_reducible repeat (first | apply Kd.N_alloc | apply Kd.N_drewN | apply Kd.N_drew)); exact Kd.N_mono HO_5.out (fun _ hk => ⟨hk.1.1, ⟨hk.2, ⟨hk.1.2.1, ⟨hk.1.2.2.2, hk.1.2.2.1⟩⟩⟩⟩)), (by (with_reducible repeat (first | refine blk_drewN ?_ _ | refine blk_drew ?_ | refine blk_alloc ?_ _)); exact BK133.out), (by repeat (first | (with_reducible first | exact HI126.out | apply IsS65.alloc | apply IsS65.drewN | apply IsS65.drew | apply IsS65.set_1 | refine IsS65.far ?_ NB126_133.out _) | exact HI126.out)), (by repeat (first | (with_reducible first | exact HB.out | apply below_alloc | apply pw_below_drewN | apply below_drew1 | refine below_set ?_ (IsS65.ge HI126.out) | refine below_set ?_ GE133.out) | exact HB.out))⟩)
                      rintro ⟨v199, v207, v210⟩ w114 ⟨hS_, h0_, h1_, h2_, h3_, h4_, h5_, h6_, h7_⟩
                      have n0_ : Aside0 (Kd.V k38 38 w114 w.heap.size (fun k_ => (w.heap.size ≤ k_) ∧ some k_ ≠ (v207 : Value).ownBlock ∧ some k_ ≠ (v210 : Value).ownBlock ∧ k_ ≠ g126 ∧ k_ ≠ gb133) (.slice Ao30 y201.length co30) y201) := ⟨h0_⟩
                      have n1_ : Aside0 (Kd.N k38 38 w114 w.heap.size (fun k_ => (w.heap.size ≤ k_) ∧ some k_ ≠ (v210 : Value).ownBlock ∧ k_ ≠ g126 ∧ k_ ≠ gb133) v207 y206) := ⟨h1_⟩
                      have n2_ : Aside0 (Kd.N k38 38 w114 w.heap.size (fun k_ => (w.heap.size ≤ k_) ∧ some k_ ≠ (v207 : Value).ownBlock ∧ some k_ ≠ (.slice Ao30 x5_1.length co30 : Value).ownBlock ∧ k_ ≠ g126 ∧ k_ ≠ gb133) v210 y209) := ⟨h2_⟩
                      have n3_ : Aside0 (Kd.V k38 38 w114 w.heap.size (fun k_ => (w.heap.size ≤ k_) ∧ some k_ ≠ (v207 : Value).ownBlock ∧ some k_ ≠ (v210 : Value).ownBlock ∧ k_ ≠ g126 ∧ k_ ≠ gb133) (.slice A107 y215.length c107) y215) := ⟨h3_⟩
                      have n4_ : Aside0 (Kd.N k38 38 w114 w.heap.size (fun k_ => (w.heap.size ≤ k_) ∧ some k_ ≠ (v207 : Value).ownBlock ∧ some k_ ≠ (v210 : Value).ownBlock ∧ k_ ≠ g126 ∧ k_ ≠ gb133) (.slice Ao30 x5_1.length co30) x5_1) := ⟨h4_⟩
                      have n5_ : Aside0 (w114.heap[gb133]? = some (.cells #[.int .i64 t131, .int .i64 (wrap64 ((wrap64 (t131 + 1)) + t134)), .slice Ao111 x134002_2.length co111] 38 (0, 0))) := ⟨h5_⟩
                      have n6_ : Aside0 (IsS65 w w114 g126 t124 x127001_2) := ⟨h6_⟩
                      have n7_ : Aside0 (Below w.heap.size w w114) := ⟨h7_⟩
                      clear HO_5
                      clear HO_134002
                      clear BK133
                      clear HI126
                      clear HB
                      clear h0_ h1_ h2_ h3_ h4_ h5_ h6_ h7_
                      have HO205 := n0_
                      have HO208 := n1_
                      have HO211 := n2_
                      have HO219 := n3_
                      have HO_5 := n4_
                      have BK133 := n5_
                      have HI126 := n6_
                      have HB := n7_
                      clear n0_ n1_ n2_ n3_ n4_ n5_ n6_ n7_
                      have hHeld : w114.cell? ⟨gb133, 0, none⟩ = some (.int .i64 t131) ∧ w114.cell? ⟨gb133, 1, none⟩ = some (.int .i64 (wrap64 ((wrap64 (t131 + 1)) + t134))) ∧ w114.cell? ⟨gb133, 2, none⟩ = some ((.slice Ao111 x134002_2.length co111)) := hS_
                      obtain ⟨Ao116, co116, eo116⟩ := Kd.N_slice HO211.out
                      (first | subst eo116 | (injection eo116 with f1_ f2_ f3_; have f4_ := f1_.symm; have f5_ := f3_.symm; clear f1_ f2_ f3_; subst f4_; subst f5_))
                      refine norm_ (a' := ?_) ?_ ?_
                      rotate_left
                      ·simp only [putAll, Act.put, List.setIfInBounds_toArray, List.set_cons_zero, List.set_cons_succ]
                       rfl
                      refine one_ (i := 7) (N := some 78) #[true, true, true, true, true, true, true, true, true, true, true, false, false] rfl rfl (one_of HT_.out (by kernel_rfl)) (by decide) (fun K hK => ?_)
                      refine Kd.N_append_rows_step k38 (w0 := w) w.heap.size (by rfl) (.tmp 75) (.tmp 77) 23 38 (.agg #[(.int .i64 0), (.int .i64 0), (.slice none 0 0)]) 40 rfl Try.underlying23 info38 rfl (by decide) (by omega) v207 y206 y209 _ _ _ (fun k_ => (w.heap.size ≤ k_) ∧ k_ ≠ gb133 ∧ k_ ≠ g126) (fun k_ => ((fun k_ => (w.heap.size ≤ k_) ∧ k_ ≠ gb133 ∧ k_ ≠ g126)) k_ ∧ some k_ ≠ (v207 : Value).ownBlock) rfl rfl ?aO ?aR (fun _ hk => hk) ?aF ?aB ?aS ?aL ?_
                      (case aR => exact (by skip; exact Kd.N_F (Kd.N_mono (ok' := (fun k_ => ((fun k_ => (w.heap.size ≤ k_) ∧ k_ ≠ gb133 ∧ k_ ≠ g126)) k_ ∧ some k_ ≠ (v207 : Value).ownBlock)) (HO211.out) (fun k_ hk => ⟨⟨hk.1, ⟨hk.2.2.2.2, hk.2.2.2.1⟩⟩, hk.2.1⟩))))
                      (case aB => exact (by repeat (first | (with_reducible first | exact HB.out | apply below_alloc | apply pw_below_drewN | apply below_drew1 | refine below_set ?_ (IsS65.ge HI126.out) | refine below_set ?_ GE133.out) | exact HB.out)))
                      (case aF => exact (fun k_ hk => ⟨(Nat.le_trans (below_size (by repeat (first | (with_reducible first | exact HB.out | apply below_alloc | apply pw_below_drewN | apply below_drew1 | refine below_set ?_ (IsS65.ge HI126.out) | refine below_set ?_ GE133.out) | exact HB.out))) hk), Kd.freshB (g := gb133) (o := .cells #[.int .i64 t131, .int .i64 (wrap64 ((wrap64 (t131 + 1)) + t134)), .slice Ao111 x134002_2.length co111] 38 (0, 0)) (by (with_reducible repeat (first | refine blk_drewN ?_ _ | refine blk_drew ?_ | refine blk_alloc ?_ _)); exact BK133.out) k_ hk, IsS65.fresh (by repeat (first | (with_reducible first | exact HI126.out | apply IsS65.alloc | apply IsS65.drewN | apply IsS65.drew | apply IsS65.set_1 | refine IsS65.far ?_ NB126_133.out _) | exact HI126.out)) k_ hk⟩))
                      (case aO => exact (by (with_reducible repeat (first | apply Kd.N_alloc | apply Kd.N_drewN | apply Kd.N_drew)); exact Kd.N_mono HO208.out (fun _ hk => ⟨hk.1, ⟨hk.2.2.2, hk.2.2.1⟩⟩)))
                      (case aS => exact (below_size (by repeat (first | (with_reducible first | exact HB.out | apply below_alloc | apply pw_below_drewN | apply below_drew1 | refine below_set ?_ (IsS65.ge HI126.out) | refine below_set ?_ GE133.out) | exact HB.out))))
                      (case aL => have := LMc99.out; omega)
                      intro v213 w115 ho hb hg hat
                      rw [← Ny212.out] at ho
                      have n0_ := Aside0.mk (Kd.N_afterv (ok := (fun k_ => (w.heap.size ≤ k_) ∧ some k_ ≠ (.slice Ao116 y209.length co116 : Value).ownBlock ∧ k_ ≠ g126 ∧ k_ ≠ gb133)) (by (with_reducible repeat (first | apply Kd.N_alloc | apply Kd.N_drewN | apply Kd.N_drew)); exact Kd.N_mono HO_5.out (fun _ hk => ⟨⟨hk.1, ⟨hk.2.2.1, ⟨hk.2.2.2.1, hk.2.2.2.2⟩⟩⟩, hk.2.1⟩)) hg hat)
                      have n1_ := Aside0.mk (blk_grown (g := gb133) (o := .cells #[.int .i64 t131, .int .i64 (wrap64 ((wrap64 (t131 + 1)) + t134)), .slice Ao111 x134002_2.length co111] 38 (0, 0)) (by (with_reducible repeat (first | refine blk_drewN ?_ _ | refine blk_drew ?_ | refine blk_alloc ?_ _)); exact BK133.out) hg (Kd.N_away HO208.out (fun _ hk => hk.2.2.2)))
                      have n2_ := Aside0.mk (IsS65.grown (by repeat (first | (with_reducible first | exact HI126.out | apply IsS65.alloc | apply IsS65.drewN | apply IsS65.drew | apply IsS65.set_1 | refine IsS65.far ?_ NB126_133.out _) | exact HI126.out)) hg (IsS65.own_neN HI126.out HO208.out (by decide)))
                      have n3_ := Aside0.mk (Kd.V_afterv (ok := (fun k_ => (w.heap.size ≤ k_) ∧ some k_ ≠ (.slice Ao116 y209.length co116 : Value).ownBlock ∧ k_ ≠ g126 ∧ k_ ≠ gb133)) (by (with_reducible repeat (first | apply Kd.V_alloc | apply Kd.V_drewN | apply Kd.V_drew)); exact Kd.V_mono HO205.out (fun _ hk => ⟨⟨hk.1, ⟨hk.2.2.1, ⟨hk.2.2.2.1, hk.2.2.2.2⟩⟩⟩, hk.2.1⟩)) hg hat)
                      have n4_ := Aside0.mk (Kd.V_afterv (ok := (fun k_ => (w.heap.size ≤ k_) ∧ some k_ ≠ (.slice Ao116 y209.length co116 : Value).ownBlock ∧ k_ ≠ g126 ∧ k_ ≠ gb133)) (by (with_reducible repeat (first | apply Kd.V_alloc | apply Kd.V_drewN | apply Kd.V_drew)); exact Kd.V_mono HO219.out (fun _ hk => ⟨⟨hk.1, ⟨hk.2.2.1, ⟨hk.2.2.2.1, hk.2.2.2.2⟩⟩⟩, hk.2.1⟩)) hg hat)
                      have n5_ := Aside0.mk (Kd.N_afterv (ok := (fun k_ => (w.heap.size ≤ k_) ∧ some k_ ≠ (.slice Ao30 x5_1.length co30 : Value).ownBlock ∧ k_ ≠ g126 ∧ k_ ≠ gb133)) (by (with_reducible repeat (first | apply Kd.N_alloc | apply Kd.N_drewN | apply Kd.N_drew)); exact Kd.N_mono HO211.out (fun _ hk => ⟨⟨hk.1, ⟨hk.2.2.1, ⟨hk.2.2.2.1, hk.2.2.2.2⟩⟩⟩, hk.2.1⟩)) hg hat)
                      have n6_ := Aside0.mk (hb)
                      have n7_ := Aside0.mk (ho)
                      clear HO_5
                      clear BK133
                      clear HI126
                      clear HO205
                      clear HO219
                      clear HO211
                      clear HB
                      clear HO208
                      have HO_5 := n0_
                      have BK133 := n1_
                      have HI126 := n2_
                      have HO205 := n3_
                      have HO219 := n4_
                      have HO211 := n5_
                      have HB := n6_
                      have HO214 := n7_
                      clear n0_ n1_ n2_ n3_ n4_ n5_ n6_ n7_
                      clear ho hb hg hat
                      refine hK.out _ _ ⟨(blk_cell BK133.out 0).trans rfl, (blk_cell BK133.out 1).trans rfl, (blk_cell BK133.out 2).trans rfl⟩ (fun hHeld => ?_)
                      clear hK K
                      refine norm_ (a' := ?_) ?_ ?_
                      rotate_left
                      ·show Act.put _ (some 78) _ = _
                       simp only [Act.put, List.setIfInBounds_toArray, List.set_cons_zero, List.set_cons_succ, i64_w, i32_w]
                       rfl
                      refine one_ (i := 11) (N := some 82) #[true, true, true, true, true, true, true, true, true, true, true, true, false] rfl rfl (one_of HT_.out (by kernel_rfl)) (by decide) (fun K hK => ?_)
                      refine Kd.N_append_rows_step k38 (w0 := w) w.heap.size (by rfl) (.tmp 78) (.tmp 81) 23 38 (.agg #[(.int .i64 0), (.int .i64 0), (.slice none 0 0)]) 40 rfl Try.underlying23 info38 rfl (by decide) (by omega) v213 y212 y215 _ _ _ (fun k_ => (w.heap.size ≤ k_) ∧ k_ ≠ gb133 ∧ k_ ≠ g126) (fun k_ => ((fun k_ => (w.heap.size ≤ k_) ∧ k_ ≠ gb133 ∧ k_ ≠ g126)) k_ ∧ some k_ ≠ (v213 : Value).ownBlock) rfl rfl ?aO ?aR (fun _ hk => hk) ?aF ?aB ?aS ?aL ?_
                      (case aR => exact (by skip; exact Kd.V_F (Kd.V_mono (ok' := (fun k_ => ((fun k_ => (w.heap.size ≤ k_) ∧ k_ ≠ gb133 ∧ k_ ≠ g126)) k_ ∧ some k_ ≠ (v213 : Value).ownBlock)) (HO219.out) (fun k_ hk => ⟨⟨hk.1.1, ⟨hk.1.2.2.2, hk.1.2.2.1⟩⟩, hk.2⟩))))
                      (case aB => exact (by repeat (first | (with_reducible first | exact HB.out | apply below_alloc | apply pw_below_drewN | apply below_drew1 | refine below_set ?_ (IsS65.ge HI126.out) | refine below_set ?_ GE133.out) | exact HB.out)))
                      (case aF => exact (fun k_ hk => ⟨(Nat.le_trans (below_size (by repeat (first | (with_reducible first | exact HB.out | apply below_alloc | apply pw_below_drewN | apply below_drew1 | refine below_set ?_ (IsS65.ge HI126.out) | refine below_set ?_ GE133.out) | exact HB.out))) hk), Kd.freshB (g := gb133) (o := .cells #[.int .i64 t131, .int .i64 (wrap64 ((wrap64 (t131 + 1)) + t134)), .slice Ao111 x134002_2.length co111] 38 (0, 0)) (by (with_reducible repeat (first | refine blk_drewN ?_ _ | refine blk_drew ?_ | refine blk_alloc ?_ _)); exact BK133.out) k_ hk, IsS65.fresh (by repeat (first | (with_reducible first | exact HI126.out | apply IsS65.alloc | apply IsS65.drewN | apply IsS65.drew | apply IsS65.set_1 | refine IsS65.far ?_ NB126_133.out _) | exact HI126.out)) k_ hk⟩))
                      (case aO => exact (by (with_reducible repeat (first | apply Kd.N_alloc | apply Kd.N_drewN | apply Kd.N_drew)); exact HO214.out))
                      (case aS => exact (below_size (by repeat (first | (with_reducible first | exact HB.out | apply below_alloc | apply pw_below_drewN | apply below_drew1 | refine below_set ?_ (IsS65.ge HI126.out) | refine below_set ?_ GE133.out) | exact HB.out))))
                      (case aL => have := LMc102.out; omega)
                      intro v221 w117 ho hb hg hat
                      rw [← Ny220.out] at ho
                      have n0_ := Aside0.mk (Kd.N_afterv (ok := (fun k_ => (w.heap.size ≤ k_) ∧ some k_ ≠ (.slice Ao116 y209.length co116 : Value).ownBlock ∧ k_ ≠ g126 ∧ k_ ≠ gb133)) (by (with_reducible repeat (first | apply Kd.N_alloc | apply Kd.N_drewN | apply Kd.N_drew)); exact HO_5.out) hg hat)
                      have n1_ := Aside0.mk (blk_grown (g := gb133) (o := .cells #[.int .i64 t131, .int .i64 (wrap64 ((wrap64 (t131 + 1)) + t134)), .slice Ao111 x134002_2.length co111] 38 (0, 0)) (by (with_reducible repeat (first | refine blk_drewN ?_ _ | refine blk_drew ?_ | refine blk_alloc ?_ _)); exact BK133.out) hg (Kd.N_away HO214.out (fun _ hk => hk.2.1)))
                      have n2_ := Aside0.mk (IsS65.grown (by repeat (first | (with_reducible first | exact HI126.out | apply IsS65.alloc | apply IsS65.drewN | apply IsS65.drew | apply IsS65.set_1 | refine IsS65.far ?_ NB126_133.out _) | exact HI126.out)) hg (IsS65.own_neN HI126.out HO214.out (by decide)))
                      have n3_ := Aside0.mk (Kd.V_afterv (ok := (fun k_ => (w.heap.size ≤ k_) ∧ some k_ ≠ (.slice Ao116 y209.length co116 : Value).ownBlock ∧ k_ ≠ g126 ∧ k_ ≠ gb133)) (by (with_reducible repeat (first | apply Kd.V_alloc | apply Kd.V_drewN | apply Kd.V_drew)); exact HO205.out) hg hat)
                      have n4_ := Aside0.mk (Kd.V_afterv (ok := (fun k_ => (w.heap.size ≤ k_) ∧ some k_ ≠ (.slice Ao116 y209.length co116 : Value).ownBlock ∧ k_ ≠ g126 ∧ k_ ≠ gb133)) (by (with_reducible repeat (first | apply Kd.V_alloc | apply Kd.V_drewN | apply Kd.V_drew)); exact HO219.out) hg hat)
                      have n5_ := Aside0.mk (Kd.N_afterv (ok := (fun k_ => (w.heap.size ≤ k_) ∧ some k_ ≠ (.slice Ao30 x5_1.length co30 : Value).ownBlock ∧ k_ ≠ g126 ∧ k_ ≠ gb133)) (by (with_reducible repeat (first | apply Kd.N_alloc | apply Kd.N_drewN | apply Kd.N_drew)); exact HO211.out) hg hat)
                      have n6_ := Aside0.mk (hb)
                      have n7_ := Aside0.mk (ho)
                      clear HO_5
                      clear BK133
                      clear HI126
                      clear HO205
                      clear HO219
                      clear HO211
                      clear HB
                      clear HO214
                      have HO_5 := n0_
                      have BK133 := n1_
                      have HI126 := n2_
                      have HO205 := n3_
                      have HO219 := n4_
                      have HO211 := n5_
                      have HB := n6_
                      have HO222 := n7_
                      clear n0_ n1_ n2_ n3_ n4_ n5_ n6_ n7_
                      clear ho hb hg hat
                      refine hK.out _ _ ⟨(blk_cell BK133.out 0).trans rfl, (blk_cell BK133.out 1).trans rfl, (blk_cell BK133.out 2).trans rfl⟩ (fun hHeld => ?_)
                      clear hK K
                      refine norm_ (a' := ?_) ?_ ?_
                      rotate_left
                      ·show Act.put _ (some 82) _ = _
                       simp only [Act.put, List.setIfInBounds_toArray, List.set_cons_zero, List.set_cons_succ, i64_w, i32_w]
                       rfl
                      refine pure_ (i := 12) (N := some 5) (v := ?_) (a' := ?_) #[true, true, true, true, true, true, true, true, true, true, true, true, true] rfl rfl (any_of HT_.out (by kernel_rfl)) (fun _ _ _ h => h) (Or.inl ⟨by rfl, ?_⟩) ?_ ?_
                      rotate_left
                      ·intro w'
                       go_simp
                       with_reducible rfl
                      rotate_left
                      ·simp only [Act.put, List.setIfInBounds_toArray, List.set_cons_zero, List.set_cons_succ, i64_w, i32_w]
                       rfl
                      refine done_ (done_of HT_.out (by kernel_rfl)) ?_
                      try go_wp2
                      go_roundg k3
                      case measure => have := HK1.out; have := HK2.out; have := HK3.out; omega
                      case rel => exact ⟨(y220), (wrap64 (x6_1 - 1)), (x127001_2), (by first | rfl | (simp; done) | (simp [*]; done)), H', ⟨by have := HK1.out; have := HK2.out; have := HK3.out; omega⟩, ⟨by (with_reducible repeat (first | apply Kd.N_alloc | apply Kd.N_drewN | apply Kd.N_drew)); exact Kd.N_mono HO222.out (fun _ hk => ⟨hk.1, hk.2.2⟩)⟩, ⟨by repeat (first | (with_reducible first | exact HI126.out | apply IsS65.alloc | apply IsS65.drewN | apply IsS65.drew | apply IsS65.set_1 | refine IsS65.far ?_ NB126_133.out _) | exact HI126.out)⟩, ⟨by repeat (first | (with_reducible first | exact HB.out | apply below_alloc | apply pw_below_drewN | apply below_drew1 | refine below_set ?_ (IsS65.ge HI126.out) | refine below_set ?_ GE133.out) | exact HB.out)⟩⟩
                     rw [if_neg c102] at H
                     exact absurd H (by simp)
                    rw [if_neg c99] at H
                    exact absurd H (by simp)
                   rw [if_neg c98] at H
                   exact absurd H (by simp)
                  rw [if_neg c97] at H
                  exact absurd H (by simp)
                 rw [if_neg c96] at H
                 exact absurd H (by simp)
               | false =>
                 rw [if_neg (by simp)] at H
                 have H' := Aside0.mk H
                 clear H
                 go_wp2
                 go_roundg k3
                 case measure => have := HK1.out; have := HK2.out; have := HK3.out; omega
                 case rel => exact ⟨(x5_1), (wrap64 (x6_1 - 1)), (x127001_2), (by first | rfl | (simp; done) | (simp [*]; done)), H', ⟨by have := HK1.out; have := HK2.out; have := HK3.out; omega⟩, ⟨by (with_reducible repeat (first | apply Kd.N_alloc | apply Kd.N_drewN | apply Kd.N_drew)); exact Kd.N_mono HO_5.out (fun _ hk => ⟨hk.1, hk.2.2.2⟩)⟩, ⟨by repeat (first | (with_reducible first | exact HI126.out | apply IsS65.alloc | apply IsS65.drewN | apply IsS65.drew | apply IsS65.set_1 | refine IsS65.far ?_ NB126_133.out _) | exact HI126.out)⟩, ⟨by repeat (first | (with_reducible first | exact HB.out | apply below_alloc | apply pw_below_drewN | apply below_drew1 | refine below_set ?_ (IsS65.ge HI126.out) | refine below_set ?_ GE133.out) | exact HB.out)⟩⟩
      rw [if_neg c8] at H
      have c8b0 : decide (0 < x6_1) = false := decide_eq_false c8
      clear c8
      obtain rfl := Option.some.inj H
      go_wp2
      go_ret
      exact ⟨_, by first | rfl | (simp [errW_none, errW_some] <;> rfl) | (simp [*, errW_none, errW_some] <;> rfl), by (with_reducible repeat (first | apply Kd.N_alloc | apply Kd.N_drewN | apply Kd.N_drew)); exact Kd.N_mono HO_5.out (fun _ hk => hk.1), by repeat (first | (with_reducible first | exact HB.out | apply below_alloc | apply pw_below_drewN | apply below_drew1 | refine below_set ?_ (IsS65.ge HI126.out)) | exact HB.out)⟩

end Go.Proofs.Ytmmdlkeemafanaa.Q
