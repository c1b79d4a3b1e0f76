/- 'StrategySpans', the walk: if the callees answer as said, the law returns true. Its premises are the callees' contracts. -/
import Derived.Test.YtmmdlkeemafanaaSe
import Derived.Test.YtmmdlkeemafanaaY
namespace Go.Proofs.Ytmmdlkeemafanaa.Q
open Go.RowKit Go.Proofs.YtmmdlkeemafanaaW.PrintWords Go.Proofs.YtmmdlkeemafanaaW.PrintLast Go.Proofs.YtmmdlkeemafanaaW.PrintMore
set_option linter.unusedVariables false
set_option linter.unusedSimpArgs false

def memB (L : List S38) (p q : Int) : Bool := L.any fun m => p == m.f0 && q == m.f1

theorem mem_take (L : List S38) (j : Int) (h0 : 0 ≤ j) (h : j < L.length) : memB (L.take (j.toNat + 1)) = fun p q => (p == (rd_T38 L j).f0 && q == (rd_T38 L j).f1) || memB (L.take j.toNat) p q := by
  have e : L.take (j.toNat + 1) = L.take j.toNat ++ [rd_T38 L j] := by
    rw [List.take_succ_eq_append_getElem (by omega)]
    unfold rd_T38
    rw [List.getD_eq_getElem?_getD, List.getElem?_eq_getElem (by omega)]
    rfl
  funext p q
  rw [e]
  unfold memB
  simp [List.any_append, Bool.or_comm]
def cnt (a L : List S38) : Int := ((L.filter fun m => memB a m.f0 m.f1).length : Int)
theorem cnt_pos (a L : List S38) : 0 ≤ cnt a L := by unfold cnt; omega
theorem cnt_at (a x : List S38) (ha : a = x.filter fun m => memB a m.f0 m.f1) (j : Int) (h0 : 0 ≤ j) (h : j < x.length) :
    (memB a (rd_T38 x j).f0 (rd_T38 x j).f1 = true → cnt a (x.take j.toNat) < a.length ∧ rd_T38 a (cnt a (x.take j.toNat)) = rd_T38 x j ∧ cnt a (x.take (j + 1).toNat) = cnt a (x.take j.toNat) + 1) ∧
    (memB a (rd_T38 x j).f0 (rd_T38 x j).f1 = false → cnt a (x.take (j + 1).toNat) = cnt a (x.take j.toNat)) := by
  have hl : j.toNat < x.length := by omega
  have e1 : rd_T38 x j = x[j.toNat] := by
    unfold rd_T38
    rw [List.getD_eq_getElem?_getD, List.getElem?_eq_getElem hl]
    rfl
  have e2 : x.take (j + 1).toNat = x.take j.toNat ++ [x[j.toNat]] := by rw [show (j + 1).toNat = j.toNat + 1 by omega, List.take_succ_eq_append_getElem hl]
  have e3 : x = x.take j.toNat ++ x[j.toNat] :: x.drop (j.toNat + 1) := by rw [← List.drop_eq_getElem_cons hl, List.take_append_drop]
  rw [e1, e2]
  generalize hm : x[j.toNat] = m at *
  generalize x.take j.toNat = t at *
  generalize x.drop (j.toNat + 1) = d at *
  unfold cnt
  rw [List.filter_append]
  constructor
  · intro hs
    have e4 : a = (t.filter fun m => memB a m.f0 m.f1) ++ m :: d.filter fun m => memB a m.f0 m.f1 := by
      conv => lhs; rw [ha, e3, List.filter_append, List.filter_cons, if_pos hs]
    generalize hg : (t.filter fun m => memB a m.f0 m.f1) = u at *
    generalize (d.filter fun m => memB a m.f0 m.f1) = v at *
    refine ⟨by rw [e4]; simp; omega, ?_, by simp [hs]⟩
    rw [e4]
    unfold rd_T38
    simp
  · intro hs
    simp [hs]
set_option maxHeartbeats 4000000 in
set_option maxRecDepth 100000 in
theorem spans6 (x a : List S38) (st a1 : Int) (A0 : Option Addr) (n0 c0 : Nat) (w : World)
    (hlist : Calls Try.prog 10 #[.slice A0 n0 c0] w fun e w' => ∃ v, e = .returned v ∧ Kd.N k38 38 w' w.heap.size (fun k_ => w.heap.size ≤ k_) v x ∧ Below w.heap.size w w')
    (hmod : ∀ W, Calls Try.prog 11 #[.int .i64 a1, .int .i64 4] W fun e w' => e = .returned (.int .i64 st) ∧ ∃ n, w' = W.drewN n)
    (hcho : ∀ W A c, Kd.C k38 W A x.length x → x.length ≤ c → Calls Try.prog 12 #[.int .i64 st, .slice A x.length c] W fun e w' => ∃ v0_ : Value, e = .returned (.tuple #[v0_, .int .i64 0]) ∧ Kd.S k38 38 w' W.heap.size (fun _ => True) v0_ a ∧ Below W.heap.size W w')
    (hwf : ∀ j : Int, 0 ≤ j → j < a.length → (Lit.int .i64 (rd_T38 a j).f0).wf = true ∧ (Lit.int .i64 (rd_T38 a j).f1).wf = true) (hwfx : ∀ j : Int, 0 ≤ j → j < x.length → (Lit.int .i64 (rd_T38 x j).f0).wf = true ∧ (Lit.int .i64 (rd_T38 x j).f1).wf = true) (hsel : Aside0 (a = x.filter fun m => memB a m.f0 m.f1)) (P : S38 → Prop) (hP : ∀ j : Int, 0 ≤ j → j < x.length → P (rd_T38 x j))
    (hcmp : ∀ (m : S38), P m → ∀ (W : World) (A : Option Addr) (c : Nat) (B : Option Addr) (d : Nat), Kd.C (Kd.int .i64) W A m.f2.length m.f2 → m.f2.length ≤ c → Kd.C (Kd.int .i64) W B m.f2.length m.f2 → m.f2.length ≤ d →
      Calls Try.prog 19 #[.agg #[.int .i64 m.f0, .int .i64 m.f1, .slice A m.f2.length c], .agg #[.int .i64 m.f0, .int .i64 m.f1, .slice B m.f2.length d]] W fun e w' => e = .returned (.int .i64 0) ∧ Below W.heap.size W w')
    (hknown : ∀ W, Calls Try.prog 18 #[] W fun e w' => e = .returned (.bool true) ∧ Below W.heap.size W w')
    (hx : x.length ≤ 20) (ha : a.length ≤ 20) :
    Calls Try.prog 6 #[.slice A0 n0 c0, .int .i64 a1] w fun e w' => e = .returned (.bool true) ∧ Below w.heap.size w w' := by
  have hmm := @run_makeMap Try.prog
  have HX := Aside0.mk hx
  have HA := Aside0.mk ha
  clear hx ha
  go_enter Try.func6, Try.ntmps6
  go_wp2_with (first
    | (go_at_call 10; refine hlist.mono ?_; clear hlist; rintro e w1 ⟨v5, rfl, ho5, hb1⟩; obtain ⟨A5, c5, rfl⟩ := Kd.N_slice ho5; have H5 := Aside0.mk ho5; have HB1 := Aside0.mk hb1; clear ho5 hb1)
    | (go_at_call 11; refine (hmod _).mono ?_; clear hmod; rintro e w' ⟨rfl, nd, rfl⟩)
    | (go_at_call 12; refine (hcho _ A5 c5 (Kd.C_drewN (Kd.N_reads' H5.out).2.2 _) (Kd.N_reads' H5.out).2.1).mono ?_; rintro e w2 ⟨v6, rfl, ho6, hb2⟩; obtain ⟨A6, c6, rfl⟩ := Kd.N_slice (Kd.S_N ho6); have H6 := Aside0.mk ho6; have HB2 := Aside0.mk hb2; clear ho6 hb2))
  have C5 := Aside0.mk (Kd.C_below (Kd.C_drewN (Kd.N_reads' H5.out).2.2 nd) HB2.out)
  have K5 := Aside0.mk (Kd.N_reads' H5.out).2.1
  have C6 := Aside0.mk (Kd.N_reads' (Kd.S_N H6.out)).2.2
  have K6 := Aside0.mk (Kd.N_reads' (Kd.S_N H6.out)).2.1
  have HB := Aside0.mk (show Below w.heap.size w w2 from (HB1.out.trans (pw_below_drewN (Below.refl _ _) nd)).trans (HB2.out.mono HB1.out.size))
  clear H5 H6 HB1 HB2 hcho
  have hu38 := Try.underlying38
  go_loopw [28] (fun i wr => ∃ j : Int, i = .int .i64 j ∧ 0 ≤ j ∧ j ≤ a.length ∧ Aside0 (Below w2.heap.size w2 wr) ∧ Aside0 (SpanSet wr w2.heap.size j.toNat (memB (a.take j.toNat)))) (fun i _ => a.length - (intOf i).toNat)
  case atStart => exact ⟨0, rfl, Int.le_refl _, by omega, ⟨(Below.refl _ _).alloc (Nat.le_refl _) _⟩, ⟨SpanSet.made w2⟩⟩
  case round =>
    obtain ⟨j, rfl, h0j, hj, HW, HS⟩ := hrel
    have ha := HA.out
    by_cases hlt : j < a.length
    · obtain ⟨ad, A2, c2, e6, h0, h1, h2, hl2, hi2⟩ := at_T38 (Kd.C_below C6.out HW.out) j h0j hlt
      cases e6
      have hwf0 := Aside0.mk (hwf j h0j hlt)
      go_wp2_with (at_mapUpdate; refine set_update rfl _ _ _ rfl w2.heap.size j.toNat _ rfl (HS.out.keep (below_alloc (Below.refl _ _) _)) (by unfold maxLen; omega) _ _ rfl hwf0.out.1 hwf0.out.2 rfl ?_; intro w3 hs3 hg3)
      go_roundw
      case rel => exact ⟨j + 1, rfl, by omega, by omega, ⟨(HW.out.alloc HW.out.size _).grown hg3 (by simp; have := HW.out.size; omega) (fun k e => by cases e; exact Nat.le_refl _)⟩, ⟨by rw [show (j + 1).toNat = j.toNat + 1 by omega, mem_take a j h0j hlt]; exact hs3⟩⟩
      case measure => simp [intOf]; omega
    · obtain rfl : j = a.length := by omega
      rw [show ((a.length : Int)).toNat = a.length by omega, List.take_length] at HS
      clear hmm
      go_wp2
      go_loopw [11, 41] (fun kk i wr => ∃ j : Int, i = .int .i64 j ∧ 0 ≤ j ∧ j ≤ x.length ∧ kk = .int .i64 (cnt a (x.take j.toNat)) ∧ Aside0 (Below w2.heap.size w2 wr) ∧ Aside0 (SpanSet wr w2.heap.size a.length (memB a))) (fun _ i _ => x.length - (intOf i).toNat)
      case atStart => exact ⟨0, rfl, Int.le_refl _, by omega, rfl, HW, HS⟩
      case round =>
        clear HW HS
        obtain ⟨j, rfl, h0j, hj, rfl, HW, HS⟩ := hrel
        have hx := HX.out
        by_cases hlt : j < x.length
        · obtain ⟨ad, A2, c2, e5, h0, h1, h2, hl2, hi2⟩ := at_T38 (Kd.C_below C5.out HW.out) j h0j hlt
          cases e5
          have hwf0 := Aside0.mk (hwfx j h0j hlt)
          have HPm := Aside0.mk (hP j h0j hlt)
          obtain ⟨ct, cf⟩ := cnt_at a x hsel.out j h0j hlt
          have hq0 := cnt_pos a (x.take j.toNat)
          by_cases hs : memB a (rd_T38 x j).f0 (rd_T38 x j).f1 = true
          · obtain ⟨hq1, hq2, hq3⟩ := ct hs
            clear ct cf
            have HQ3 := Aside0.mk hq3
            clear hq3
            obtain ⟨ad6, A62, c62, e6, g0, g1, g2, gl2, gi2⟩ := at_T38 (Kd.C_below C6.out HW.out) (cnt a (x.take j.toNat)) hq0 hq1
            cases e6
            rw [hq2] at g0 g1 g2 gl2 gi2
            clear hq2
            generalize hq : cnt a (x.take j.toNat) = q at *
            have HQ := Aside0.mk hq
            clear hq
            generalize hm : rd_T38 x j = m at *
            go_wp2_with (at_lookup; refine set_lookup rfl _ _ rfl w2.heap.size a.length _ rfl (HS.out.keep (below_alloc (Below.refl _ _) _)) _ _ rfl hwf0.out.1 hwf0.out.2 ?_; rw [hs])
            have hge : decide (q ≥ (a.length : Int)) = false := decide_eq_false (by omega)
            have hge' : decide ((a.length : Int) ≤ q) = false := decide_eq_false (by omega)
            have HG := Aside0.mk gl2
            have HGi := Aside0.mk gi2
            have HL := Aside0.mk hl2
            have HLi := Aside0.mk hi2
            clear gl2 gi2 hl2 hi2
            have bx := blk_new wr (.cells #[.int .i64 m.f0, .int .i64 m.f1, .slice A2 m.f2.length c2] 38)
            have i0 := blk_cell bx 0
            have i1 := blk_cell bx 1
            have i2 := blk_cell bx 2
            simp only [List.getElem?_toArray, List.getElem?_cons_zero, List.getElem?_cons_succ] at i0 i1 i2
            have hba := below_alloc (Below.refl _ wr) (.cells #[.int .i64 m.f0, .int .i64 m.f1, .slice A2 m.f2.length c2] 38)
            replace g0 := pw_cell_below hba g0
            replace g1 := pw_cell_below hba g1
            replace g2 := pw_cell_below hba g2
            have hCA := Aside0.mk (Kd.C_below HGi.out hba)
            have hCB := Aside0.mk (Kd.C_below HLi.out hba)
            have HBA := Aside0.mk hba
            clear hba bx h0 h1 h2
            generalize wr.alloc (.cells #[.int .i64 m.f0, .int .i64 m.f1, .slice A2 m.f2.length c2] 38) = wb at *
            go_region_held3 (fun w' => w'.cell? (ad6.add (q.toNat * 3)) = some (.int .i64 m.f0) ∧ w'.cell? ⟨(ad6.add (q.toNat * 3)).block, (ad6.add (q.toNat * 3)).off + 1, none⟩ = some (.int .i64 m.f1) ∧ w'.cell? ⟨(ad6.add (q.toNat * 3)).block, (ad6.add (q.toNat * 3)).off + 2, none⟩ = some (.slice A62 m.f2.length c62) ∧
                w'.cell? ⟨wr.heap.size, 0, none⟩ = some (.int .i64 m.f0) ∧ w'.cell? ⟨wr.heap.size, 1, none⟩ = some (.int .i64 m.f1) ∧ w'.cell? ⟨wr.heap.size, 2, none⟩ = some (.slice A2 m.f2.length c2)) (first | go_keep | (go_split_ands; refine ⟨?_, ?_, ?_, ?_, ?_, ?_⟩ <;> exact pw_cell_below hb5 (by assumption)))
              (first | (go_at_call 19; refine (hcmp m HPm.out _ A62 c62 A2 c2 (Kd.C_drew hCA.out) HG.out (Kd.C_drew hCB.out) HL.out).mono ?_; rintro e w5 ⟨rfl, hb5⟩))
            have hw5 : Below wr.heap.size wr w5 := HBA.out.trans ((below_drew (Below.refl _ _)).trans (hb5.mono HBA.out.size))
            go_wp2
            go_roundw
            case rel => exact ⟨j + 1, rfl, by omega, by omega, by rw [HQ3.out], ⟨HW.out.trans (hw5.mono HW.out.size)⟩, ⟨HS.out.keep hw5⟩⟩
            case measure => simp [intOf]; omega
          · have hs' : memB a (rd_T38 x j).f0 (rd_T38 x j).f1 = false := by simpa using hs
            have HQ3 := Aside0.mk (cf hs')
            clear ct cf hs
            go_wp2_with (at_lookup; refine set_lookup rfl _ _ rfl w2.heap.size a.length _ rfl (HS.out.keep (below_alloc (Below.refl _ _) _)) _ _ rfl hwf0.out.1 hwf0.out.2 ?_; rw [hs'])
            go_roundw
            case rel => exact ⟨j + 1, rfl, by omega, by omega, by rw [HQ3.out], ⟨HW.out.alloc HW.out.size _⟩, ⟨HS.out.keep (below_alloc (Below.refl _ _) _)⟩⟩
            case measure => simp [intOf]; omega
        · obtain rfl : j = x.length := by omega
          rw [show ((x.length : Int)).toNat = x.length by omega, List.take_length, show cnt a x = a.length by unfold cnt; rw [← hsel.out]]
          go_wp2_with (go_at_call 18; refine (hknown _).mono ?_; rintro e w5 ⟨rfl, hb5⟩)
          go_ret
          exact ⟨rfl, HB.out.trans ((HW.out.trans (hb5.mono HW.out.size)).mono HB.out.size)⟩
end Go.Proofs.Ytmmdlkeemafanaa.Q
