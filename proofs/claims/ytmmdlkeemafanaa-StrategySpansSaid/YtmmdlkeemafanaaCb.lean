import Derived.Test.YtmmdlkeemafanaaQx1
import Derived.Shelf.SlSortCmp.KitK
import Derived.Shelf.SlicesE.Compact
import Derived.Lib.SlicesCompact
import Derived.Lib.SliceRun
import Derived.Lib.Hide
import Derived.RegionTactic
import Derived.Outline
import Derived.Deep.LoopGhost
namespace Go.Proofs.Ytmmdlkeemafanaa.Q
open Go.RowKit Go.Lib Go.Sort Go.Proofs.YtmmdlkeemafanaaW
attribute [local go_sem high] eqA40

/-- A span's two cells. -/
def encS (x : Int × Int) : List Value := [.int .i64 x.1, .int .i64 x.2]

theorem encS_len (x : Int × Int) : (encS x).length = 2 := rfl
theorem encS_one (x : Int × Int) : ∀ v ∈ encS x, v.oneCell' = true := by
  intro v hv
  simp [encS] at hv
  rcases hv with rfl | rfl <;> rfl

theorem cells_at {W : World} {blk : Nat} {d : Array (Int × Int)} (h : HoldsK encS 2 W blk 0 d) {i : Nat} (hi : i < d.size) :
    W.cell? ⟨blk, i * 2, none⟩ = some (.int .i64 d[i]!.1) ∧ W.cell? ⟨blk, i * 2 + 1, none⟩ = some (.int .i64 d[i]!.2) ∧ W.frozen? ⟨blk, i * 2, none⟩ = false ∧ W.frozen? ⟨blk, i * 2 + 1, none⟩ = false := by
  have h0 := h.cell hi (show 0 < 2 by omega)
  have h1 := h.cell hi (show 1 < 2 by omega)
  simp only [Nat.zero_add, Nat.add_zero] at h0 h1
  exact ⟨h0.1, h1.1, h0.2, h1.2⟩

theorem run_clear_spans (w : World) (ty : TypeId) (b o n c : Nat) (hn : 0 < n)
    (hc : ∀ j, j < n * 2 → (w.cell? ⟨b, o + j, none⟩).isSome = true) (hf : ∀ j, j < n * 2 → w.frozen? ⟨b, o + j, none⟩ = false) :
    (Builtin.clear_ #[31] ty #[.slice (some ⟨b, o, none⟩) n c]).run Try.prog w = .ok (.tuple #[]) (w.setCells b o (List.replicate (n * 2) (.int .i64 0))) := by
  have hzc : (Builtin.zeroCells (Value.agg #[.int .i64 0, .int .i64 0]).cells n).toList = List.replicate (n * 2) (.int .i64 0) := by
    have e : (Value.agg #[.int .i64 0, .int .i64 0]).cells = #[.int .i64 0, .int .i64 0] := by kernel_rfl
    rw [e]
    apply List.ext_getElem
    · simp [Builtin.zeroCells]
    · intro i h1 h2
      simp [Builtin.zeroCells]
      have : i % 2 = 0 ∨ i % 2 = 1 := by omega
      rcases this with h | h <;> simp [h]
  have hst := run_storeCells_cells (P := Try.prog) b o (List.replicate (n * 2) (.int .i64 0)) 0 w (by simpa using hc) (by simpa using hf) (by intro v hv'; rw [List.eq_of_mem_replicate hv']; rfl)
  simp only [Nat.add_zero] at hst
  obtain ⟨m, rfl⟩ : ∃ m, n = m + 1 := ⟨n - 1, by omega⟩
  simp [Builtin.clear_, run_underlying Try.underlying31, Try.zeroValue40, hzc, hst]

theorem store_two (w : World) (b o : Nat) (u v : Value) : (w.setCell ⟨b, o, none⟩ u).setCell ⟨b, o + 1, none⟩ v = w.setCells b o [u, v] := rfl

theorem setMany_set (d : Array (Int × Int)) (i : Nat) (u : Int × Int) (hi : i < d.size) : setMany (flatK encS 2 d) (i * 2) (encS u) = flatK encS 2 (d.setIfInBounds i u) := by
  refine ext_get! (by simp) fun t ht => ?_
  have ht' : t < d.size * 2 := by simpa using ht
  rw [get_setMany _ _ _ t (by simpa using ht'), get_flatK _ _ (d.setIfInBounds i u) t (by simpa using ht')]
  by_cases a : i * 2 ≤ t ∧ t < i * 2 + (encS u).length
  · have e : t / 2 = i := by simp [encS] at a; omega
    have e2 : t - i * 2 = t % 2 := by omega
    rw [if_pos a, e, getElem!_set_same d i u hi, e2]
  · have e : t / 2 ≠ i := by simp [encS] at a; omega
    rw [if_neg a, get_flatK _ _ _ t ht', getElem!_set_other d i _ u e]

theorem store_world2 {w wr : World} {n blk : Nat} {dk : Array (Int × Int)} {i : Nat} (hi : i < dk.size) (hwr : wr = putRowK encS 2 (Sort.ahead w n) blk 0 dk) (u : Int × Int) :
    wr.setCells blk (i * 2) (encS u) = putRowK encS 2 (Sort.ahead w n) blk 0 (dk.setIfInBounds i u) := by
  subst hwr
  unfold putRowK
  have h := setCells_putRow (Sort.ahead w n) blk 0 (encS u) (i * 2) (flatK encS 2 dk) (by simp [encS]; omega)
  rw [Nat.zero_add] at h
  rw [h, setMany_set dk i u hi]

set_option maxHeartbeats 4000000 in
set_option maxRecDepth 1000000 in
theorem compact_any (blk cap : Nat) (d : Array (Int × Int)) (w : World) (hH : HoldsK encS 2 w blk 0 d) (hsz : d.size ≤ 4611686018427387904) (hcap : d.size ≤ cap) :
    Calls Try.prog 34 #[.slice (some ⟨blk, 0, none⟩) d.size cap] w fun e w' => e = .returned (.slice (some ⟨blk, 0, none⟩) (compactUpTo d d.size).length cap) ∧
      ∃ (q : Nat) (F : Array Value), F.size = d.size * 2 ∧ (∀ j x, (compactUpTo d d.size)[j]? = some x → F[j * 2]! = .int .i64 x.1 ∧ F[j * 2 + 1]! = .int .i64 x.2) ∧ w' = putRow id (Sort.ahead w q) blk 0 F := by
  have flat : ∀ (dk : Array (Int × Int)) (j : Nat), j < dk.size → (flatK encS 2 dk)[j * 2]! = .int .i64 dk[j]!.1 ∧ (flatK encS 2 dk)[j * 2 + 1]! = .int .i64 dk[j]!.2 := by
    intro dk j hj
    rw [get_flatK _ _ _ _ (by omega), get_flatK _ _ _ _ (by omega), show j * 2 / 2 = j by omega, show j * 2 % 2 = 0 by omega, show (j * 2 + 1) / 2 = j by omega, show (j * 2 + 1) % 2 = 1 by omega]
    exact ⟨rfl, rfl⟩
  have same : ∀ q, (∀ j, j < d.size → keeps d j = true) → (compactUpTo d d.size).length = d.size ∧ (flatK encS 2 d).size = d.size * 2 ∧ (∀ j x, (compactUpTo d d.size)[j]? = some x → (flatK encS 2 d)[j * 2]! = .int .i64 x.1 ∧ (flatK encS 2 d)[j * 2 + 1]! = .int .i64 x.2) ∧ w.drewN q = putRow id (Sort.ahead w q) blk 0 (flatK encS 2 d) := by
    intro q hall
    have e : compactUpTo d d.size = d.toList := by rw [compactUpTo_all d _ hall, range_map_get]
    rw [e]
    refine ⟨by simp, by simp, fun j x hj => ?_, ?_⟩
    · have hj' : j < d.size := by have := (List.getElem?_eq_some_iff.1 hj).1; simpa using this
      obtain rfl : d[j]! = x := by rw [getElem!_pos d j hj']; simpa [hj'] using hj
      exact flat d j hj'
    · exact (putRowK_self encS 2 (Sort.ahead w q) blk 0 d (holdsK_ahead encS 2 w q blk 0 d hH)).symm
  have FL := Lib.hid flat
  clear flat
  have HS := Lib.hid same
  clear same
  by_cases h2 : d.size < 2
  · clear hH
    have h2a : decide ((d.size : Int) < 2) = true := decide_eq_true (by omega)
    have h2b : decide (d.size < 2) = true := decide_eq_true h2
    go_enter Try.func34, Try.ntmps34
    go_wp2
    go_ret
    obtain ⟨e1, e2, e3, e4⟩ := HS.out 0 (fun j hj => keeps_lt_one d j (by omega))
    exact ⟨by rw [e1]; rfl, 0, _, e2, e3, e4⟩
  · have h2a : decide ((d.size : Int) < 2) = false := decide_eq_false (by omega)
    have h2b : decide (d.size < 2) = false := decide_eq_false h2
    have hu31 := Try.underlying31
    have hu40 := Try.underlying40
    go_enter Try.func34, Try.ntmps34
    go_wp2
    go_loopg [3] d.size (fun g s3 wr => ∃ k q : Nat, 1 ≤ k ∧ k ≤ d.size ∧ d.size - k ≤ g ∧ s3 = .int .i64 k ∧ wr = w.drewN q ∧ ∀ j, j < k → keeps d j = true)
    case atStart => exact ⟨1, 0, Nat.le_refl _, by omega, by omega, rfl, rfl, keeps_lt_one d⟩
    case round =>
      obtain ⟨k, q, hk1, hk, hg, rfl, rfl, hall⟩ := hrel
      by_cases hlt : k < d.size
      · obtain ⟨c1, c1', f1, f1'⟩ := cells_at hH hlt
        obtain ⟨c0, c0', f0, f0'⟩ := cells_at hH (show k - 1 < d.size by omega)
        have A := Lib.hid hall
        have HH := Lib.hid hH
        clear hall hH
        generalize hx : d[k]! = x at c1 c1'
        generalize hy : d[k - 1]! = y at c0 c0'
        have B := Lib.hid (And.intro hx hy)
        clear hx hy
        by_cases hdup : x = y
        · subst hdup
          have e9 : (x.1 == x.1 && (x.2 == x.2)) = true := by simp
          go_wp2_with fail
          go_region
          go_wp2
          clear c0 c1 f0 f1 c0' c1' f0' f1' e9
          go_loopg [3, 5] d.size (fun g s3 s5 wr => ∃ (kk k2 q2 : Nat) (dk : Array (Int × Int)), s3 = .int .i64 kk ∧ s5 = .int .i64 k2 ∧ 1 ≤ k2 ∧ k + k2 ≤ d.size ∧ d.size - (k + k2) ≤ g ∧ wr = putRowK encS 2 (Sort.ahead w q2) blk 0 dk ∧ CompInv d (k + k2) kk dk)
          case atStart => exact ⟨k, 1, q + 1, d, rfl, rfl, Nat.le_refl _, by omega, by omega, (putRowK_self encS 2 (Sort.ahead w (q + 1)) blk 0 d (holdsK_ahead encS 2 w (q + 1) blk 0 d HH.out)).symm, CompInv.start A.out (keeps_neg (by omega) (by rw [B.out.1, B.out.2]))⟩
          case round =>
            obtain ⟨kk, k2, q2, dk, rfl, rfl, h1, hle, hg2, hwr, hI⟩ := hrel
            have hkk := hI.lt
            have hds := hI.size
            have hHk : HoldsK encS 2 wr blk 0 dk := by rw [hwr]; exact holdsK_putRowK encS 2 _ blk 0 d dk (holdsK_ahead encS 2 w q2 blk 0 d HH.out) hds
            have W2 := Lib.hid hwr
            have I2 := Lib.hid hI
            clear hwr
            by_cases hlt2 : k + k2 < d.size
            · obtain ⟨cm, cm', _, _⟩ := cells_at hHk (show k + k2 < dk.size by omega)
              obtain ⟨cp, cp', _, _⟩ := cells_at hHk (show k + k2 - 1 < dk.size by omega)
              obtain ⟨ck, ck', fk, fk'⟩ := cells_at hHk (show kk < dk.size by omega)
              rw [hI.high (k + k2) (by omega), show (k + k2) * 2 = k * 2 + k2 * 2 by omega] at cm cm'
              rw [hI.high (k + k2 - 1) (by omega), show (k + k2 - 1) * 2 = k * 2 + (k2 - 1) * 2 by omega] at cp cp'
              clear hHk hI hds
              generalize hu : d[k + k2]! = u at cm cm'
              generalize hv : d[k + k2 - 1]! = v at cp cp'
              generalize dk[kk]! = old at ck ck'
              have C := Lib.hid (And.intro hu hv)
              clear hu hv
              have hds := I2.out.size
              by_cases huv : u = v
              · subst huv
                have e9 : (u.1 == u.1 && (u.2 == u.2)) = true := by simp
                go_wp2_with fail
                go_region
                go_wp2
                go_roundg (d.size - (k + (k2 + 1)))
                case measure => omega
                case rel => exact ⟨kk, k2 + 1, q2 + 1, dk, rfl, by go_num, by omega, by omega, Nat.le_refl _, by rw [W2.out]; rfl, I2.out.skip (keeps_neg (by omega) (by rw [C.out.1, C.out.2]))⟩
              · have e9 : (u.1 == v.1 && (u.2 == v.2)) = false := by
                  rw [Bool.and_eq_false_iff]
                  by_cases e : u.1 = v.1
                  · right; simp; intro e2; exact huv (Prod.ext e e2)
                  · left; simpa using e
                go_wp2_with fail
                go_region
                go_wp2
                go_roundg (d.size - (k + (k2 + 1)))
                case measure => omega
                case rel =>
                  refine ⟨kk + 1, k2 + 1, q2 + 1, dk.setIfInBounds kk u, by go_num, by go_num, by omega, by omega, Nat.le_refl _, ?_, by have := I2.out.keep hlt2 (keeps_pos (by rw [C.out.1, C.out.2]; exact huv)); rwa [C.out.1] at this⟩
                  show (wr.setCells blk (kk * 2) (encS u)).drew = _
                  rw [store_world2 (by omega) W2.out u]
                  rfl
            · have hend : k + k2 = d.size := by omega
              have hcl : ∀ ty, (Builtin.clear_ #[31] ty #[.slice (some ⟨blk, kk * 2, none⟩) (d.size - kk) (cap - kk)]).run Try.prog wr = .ok (.tuple #[]) (wr.setCells blk (kk * 2) (List.replicate ((d.size - kk) * 2) (.int .i64 0))) :=
                fun ty => run_clear_spans wr ty blk (kk * 2) _ _ (by omega) (fun j hj => by
                  have hq := cells_at hHk (show kk + j / 2 < dk.size by omega)
                  have e : kk * 2 + j = (kk + j / 2) * 2 ∨ kk * 2 + j = (kk + j / 2) * 2 + 1 := by omega
                  rcases e with e | e <;> rw [e]
                  · rw [hq.1]; rfl
                  · rw [hq.2.1]; rfl) (fun j hj => by
                  have hq := cells_at hHk (show kk + j / 2 < dk.size by omega)
                  have e : kk * 2 + j = (kk + j / 2) * 2 ∨ kk * 2 + j = (kk + j / 2) * 2 + 1 := by omega
                  rcases e with e | e <;> rw [e]
                  · exact hq.2.2.1
                  · exact hq.2.2.2)
              clear hHk hI
              go_wp2
              go_ret
              have hI := I2.out
              rw [hend] at hI
              refine ⟨by rw [hI.len]; rfl, q2, setMany (flatK encS 2 dk) (kk * 2) (List.replicate ((d.size - kk) * 2) (.int .i64 0)), by simp [hds], fun j x hj => ?_, ?_⟩
              · have hj' : j < kk := by have := (List.getElem?_eq_some_iff.1 hj).1; rw [hI.len] at this; exact this
                have e := hI.low j hj'
                rw [hj] at e
                obtain rfl := Option.some.inj e
                have hf := FL.out dk j (by omega)
                rw [get_setMany _ _ _ _ (by simp; omega), if_neg (by omega), get_setMany _ _ _ _ (by simp; omega), if_neg (by omega)]
                exact hf
              · have h := setCells_putRow (Sort.ahead w q2) blk 0 (List.replicate ((d.size - kk) * 2) (.int .i64 0)) (kk * 2) (flatK encS 2 dk) (by simp; omega)
                rw [Nat.zero_add] at h
                rw [← h, W2.out]
                rfl
        · have e9 : (x.1 == y.1 && (x.2 == y.2)) = false := by
            rw [Bool.and_eq_false_iff]
            by_cases e : x.1 = y.1
            · right; simp; intro e2; exact hdup (Prod.ext e e2)
            · left; simpa using e
          go_wp2_with fail
          go_region
          go_wp2
          go_roundg (d.size - (k + 1))
          case measure => omega
          case rel =>
            refine ⟨k + 1, q + 1, by omega, by omega, Nat.le_refl _, by go_num, rfl, fun j hj => ?_⟩
            by_cases e : j = k
            · subst e
              exact keeps_pos (by rw [B.out.1, B.out.2]; exact hdup)
            · exact A.out j (by omega)
      · have : k = d.size := by omega
        subst this
        clear hH
        go_wp2
        go_ret
        obtain ⟨e1, e2, e3, e4⟩ := HS.out q hall
        exact ⟨by rw [e1]; rfl, q, _, e2, e3, e4⟩
end Go.Proofs.Ytmmdlkeemafanaa.Q
