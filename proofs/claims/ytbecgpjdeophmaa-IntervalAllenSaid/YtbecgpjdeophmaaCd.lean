import Derived.Test.YtbecgpjdeophmaaCc
namespace Go.Proofs.Ytbecgpjdeophmaa.Q
open Go.RowKit Go.Lib Go.Sort Go.Proofs.YtbecgpjdeophmaaW Go.Proofs.YtbecgpjdeophmaaW.PrintWords

theorem toA_size (l : List S23) : (toA l).size = l.length := by simp [toA]
theorem toA_get (l : List S23) (j : Nat) (h : j < l.length) : (toA l)[j]! = toP (l.getD j z23) := by
  rw [getElem!_pos _ _ (by rw [toA_size]; exact h)]
  simp [toA, List.getD_eq_getElem?_getD, h]

theorem holds_of_flat {W : World} {g : Nat} {cur : Array Value} {l : List S23} (hb : W.heap[g]? = some (.cells cur 23 (0, 0))) (ht : cur.toList.take (l.length * 2) = flatS l) : HoldsK encS 2 W g 0 (toA l) := by
  intro t ht'
  have hlt : t < l.length * 2 := by simpa [toA_size] using ht'
  refine ⟨?_, by simp [World.frozen?, hb]⟩
  have h1 : (cur.toList.take (l.length * 2))[t]? = (flatS l)[t]? := by rw [ht]
  rw [List.getElem?_take_of_lt hlt] at h1
  simp only [World.cell?, hb, Nat.zero_add]
  simp only [Option.isSome_none, Bool.false_eq_true, if_false]
  rw [← Array.getElem?_toList, h1, get_flatK _ _ _ _ (by rw [toA_size]; exact hlt), toA_get l (t / 2) (by omega)]
  have hf := flatS_get l (t / 2) (by omega)
  have e : t = t / 2 * 2 ∨ t = t / 2 * 2 + 1 := by omega
  rcases e with e | e
  · have e2 : t % 2 = 0 := by omega
    rw [e2]
    conv => lhs; rw [e]
    rw [hf.1]; rfl
  · have e2 : t % 2 = 1 := by omega
    rw [e2]
    conv => lhs; rw [e]
    rw [hf.2]; rfl

theorem heap_put {W : World} {g q : Nat} {cur : Array Value} {e : TypeId} {fr : Nat × Nat} (F : Array Value) (hb : W.heap[g]? = some (.cells cur e fr)) : (putRow id (Sort.ahead W q) g 0 F).heap[g]? = some (.cells (putCells id 0 F cur) e fr) := by
  simp [putRow, mapBlock, Sort.ahead, Array.getElem?_modify, hb, onCells]
theorem below_put {W w : World} {g q : Nat} (F : Array Value) (h : Below w.heap.size w W) (hg : w.heap.size ≤ g) : Below w.heap.size w (putRow id (Sort.ahead W q) g 0 F) := by
  refine ⟨h.os, h.tape, h.output, by simpa [putRow, mapBlock, Sort.ahead] using h.size, fun k hk => ?_⟩
  rw [← h.block k hk]
  simp [putRow, mapBlock, Sort.ahead, Array.getElem?_modify, show g ≠ k by omega]
theorem below_grow {W w : World} (os : Array Obj) (h : Below w.heap.size w W) : Below w.heap.size w (grow W os) := by
  refine ⟨h.os, h.tape, h.output, by have := h.size; simp [grow]; omega, fun k hk => ?_⟩
  rw [heap_grow_old _ _ (by have := h.size; omega)]
  exact h.block k hk

theorem take_flat (cur F : Array Value) (l : List S23) (hF : F.size ≤ cur.size) (hl : l.length * 2 ≤ F.size) (h : ∀ j, j < l.length → F[j * 2]! = .int .i64 (l.getD j z23).f0 ∧ F[j * 2 + 1]! = .int .i64 (l.getD j z23).f1) :
    (putCells id 0 F cur).toList.take (l.length * 2) = flatS l := by
  apply List.ext_getElem?
  intro t
  by_cases ht : t < l.length * 2
  · rw [List.getElem?_take_of_lt ht, Array.getElem?_toList]
    have hf := flatS_get l (t / 2) (by omega)
    have hh := h (t / 2) (by omega)
    have e0 : (putCells id 0 F cur)[t]? = some F[t]! := by
      simp [putCells, show t < F.size by omega, show t < cur.size by omega]
    rw [e0]
    have e : t = t / 2 * 2 ∨ t = t / 2 * 2 + 1 := by omega
    rcases e with e | e
    · rw [e, hh.1, hf.1]
    · rw [e, hh.2, hf.2]
  · rw [List.getElem?_take_eq_none (by omega), List.getElem?_eq_none (by rw [flatS_length]; omega)]

theorem putCells_size (F cur : Array Value) : (putCells id 0 F cur).size = cur.size := by simp [putCells]

/-- What the sort leaves, compacted, is the normal list. -/
theorem sorted_nrm (l : List S23) (d : Array (Int × Int)) (hd : d = ((toA l).toList.mergeSort fun x y => !(ltOf cfN) y x).toArray) : (compactUpTo d d.size).map ofP = nrm l := by
  have hle : ∀ x y : Int × Int, (!(ltOf cfN) y x) = true ↔ ¬ lt23 (ofP y) (ofP x) := by
    intro x y
    rw [ltN]
    simp only [Bool.not_eq_true', decide_eq_false_iff_not, lt23, ofP]
  have hsort : (((toA l).toList.mergeSort fun x y => !(ltOf cfN) y x)).Pairwise fun x y => (!(ltOf cfN) y x) = true := by
    apply List.pairwise_mergeSort
    · intro a b c h1 h2
      rw [hle] at *
      intro h3
      by_cases h4 : lt23 (ofP b) (ofP a)
      · exact h1 h4
      · by_cases h5 : lt23 (ofP a) (ofP b)
        · exact h2 (lt23_trans h3 h5)
        · have := lt23_total h4 h5
          rw [this] at h2
          exact h2 h3
    · intro a b
      by_cases h : lt23 (ofP b) (ofP a)
      · have : ¬ lt23 (ofP a) (ofP b) := fun h2 => lt23_irrefl _ (lt23_trans h h2)
        simp [(hle b a).2 this]
      · simp [(hle a b).2 h]
  subst hd
  refine compact_nrm l _ (fun i j hij hj => ?_) fun x => ?_
  · rw [getElem!_pos _ j hj, getElem!_pos _ i (by omega)]
    exact (hle _ _).1 (List.pairwise_iff_getElem.1 hsort i j (by have := hj; simp only [List.size_toArray] at this; omega) (by simpa using hj) hij)
  · simp only [List.mem_mergeSort, toA, List.mem_map]
    constructor
    · rintro ⟨a, ha, rfl⟩; exact ha
    · intro h; exact ⟨_, h, rfl⟩

theorem compact_none (a : Option Addr) (cap : Nat) (W : World) : Calls Try.prog 38 #[.slice a 0 cap] W fun e w' => e = .returned (.slice a 0 cap) ∧ W = w' := by
  go_enter Try.func38, Try.ntmps38
  go_wp2
  go_ret
  exact ⟨rfl, rfl⟩

theorem cells_of_C {w : World} {ad : Addr} {l : List S23} (h : Kd.C k23 w (some ad) l.length l) : ∀ j u, (flatS l)[j]? = some u → w.cell? (ad.add j) = some u := by
  intro j u hu
  have hj : j < l.length * 2 := by have := (List.getElem?_eq_some_iff.1 hu).1; rwa [flatS_length] at this
  obtain ⟨ad', e, hc⟩ := h.2.2 (by omega)
  obtain rfl := Option.some.inj e
  have hlt : j / 2 < l.length := by omega
  obtain ⟨c, _, hK, hcell⟩ := hc (j / 2) _ (List.getElem?_eq_getElem hlt)
  obtain rfl := k23_open hK
  have hf := flatS_get l (j / 2) hlt
  have hd : l.getD (j / 2) z23 = l[j / 2] := by simp [List.getD_eq_getElem?_getD, hlt]
  rw [hd] at hf
  have e : j = j / 2 * 2 + 0 ∨ j = j / 2 * 2 + 1 := by omega
  rcases e with e | e
  · rw [e]
    rw [e, Nat.add_zero, hf.1] at hu
    obtain rfl := Option.some.inj hu
    exact hcell 0 _ rfl
  · rw [e]
    rw [e, hf.2] at hu
    obtain rfl := Option.some.inj hu
    exact hcell 1 _ rfl

/-- The sort and what comes behind it, at a row of the call's own. -/
theorem tail_any {w w1 : World} {l0 : List S23} {g cap : Nat} {cur : Array Value} (hbase : w.heap.size ≤ g) (hb : w1.heap[g]? = some (.cells cur 23 (0, 0))) (h1 : l0.length ≤ cap) (h2 : cap ≤ maxLen) (h3 : cur.size = cap * 2)
    (hB : Below w.heap.size w w1) {n : Nat} {os : Array Obj} {q : Nat} {F d : Array Value}
    (hF : F.size = l0.length * 2) (r : List S23) (hr : r.length ≤ l0.length) (hFr : ∀ j, j < r.length → F[j * 2]! = .int .i64 (r.getD j z23).f0 ∧ F[j * 2 + 1]! = .int .i64 (r.getD j z23).f1) :
    Kd.R k23 23 (putRow id (Sort.ahead (grow (putRow id (Sort.ahead w1 n) g 0 d) os) q) g 0 F) w.heap.size (fun _ => True) (.slice (some ⟨g, 0, none⟩) r.length cap) r ∧ Below w.heap.size w (putRow id (Sort.ahead (grow (putRow id (Sort.ahead w1 n) g 0 d) os) q) g 0 F) := by
  have hg : g < w1.heap.size := (Array.getElem?_eq_some_iff.1 hb).1
  have hb2 : (grow (putRow id (Sort.ahead w1 n) g 0 d) os).heap[g]? = some (.cells (putCells id 0 d cur) 23 (0, 0)) := by
    rw [heap_grow_old _ _ (by simpa [putRow, mapBlock, Sort.ahead] using hg)]
    exact heap_put d hb
  have hb3 := heap_put (q := q) F hb2
  refine ⟨R_of_flat ⟨flatS_length r, .inr ⟨g, cap, _, rfl, hbase, hb3, by omega, h2, by rw [putCells_size, putCells_size, h3], ?_⟩⟩, below_put F (below_grow os (below_put d hB hbase)) hbase⟩
  exact take_flat _ F r (by rw [putCells_size, hF, h3]; omega) (by omega) hFr

set_option maxHeartbeats 1000000 in
theorem normal_any (A0 : Option Addr) (c0 : Nat) (l0 : List S23) (w : World) (hr0 : Kd.C k23 w A0 l0.length l0) (hn : l0.length ≤ 4096) :
    Calls Try.prog 29 #[.slice A0 l0.length c0] w fun e w' => ∃ v0_ : Value, e = .returned (v0_) ∧ Kd.R k23 23 w' w.heap.size (fun _ => True) v0_ (nrm l0) ∧ Below w.heap.size w w' := by
  match A0 with
  | none =>
    have h0 : l0.length = 0 := by
      rcases Nat.eq_zero_or_pos l0.length with h | h
      · exact h
      · obtain ⟨ad, e, _⟩ := hr0.2.2 h
        cases e
    obtain rfl : l0 = [] := List.length_eq_zero_iff.1 h0
    have hcl : ∀ W, Calls Try.prog 35 #[.slice none 0 c0] W fun e w' => e = .returned (.slice none 0 0) ∧ W = w' := fun W => (AnyE.slices_Clone_nil Try.cloneSpan 0 c0 W).mono fun _ _ h => ⟨h.1, h.2.symm⟩
    have hso : ∀ W, Calls Try.prog 36 #[.slice none 0 0, .func (.func 37) #[] #[]] W fun e w' => e = .returned (.tuple #[]) ∧ W = w' := fun W => (AnyF.slices_SortFunc_none Try.sortSpan none 0 (.func (.func 37) #[] #[]) W).mono fun _ _ h => ⟨h.1, h.2.symm⟩
    go_enter Try.func29, Try.ntmps29
    go_wp2_with (first | (go_at_call 35; refine (hcl _).mono ?_; rintro e w' ⟨rfl, rfl⟩) | (go_at_call 36; refine (hso _).mono ?_; rintro e w' ⟨rfl, rfl⟩) | (go_at_call 38; refine (compact_none _ _ _).mono ?_; rintro e w' ⟨rfl, rfl⟩))
    go_ret
    exact ⟨_, rfl, Kd.R_nil _ _ _ _ _, Below.refl _ _⟩
  | some ad =>
    have hcl := clone_any ad l0.length c0 (flatS l0) w (flatS_length l0) hn (cells_of_C hr0) (flatS_one l0)
    clear hr0
    go_enter Try.func29, Try.ntmps29
    go_wp2_with fail
    refine hcl.mono ?_
    rintro e w1 ⟨v', rfl, hown, hnn, hB⟩
    rcases hown.2 with ⟨hnil, _⟩ | ⟨g, cap, cur, rfl, hbase, hb, h1, h2, h3, h4⟩
    · exact absurd hnil hnn
    have hg : g < w1.heap.size := (Array.getElem?_eq_some_iff.1 hb).1
    have hH : HoldsK encS 2 w1 g 0 (toA l0) := holds_of_flat hb h4
    have eg : ∀ args w, (callFunc 37 args).run Try.prog w = .ok (.enter 37 args) w := enters_of Try.func37 (by kernel_rfl) rfl
    have hso := AnyQ.slices_SortFunc_total Try.sortSpan 2 Try.isAgg23 Try.sizeOf23 encS encS_len encS_one cfN swoN 37 #[] g 0 cap (toA l0) w1 eg (cmpLays g 0 (toA l0).size w1) hH hg (by rw [toA_size]; omega) totN
    change Calls Try.prog 36 _ _ _ at hso
    obtain ⟨dS, hdS⟩ : ∃ dS, dS = ((toA l0).toList.mergeSort fun x y => !(ltOf cfN) y x).toArray := ⟨_, rfl⟩
    have hs : dS.size = l0.length := by rw [hdS]; simp [toA]
    have hnrm := sorted_nrm l0 dS hdS
    rw [← hdS, toA_size] at hso
    have hH2 : ∀ n os, HoldsK encS 2 (sortWorldK encS 2 w1 g 0 n dS os) g 0 dS := fun n os => SWK.holds ⟨n, os, rfl⟩ hg hH (by rw [toA_size]; exact hs)
    have hco := fun n os => compact_any g cap dS _ (hH2 n os) (by omega) (by omega)
    rw [hs] at hco hnrm
    have fin : ∀ n os q F, F.size = l0.length * 2 → (∀ j x, (compactUpTo dS l0.length)[j]? = some x → F[j * 2]! = .int .i64 x.1 ∧ F[j * 2 + 1]! = .int .i64 x.2) →
        Kd.R k23 23 (putRow id (Sort.ahead (sortWorldK encS 2 w1 g 0 n dS os) q) g 0 F) w.heap.size (fun _ => True) (.slice (some ⟨g, 0, none⟩) (compactUpTo dS l0.length).length cap) (nrm l0) ∧ Below w.heap.size w (putRow id (Sort.ahead (sortWorldK encS 2 w1 g 0 n dS os) q) g 0 F) := by
      intro n os q F hF hFr
      have hl : (compactUpTo dS l0.length).length = (nrm l0).length := by rw [← hnrm]; simp
      rw [hl]
      refine tail_any hbase hb h1 h2 h3 hB (d := flatK encS 2 dS) hF (nrm l0) (length_nrm l0) fun j hj => ?_
      have hj' : j < (compactUpTo dS l0.length).length := by omega
      have h := hFr j _ (List.getElem?_eq_getElem hj')
      have e : (nrm l0).getD j z23 = ofP (compactUpTo dS l0.length)[j] := by
        rw [List.getD_eq_getElem?_getD, ← hnrm]
        simp [hj']
      rw [e]
      exact h
    obtain ⟨m, hm⟩ : ∃ m, m = (compactUpTo dS l0.length).length := ⟨_, rfl⟩
    rw [← hm] at fin
    have hco2 : ∀ n os, Calls Try.prog 38 #[.slice (some ⟨g, 0, none⟩) l0.length cap] (sortWorldK encS 2 w1 g 0 n dS os) fun e w' => e = .returned (.slice (some ⟨g, 0, none⟩) m cap) ∧
      ∃ (q : Nat) (F : Array Value), F.size = l0.length * 2 ∧ (∀ j x, (compactUpTo dS l0.length)[j]? = some x → F[j * 2]! = .int .i64 x.1 ∧ F[j * 2 + 1]! = .int .i64 x.2) ∧ w' = putRow id (Sort.ahead (sortWorldK encS 2 w1 g 0 n dS os) q) g 0 F := by
      rw [hm]; exact hco
    have FIN := Aside0.mk fin
    have HCO := Aside0.mk hco2
    have HSO := Aside0.mk hso
    clear fin hco hco2 hso hnrm hH2 hH hown hs hdS h1 h2 h3 h4 hb hB hnn hm
    go_wp2_with fail
    refine HSO.out.mono ?_
    rintro e w2 ⟨rfl, n, os, rfl⟩
    go_wp2_with fail
    refine (HCO.out n os).mono ?_
    rintro e w3 ⟨rfl, q, F, hF, hFr, rfl⟩
    have HF := Aside0.mk (FIN.out n os q F hF hFr)
    clear hF hFr
    go_wp2
    go_ret
    exact ⟨_, rfl, HF.out⟩
end Go.Proofs.Ytbecgpjdeophmaa.Q
