import Derived.Test.YtmmdlkeemafanaaCc
namespace Go.Proofs.Ytmmdlkeemafanaa.Q
open Go.RowKit Go.Lib Go.Sort Go.Proofs.YtmmdlkeemafanaaW Go.Proofs.YtmmdlkeemafanaaW.PrintWords

theorem toA_size (l : List S40) : (toA l).size = l.length := by simp [toA]
theorem toA_get (l : List S40) (j : Nat) (h : j < l.length) : (toA l)[j]! = toP (l.getD j z40) := by
  rw [getElem!_pos _ _ (by rw [toA_size]; exact h)]
  simp [toA, List.getD_eq_getElem?_getD, h]

theorem holds_of_flat {W : World} {g : Nat} {cur : Array Value} {l : List S40} (hb : W.heap[g]? = some (.cells cur 40 (0, 0))) (ht : cur.toList.take (l.length * 2) = flatS l) : HoldsK encS 2 W g 0 (toA l) := by
  intro t ht'
  have hlt : t < l.length * 2 := by simpa [toA_size] using ht'
  refine ⟨?_, by simp [World.frozen?, hb]⟩
  have h1 : (cur.toList.take (l.length * 2))[t]? = (flatS l)[t]? := by rw [ht]
  rw [List.getElem?_take_of_lt hlt] at h1
  simp only [World.cell?, hb, Nat.zero_add]
  simp only [Option.isSome_none, Bool.false_eq_true, if_false]
  rw [← Array.getElem?_toList, h1, get_flatK _ _ _ _ (by rw [toA_size]; exact hlt), toA_get l (t / 2) (by omega)]
  have hf := flatS_get l (t / 2) (by omega)
  have e : t = t / 2 * 2 ∨ t = t / 2 * 2 + 1 := by omega
  rcases e with e | e
  · have e2 : t % 2 = 0 := by omega
    rw [e2]
    conv => lhs; rw [e]
    rw [hf.1]; rfl
  · have e2 : t % 2 = 1 := by omega
    rw [e2]
    conv => lhs; rw [e]
    rw [hf.2]; rfl

theorem heap_put {W : World} {g q : Nat} {cur : Array Value} {e : TypeId} {fr : Nat × Nat} (F : Array Value) (hb : W.heap[g]? = some (.cells cur e fr)) : (putRow id (Sort.ahead W q) g 0 F).heap[g]? = some (.cells (putCells id 0 F cur) e fr) := by
  simp [putRow, mapBlock, Sort.ahead, Array.getElem?_modify, hb, onCells]
theorem below_put {W w : World} {g q : Nat} (F : Array Value) (h : Below w.heap.size w W) (hg : w.heap.size ≤ g) : Below w.heap.size w (putRow id (Sort.ahead W q) g 0 F) := by
  refine ⟨h.os, h.tape, h.output, by simpa [putRow, mapBlock, Sort.ahead] using h.size, fun k hk => ?_⟩
  rw [← h.block k hk]
  simp [putRow, mapBlock, Sort.ahead, Array.getElem?_modify, show g ≠ k by omega]
theorem below_grow {W w : World} (os : Array Obj) (h : Below w.heap.size w W) : Below w.heap.size w (grow W os) := by
  refine ⟨h.os, h.tape, h.output, by have := h.size; simp [grow]; omega, fun k hk => ?_⟩
  rw [heap_grow_old _ _ (by have := h.size; omega)]
  exact h.block k hk

theorem take_flat (cur F : Array Value) (l : List S40) (hF : F.size ≤ cur.size) (hl : l.length * 2 ≤ F.size) (h : ∀ j, j < l.length → F[j * 2]! = .int .i64 (l.getD j z40).f0 ∧ F[j * 2 + 1]! = .int .i64 (l.getD j z40).f1) :
    (putCells id 0 F cur).toList.take (l.length * 2) = flatS l := by
  apply List.ext_getElem?
  intro t
  by_cases ht : t < l.length * 2
  · rw [List.getElem?_take_of_lt ht, Array.getElem?_toList]
    have hf := flatS_get l (t / 2) (by omega)
    have hh := h (t / 2) (by omega)
    have e0 : (putCells id 0 F cur)[t]? = some F[t]! := by
      simp [putCells, show t < F.size by omega, show t < cur.size by omega]
    rw [e0]
    have e : t = t / 2 * 2 ∨ t = t / 2 * 2 + 1 := by omega
    rcases e with e | e
    · rw [e, hh.1, hf.1]
    · rw [e, hh.2, hf.2]
  · rw [List.getElem?_take_eq_none (by omega), List.getElem?_eq_none (by rw [flatS_length]; omega)]

theorem putCells_size (F cur : Array Value) : (putCells id 0 F cur).size = cur.size := by simp [putCells]

/-- What the sort leaves, compacted, is the normal list. -/
theorem sorted_nrm (l : List S40) (d : Array (Int × Int)) (hd : d = ((toA l).toList.mergeSort fun x y => !(ltOf cfN) y x).toArray) : (compactUpTo d d.size).map ofP = nrm l := by
  have hle : ∀ x y : Int × Int, (!(ltOf cfN) y x) = true ↔ ¬ lt40 (ofP y) (ofP x) := by
    intro x y
    rw [ltN]
    simp only [Bool.not_eq_true', decide_eq_false_iff_not, lt40, ofP]
  have hsort : (((toA l).toList.mergeSort fun x y => !(ltOf cfN) y x)).Pairwise fun x y => (!(ltOf cfN) y x) = true := by
    apply List.pairwise_mergeSort
    · intro a b c h1 h2
      rw [hle] at *
      intro h3
      by_cases h4 : lt40 (ofP b) (ofP a)
      · exact h1 h4
      · by_cases h5 : lt40 (ofP a) (ofP b)
        · exact h2 (lt40_trans h3 h5)
        · have := lt40_total h4 h5
          rw [this] at h2
          exact h2 h3
    · intro a b
      by_cases h : lt40 (ofP b) (ofP a)
      · have : ¬ lt40 (ofP a) (ofP b) := fun h2 => lt40_irrefl _ (lt40_trans h h2)
        simp [(hle b a).2 this]
      · simp [(hle a b).2 h]
  subst hd
  refine compact_nrm l _ (fun i j hij hj => ?_) fun x => ?_
  · rw [getElem!_pos _ j hj, getElem!_pos _ i (by omega)]
    exact (hle _ _).1 (List.pairwise_iff_getElem.1 hsort i j (by have := hj; simp only [List.size_toArray] at this; omega) (by simpa using hj) hij)
  · simp only [List.mem_mergeSort, toA, List.mem_map]
    constructor
    · rintro ⟨a, ha, rfl⟩; exact ha
    · intro h; exact ⟨_, h, rfl⟩

theorem compact_none (a : Option Addr) (cap : Nat) (W : World) : Calls Try.prog 34 #[.slice a 0 cap] W fun e w' => e = .returned (.slice a 0 cap) ∧ W = w' := by
  go_enter Try.func34, Try.ntmps34
  go_wp2
  go_ret
  exact ⟨rfl, rfl⟩

def srt (l : List S40) : List S40 := ((toA l).toList.mergeSort fun x y => !(ltOf cfN) y x).map ofP
def cpt (l : List S40) : List S40 := (compactUpTo (toA l) l.length).map ofP
theorem toA_srt (l : List S40) : toA (srt l) = ((toA l).toList.mergeSort fun x y => !(ltOf cfN) y x).toArray := by
  unfold srt toA
  rw [List.map_map]
  congr 1
  have : (toP ∘ ofP) = id := by funext x; rfl
  rw [this, List.map_id]
theorem srt_length (l : List S40) : (srt l).length = l.length := by simp [srt, toA]
theorem cpt_srt (l : List S40) : cpt (srt l) = nrm l := by
  unfold cpt
  rw [← sorted_nrm l _ (toA_srt l), toA_size]
theorem cpt_length (l : List S40) : (cpt l).length ≤ l.length := by
  unfold cpt compactUpTo
  simp only [List.length_map]
  exact Nat.le_trans (List.length_filter_le _ _) (by simp)

theorem flat_of_R {W : World} {base : Nat} {v : Value} {l : List S40} (h : Kd.R k40 40 W base (fun _ => True) v l) : W.ownsRow base 40 2 v l.length (flatS l) := by
  obtain ⟨_, news, ho, hr⟩ := h
  have e : news = flatS l := by
    apply List.ext_getElem?
    intro t
    have hr1 : news.length = l.length * 2 := hr.1
    by_cases ht : t < l.length * 2
    · have hlt : t / 2 < l.length := by omega
      have hM := hr.2 (t / 2) _ (List.getElem?_eq_getElem hlt)
      have hM : List.take 2 (List.drop (t / 2 * 2) news) = _ := k40_openM hM
      have hf := flatS_get l (t / 2) hlt
      have hd : l.getD (t / 2) z40 = l[t / 2] := by simp [List.getD_eq_getElem?_getD, hlt]
      rw [hd] at hf
      have g0 : news[t / 2 * 2]? = some (.int .i64 l[t / 2].f0) := by
        have := congrArg (fun z => z[0]?) hM
        simpa [List.getElem?_take, List.getElem?_drop] using this
      have g1 : news[t / 2 * 2 + 1]? = some (.int .i64 l[t / 2].f1) := by
        have := congrArg (fun z => z[1]?) hM
        simpa [List.getElem?_take, List.getElem?_drop] using this
      have e : t = t / 2 * 2 ∨ t = t / 2 * 2 + 1 := by omega
      rcases e with e | e
      · rw [e, hf.1, g0]
      · rw [e, hf.2, g1]
    · rw [List.getElem?_eq_none (by omega), List.getElem?_eq_none (by rw [flatS_length]; omega)]
  rw [← e]
  exact ho

theorem spans_sort (w W : World) (v : Value) (l : List S40) (hn : l.length ≤ 8796093022208) (h : Kd.R k40 40 W w.heap.size (fun _ => True) v l) (hB : Below w.heap.size w W) :
    Calls Try.prog 33 #[v, .func (.func 30) #[] #[]] W fun e w' => e = .returned (.tuple #[]) ∧ Kd.R k40 40 w' w.heap.size (fun _ => True) v (srt l) ∧ Below w.heap.size w w' := by
  have hown := flat_of_R h
  rcases hown.2 with ⟨rfl, h0⟩ | ⟨g, cap, cur, rfl, hbase, hb, h1, h2, h3, h4⟩
  · have e : l = [] := List.length_eq_zero_iff.1 h0
    subst e
    refine (AnyF.slices_SortFunc_none Try.sortSpan none 0 (.func (.func 30) #[] #[]) W).mono fun _ _ h' => ⟨h'.1, ?_⟩
    rw [h'.2]
    exact ⟨by have e : srt [] = [] := List.length_eq_zero_iff.1 (by rw [srt_length]; rfl)
              rw [e]; exact Kd.R_nil _ _ _ _ _, hB⟩
  have hg : g < W.heap.size := (Array.getElem?_eq_some_iff.1 hb).1
  have hH : HoldsK encS 2 W g 0 (toA l) := holds_of_flat hb h4
  have eg : ∀ args w, (callFunc 30 args).run Try.prog w = .ok (.enter 30 args) w := enters_of Try.func30 (by kernel_rfl) rfl
  have hso := AnyQ.slices_SortFunc_total Try.sortSpan 2 Try.isAgg40 Try.sizeOf40 encS encS_len encS_one cfN swoN 30 #[] g 0 cap (toA l) W eg (cmpLays g 0 (toA l).size W) hH hg (by rw [toA_size]; omega) totN
  change Calls Try.prog 33 _ _ _ at hso
  rw [← toA_srt, toA_size] at hso
  refine hso.mono ?_
  rintro e w' ⟨rfl, n, os, rfl⟩
  refine ⟨rfl, ?_⟩
  have hb2 : (sortWorldK encS 2 W g 0 n (toA (srt l)) os).heap[g]? = some (.cells (putCells id 0 (flatK encS 2 (toA (srt l))) cur) 40 (0, 0)) := by
    show (grow (putRow id (Sort.ahead W n) g 0 (flatK encS 2 (toA (srt l)))) os).heap[g]? = _
    rw [heap_grow_old _ _ (by simpa [putRow, mapBlock, Sort.ahead] using hg)]
    exact heap_put _ hb
  have hBs : Below w.heap.size w (sortWorldK encS 2 W g 0 n (toA (srt l)) os) := below_grow os (below_put _ hB hbase)
  refine ⟨R_of_flat ⟨flatS_length _, .inr ⟨g, cap, _, by rw [srt_length], hbase, hb2, by rw [srt_length]; omega, h2, by rw [putCells_size, h3], ?_⟩⟩, hBs⟩
  refine take_flat _ _ _ (by simp [toA_size, srt_length]; omega) (by simp [toA_size]) fun j hj => ?_
  have hj' : j < (toA (srt l)).size := by rw [toA_size]; exact hj
  rw [get_flatK _ _ _ _ (by omega), get_flatK _ _ _ _ (by omega), show j * 2 / 2 = j by omega, show j * 2 % 2 = 0 by omega, show (j * 2 + 1) / 2 = j by omega, show (j * 2 + 1) % 2 = 1 by omega, toA_get _ _ hj]
  exact ⟨rfl, rfl⟩

theorem spans_compact (w W : World) (v : Value) (l : List S40) (hn : l.length ≤ 8796093022208) (h : Kd.R k40 40 W w.heap.size (fun _ => True) v l) (hB : Below w.heap.size w W) :
    Calls Try.prog 34 #[v] W fun e w' => ∃ v', e = .returned v' ∧ Kd.R k40 40 w' w.heap.size (fun _ => True) v' (cpt l) ∧ Below w.heap.size w w' := by
  have hown := flat_of_R h
  rcases hown.2 with ⟨rfl, h0⟩ | ⟨g, cap, cur, rfl, hbase, hb, h1, h2, h3, h4⟩
  · have e : l = [] := List.length_eq_zero_iff.1 h0
    subst e
    refine (compact_none none 0 W).mono ?_
    rintro e w' ⟨rfl, rfl⟩
    exact ⟨_, rfl, Kd.R_nil _ _ _ _ _, hB⟩
  have hg : g < W.heap.size := (Array.getElem?_eq_some_iff.1 hb).1
  have hH : HoldsK encS 2 W g 0 (toA l) := holds_of_flat hb h4
  have hco := compact_any g cap (toA l) W hH (by rw [toA_size]; omega) (by rw [toA_size]; omega)
  rw [toA_size] at hco
  have hlen : (cpt l).length = (compactUpTo (toA l) l.length).length := by simp [cpt]
  have hle := cpt_length l
  refine hco.mono ?_
  rintro e w' ⟨rfl, q, F, hF, hFr, rfl⟩
  refine ⟨_, rfl, ?_, below_put F hB hbase⟩
  refine R_of_flat ⟨flatS_length _, .inr ⟨g, cap, _, by rw [hlen], hbase, heap_put F hb, by omega, h2, by rw [putCells_size, h3], ?_⟩⟩
  refine take_flat _ F _ (by omega) (by omega) fun j hj => ?_
  have hj' : j < (compactUpTo (toA l) l.length).length := by omega
  have h := hFr j _ (List.getElem?_eq_getElem hj')
  have e : (cpt l).getD j z40 = ofP (compactUpTo (toA l) l.length)[j] := by
    rw [List.getD_eq_getElem?_getD]
    simp [cpt, hj']
  rw [e]
  exact h
end Go.Proofs.Ytmmdlkeemafanaa.Q
