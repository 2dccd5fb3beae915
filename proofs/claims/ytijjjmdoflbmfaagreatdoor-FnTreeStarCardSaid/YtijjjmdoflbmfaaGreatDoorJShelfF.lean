/- A row put into a row: contract. No condition. -/
import Derived.Test.YtijjjmdoflbmfaaGreatDoorJShelfE
set_option linter.unusedVariables false
set_option linter.unusedSimpArgs false
namespace Go.Am.Tryz
open Go.Am Go.Proofs Go.RowKit Go.Lib
theorem info3 : ∃ i0, Tryz.prog.info? 3 = some i0 ∧ i0.zero = some (Value.int .i64 0) ∧ i0.size = 1 ∧ i0.bytes = 8 := info_parts (by kernel_rfl)
set_option maxHeartbeats 4000000 in
set_option maxRecDepth 100000 in
theorem ins_end (W : World) (s : Value) (n m c vb : Nat) (cs ds : List Value) (hs : W.ownsRow 0 3 1 s n cs) (hdl : ds.length = m) (hds : ∀ j u, ds[j]? = some u → W.cell? ((⟨vb, 0, none⟩ : Addr).add j) = some u) (h1 : ∀ u ∈ ds, u.oneCell' = true) (hm : 1 ≤ m) (hnm : n + m ≤ 1073741824) :
    Calls Tryz.prog 90 #[s, .int .i64 n, .slice (some ⟨vb, 0, none⟩) m c] W fun e' w' => ∃ v', e' = .returned v' ∧ w'.ownsRow 0 3 1 v' (n + m) (cs ++ ds) ∧ W.grownBy w' s.ownBlock ∧ (v'.ownBlock = s.ownBlock ∨ v'.ownBlock = some W.heap.size) := by
  obtain ⟨i0, hi0, hz0, hzs, hzb⟩ := info3
  have hu : Tryz.prog.underlying 41 = some (.slice 3) := Tryz.underlying41
  have hmax : maxLen = 9223372036854775807 := rfl
  obtain ⟨v', w', hrun, hown', hg, _, hat⟩ := run_append_own_at (P := Tryz.prog) W 0 41 41 3 i0 (.int .i64 0) 1 8 hu hi0 hz0 hzs hzb rfl (by omega) s n cs hs ⟨vb, 0, none⟩ m c ds (by omega) hds h1 (by omega) (by omega) (Nat.zero_le _)
  have hz1 : ¬ ((m : Int) = 0) := by omega
  have hn0 := hs.2
  rcases hn0 with ⟨rfl, rfl⟩ | ⟨g, cap, cur, rfl, _, _, hnc, _⟩
  · go_enter Tryz.func90, Tryz.ntmps90
    go_wp2_with (at_builtin; refine Lib.wpList_append_run _ rfl _ _ _ _ rfl _ _ rfl rfl _ _ hrun ?_)
    go_ret
    exact ⟨v', rfl, by simpa using hown', hg, hat⟩
  · have hc63 : cap ≤ 9223372036854775807 := by omega
    go_enter Tryz.func90, Tryz.ntmps90
    go_wp2_with (at_builtin; refine Lib.wpList_append_run _ rfl _ _ _ _ rfl _ _ rfl rfl _ _ hrun ?_)
    all_goals (go_ret; exact ⟨v', rfl, hown', hg, hat⟩)
set_option maxHeartbeats 4000000 in
set_option maxRecDepth 100000 in
/-- There is room: in place. -/
theorem ins_room (W : World) (g n c i vb m vc : Nat) (cur : Array Value) (ds : List Value) (hg : W.heap[g]? = some (.cells cur 3 (0, 0))) (hc : cur.size = c * 1) (hcm : c ≤ 9223372036854775807) (h1c : ∀ v ∈ cur.toList.take (n * 1), v.oneCell' = true)
    (hi : i < n) (hdl : ds.length = m * 1) (hds : ∀ j u, ds[j]? = some u → W.cell? ((⟨vb, 0, none⟩ : Addr).add j) = some u) (h1 : ∀ u ∈ ds, u.oneCell' = true) (hm : 1 ≤ m) (hroom : n + m ≤ c) (hvb : vb ≠ g)
    (tA : TypeId) (kA : Nat) (hsa : W.shape? vb = some (tA, kA)) (hfa : W.frozen? ⟨vb, 0, none⟩ = false) (hfe : W.frozen? ⟨vb, kA, none⟩ = false) :
    Calls Tryz.prog 90 #[.slice (some ⟨g, 0, none⟩) n c, .int .i64 i, .slice (some ⟨vb, 0, none⟩) m vc] W fun e' w' => e' = .returned (.slice (some ⟨g, 0, none⟩) (n + m) c) ∧
      ∃ cur', w'.heap[g]? = some (.cells cur' 3 (0, 0)) ∧ cur'.size = c * 1 ∧ cur'.toList.take ((n + m) * 1) = cur.toList.take (i * 1) ++ ds ++ (cur.toList.take (n * 1)).drop (i * 1) ∧ W.grownBy w' (some g) := by
  obtain ⟨i0, hi0, hz0, hzs, hzb⟩ := info3
  have hu : Tryz.prog.underlying 41 = some (.slice 3) := Tryz.underlying41
  have hsz : (Tryz.prog.info? 3).map (·.size) = some 1 := by rw [hi0]; simp [hzs]
  have hz1 : ¬ ((m : Int) = 0) := by omega
  have hz2 : ¬ ((i : Int) = (n : Int)) := by omega
  have hw1 : IntKind.i64.wrap ((i : Int) + (m : Int)) = (i : Int) + (m : Int) := by rw [IntKind.wrap_i64]; omega
  have hb1 : (0 : Int) ≤ (i : Int) + (m : Int) := by omega
  have hin : i ≤ n := by omega
  have htn : ((i : Int) + (m : Int)).toNat = i + m := by omega
  have hb2 : ¬ (c = i + m) := by omega
  have hb3 : (i : Int) ≤ (n : Int) + (m : Int) := by omega
  have hb4 : ¬ (c = i) := by omega
  have hov : ∀ (w : World) lb cb, w.heap = W.heap → (callFunc 117 #[.slice (some ⟨vb, 0, none⟩) m vc, .slice (some ⟨g, i + m, none⟩) lb cb]).run Tryz.prog w = .ok (.value (.bool false)) w := fun w lb cb hw => by
    rw [run_callFunc_extern Tryz.func117 (by kernel_rfl) (by kernel_rfl) (by kernel_rfl) (e := Extern.SlicesOverlaps.overlaps #[41, 41] #[4]) (by kernel_rfl),
      Lib.run_overlaps_apart w 41 4 3 hu 1 (fun w => by simp [sizeOf, typeInfo, hi0, hzs]) ⟨vb, 0, none⟩ ⟨g, i + m, none⟩ m vc lb cb hvb tA 3 kA cur.size (by rw [World.shape?, hw]; exact hsa) (by simp [World.shape?, hw, hg]) (by omega) (by rw [World.frozen?, hw]; exact hfa) (by rw [World.frozen?, hw]; exact hfe)]
    rfl
  obtain ⟨tail, htail⟩ : ∃ tail, tail = (cur.toList.take (n * 1)).drop (i * 1) := ⟨_, rfl⟩
  have htl : tail.length = (n - i) * 1 := by rw [htail, List.length_drop, List.length_take, Array.length_toList, hc]; omega
  have hcur : ∀ (w : World), w.heap = W.heap → ∀ j v, tail[j]? = some v → w.cell? ((⟨g, i * 1, none⟩ : Addr).add j) = some v := fun w hw j v hj => by
    rw [htail, List.getElem?_drop, List.getElem?_take] at hj
    split at hj
    · rw [Addr.add_lit, cell_of_row w g _ cur 3 (0, 0) (by rw [hw]; exact hg)]
      simpa using hj
    · cases hj
  have hcp1 : ∀ ty dc sc, (Builtin.copy_ #[41, 41] ty #[.slice (some ⟨g, (i + m) * 1, none⟩) (n + m - (i + m)) dc, .slice (some ⟨g, i * 1, none⟩) (n + m - i) sc]).run Tryz.prog W.drew = _ := fun ty dc sc =>
    run_copy_rowN W.drew 41 41 ty 3 1 g ((i + m) * 1) (n + m - (i + m)) dc ⟨g, i * 1, none⟩ (n + m - i) sc cur 3 tail hu hsz hg (by rw [htl]; simp only [Nat.min_def]; split <;> omega) (hcur _ rfl) (by rw [htl, hc]; omega) (fun v hv => h1c v (List.mem_of_mem_drop (htail ▸ hv)))
  obtain ⟨c1, hc1⟩ : ∃ c1, c1 = (cur.toList.take ((i + m) * 1) ++ tail ++ cur.toList.drop ((i + m) * 1 + tail.length)).toArray := ⟨_, rfl⟩
  rw [← hc1] at hcp1
  have hc1s : c1.size = c * 1 := by rw [hc1]; simp [htl, hc]; omega
  have hW1 : (W.drew.setRow g c1).heap[g]? = some (.cells c1 3 (0, 0)) := setRow_heap W.drew g cur c1 3 (0, 0) hg
  have hds1 : ∀ j u, ds[j]? = some u → (W.drew.setRow g c1).cell? ((⟨vb, 0, none⟩ : Addr).add j) = some u := fun j u hj => by
    have h2 := hds j u hj
    rw [Addr.add_lit] at h2 ⊢
    rw [World.cell?_of_block (w := W) (a := ⟨vb, 0 + j, none⟩) (by exact setRow_other W.drew g vb c1 hvb)]
    exact h2
  have hcp2 : ∀ ty dc, (Builtin.copy_ #[41, 41] ty #[.slice (some ⟨g, i * 1, none⟩) (n + m - i) dc, .slice (some ⟨vb, 0, none⟩) m vc]).run Tryz.prog (W.drew.setRow g c1) = _ := fun ty dc =>
    run_copy_rowN (W.drew.setRow g c1) 41 41 ty 3 1 g (i * 1) (n + m - i) dc ⟨vb, 0, none⟩ m vc c1 3 ds hu hsz hW1 (by rw [hdl]; simp only [Nat.min_def]; split <;> omega) hds1 (by rw [hdl, hc1s]; omega) h1
  obtain ⟨c2, hc2⟩ : ∃ c2, c2 = (c1.toList.take (i * 1) ++ ds ++ c1.toList.drop (i * 1 + ds.length)).toArray := ⟨_, rfl⟩
  rw [← hc2] at hcp2
  have fin : ∃ cur', ((W.drew.setRow g c1).setRow g c2).heap[g]? = some (.cells cur' 3 (0, 0)) ∧ cur'.size = c * 1 ∧ cur'.toList.take ((n + m) * 1) = cur.toList.take (i * 1) ++ ds ++ (cur.toList.take (n * 1)).drop (i * 1) ∧ W.grownBy ((W.drew.setRow g c1).setRow g c2) (some g) := by
    refine ⟨c2, setRow_heap _ g c1 c2 3 (0, 0) hW1, by rw [hc2, List.size_toArray, List.length_append, List.length_append, List.length_take, List.length_drop, Array.length_toList, hc1s, hdl]; omega, ?_, ⟨rfl, rfl, rfl, by rw [setRow_size, setRow_size]; exact Nat.le_refl W.heap.size, fun k hk hne => ?_⟩⟩
    · have := splice (L := cur.toList) (ds := ds) (a := i * 1) (b := n * 1) (d := m * 1) (by omega) (by rw [Array.length_toList, hc]; omega) hdl
      rw [← htail] at this ⊢
      rw [hc2, hc1, htl, hdl, show (i + m) * 1 = i * 1 + m * 1 by omega, show (n + m) * 1 = n * 1 + m * 1 by omega, show (n - i) * 1 = n * 1 - i * 1 by omega]
      exact this
    · have hne' : k ≠ g := fun e => hne (by rw [e])
      rw [setRow_other _ g k c2 hne', setRow_other _ g k c1 hne']
      rfl
  simp only [Nat.mul_one] at hcp1 hcp2 hcur fin ⊢
  clear hcur hds1 hds hW1 htail htl hc1 hc2 hc1s h1c h1 hdl
  go_enter Tryz.func90, Tryz.ntmps90
  have hov' : ∀ lb cb, (callFunc 117 #[.slice (some ⟨vb, 0, none⟩) m vc, .slice (some ⟨g, i + m, none⟩) lb cb]).run Tryz.prog W = .ok (.value (.bool false)) W := fun lb cb => hov W lb cb rfl
  clear hov
  have mixed : Tryz.prog.follows .mixedOrders = true := by kernel_rfl
  go_wp2_with (simp only [hov'])
  go_region_law_o (refine step_copy_runI rfl _ _ 41 41 rfl _ _ (by simp [Act.eval, Act.put]) (by simp [Act.eval, Act.put]) (hcp1 _ _ _) ?_)
  go_wp2_with (at_builtin; refine wpList_copy_runI _ rfl _ _ 41 41 rfl _ _ rfl rfl (hcp2 _ _) ?_)
  go_ret
  exact ⟨rfl, fin⟩
set_option maxHeartbeats 4000000 in
set_option maxRecDepth 100000 in
/-- There is no room: a new row. -/
theorem ins_grow (W : World) (g n c i vb m vc : Nat) (cur : Array Value) (ds : List Value) (hg : W.heap[g]? = some (.cells cur 3 (0, 0))) (hc : cur.size = c * 1) (hnc : n ≤ c) (h1c : ∀ v ∈ cur.toList.take (n * 1), v.oneCell' = true)
    (hi : i < n) (hdl : ds.length = m * 1) (hds : ∀ j u, ds[j]? = some u → W.cell? ((⟨vb, 0, none⟩ : Addr).add j) = some u) (hvw : vb < W.heap.size) (h1 : ∀ u ∈ ds, u.oneCell' = true) (hm : 1 ≤ m) (hroom : c < n + m) (hnm : n + m ≤ 1073741824) :
    Calls Tryz.prog 90 #[.slice (some ⟨g, 0, none⟩) n c, .int .i64 i, .slice (some ⟨vb, 0, none⟩) m vc] W fun e' w' => ∃ G, e' = .returned (.slice (some ⟨W.heap.size, 0, none⟩) (n + m) G) ∧ n + m ≤ G ∧ G ≤ 9223372036854775807 ∧
      ∃ cur', w'.heap[W.heap.size]? = some (.cells cur' 3 (0, 0)) ∧ cur'.size = G * 1 ∧ cur'.toList.take ((n + m) * 1) = cur.toList.take (i * 1) ++ ds ++ (cur.toList.take (n * 1)).drop (i * 1) ∧ W.grownBy w' none := by
  obtain ⟨i0, hi0, hz0, hzs, hzb⟩ := info3
  have hu : Tryz.prog.underlying 41 = some (.slice 3) := Tryz.underlying41
  have hu3 : Tryz.prog.underlying 3 = some (.int .i64) := Tryz.underlying3
  have mixed : Tryz.prog.follows .mixedOrders = true := by kernel_rfl
  have hsz : (Tryz.prog.info? 3).map (·.size) = some 1 := by rw [hi0]; simp [hzs]
  have hz1 : ¬ ((m : Int) = 0) := by omega
  have hz2 : ¬ ((i : Int) = (n : Int)) := by omega
  have hz3 : (c : Int) < (n : Int) + (m : Int) := by omega
  have hbw : g < W.heap.size := (Array.getElem?_eq_some_iff.1 hg).1
  have hkk : (n : Int) + (m : Int) - (i : Int) = ((n + m - i : Nat) : Int) := by omega
  have hik : i + (n + m - i) = n + m := by omega
  obtain ⟨L, hL⟩ : ∃ L, L = cur.toList := ⟨_, rfl⟩
  have hLl : L.length = c * 1 := by rw [hL, Array.length_toList, hc]
  have hcell : ∀ (w : World), w.heap[g]? = W.heap[g]? → ∀ (o j : Nat) v, (L.drop o)[j]? = some v → w.cell? ((⟨g, o, none⟩ : Addr).add j) = some v := fun w hw o j v hj => by
    rw [List.getElem?_drop, hL] at hj
    rw [Addr.add_lit, cell_of_row w g _ cur 3 (0, 0) (by rw [hw]; exact hg)]
    simpa using hj
  have hold : (Builtin.firstCells i0.size i (.slice (some ⟨g, 0, none⟩) i c)).run Tryz.prog W.drew = .ok (L.take (i * 1)).toArray W.drew := by
    rw [hzs]
    exact run_firstCells_some W.drew 1 i ⟨g, 0, none⟩ i c (L.take (i * 1)) (by rw [List.length_take, hLl, Nat.min_eq_left (by omega)]) (fun j v hj => by
      rw [List.getElem?_take] at hj
      split at hj
      · exact hcell W.drew rfl 0 j v (by rw [List.drop_zero]; exact hj)
      · cases hj)
  obtain ⟨G, hG⟩ : ∃ G, G = grownCap W (n + m) c 3 := ⟨_, rfl⟩
  obtain ⟨ROW, hROW⟩ : ∃ ROW : Array Value, ROW = (L.take (i * 1)).toArray ++ Builtin.zeroCells (Value.int .i64 0).cells (n + m - i) ++ Builtin.zeroCells (Value.int .i64 0).cells (G - (n + m)) := ⟨_, rfl⟩
  have hrz : ∀ ty, (Builtin.append_ #[41, 3] ty #[.slice (some ⟨g, 0, none⟩) i c, .int .i64 ((n : Int) + (m : Int) - (i : Int))]).run Tryz.prog W = .ok (.slice (some ⟨W.heap.size, 0, none⟩) (n + m) G) (W.drew.alloc (.cells ROW 3)) := fun ty => by
    have h := Lib.run_append_grow_zeros W 41 3 ty 3 i0 _ .i64 .i64 hu hu3 hi0 hz0 (some ⟨g, 0, none⟩) i c (L.take (i * 1)).toArray.toList (by rw [Array.toArray_toList]; exact hold) (n + m - i) (by omega) (by omega) (by omega) (by omega) (by rw [hzb]; omega) (by rw [hzb, hik]; exact growslice_fits hroom (by omega))
    rw [hik, Array.toArray_toList] at h
    rw [hkk, hROW, hG]
    exact h
  have hGn : n + m ≤ G := by rw [hG]; exact grownCap_ge W _ _ _
  have hG63 : G ≤ 9223372036854775807 := by
    have := grownCap_le_maxLen W (n + m) c 3 (by unfold maxLen; omega)
    rw [← hG] at this
    unfold maxLen at this
    omega
  have hRs : ROW.size = G * 1 := by
    rw [hROW, Array.size_append, Array.size_append, size_zeroCells, size_zeroCells, List.size_toArray, List.length_take, hLl, show (Value.int .i64 0).cells.size = 1 from rfl]
    omega
  obtain ⟨r1, hr1⟩ : ∃ r1, r1 = (ROW.toList.take (i * 1) ++ ds ++ ROW.toList.drop (i * 1 + ds.length)).toArray := ⟨_, rfl⟩
  obtain ⟨tail, htail⟩ : ∃ tail, tail = (L.take (n * 1)).drop (i * 1) := ⟨_, rfl⟩
  have htl : tail.length = (n - i) * 1 := by rw [htail, List.length_drop, List.length_take, hLl]; omega
  obtain ⟨r2, hr2⟩ : ∃ r2, r2 = (r1.toList.take ((i + m) * 1) ++ tail ++ r1.toList.drop ((i + m) * 1 + tail.length)).toArray := ⟨_, rfl⟩
  have hr1s : r1.size = G * 1 := by rw [hr1, List.size_toArray, List.length_append, List.length_append, List.length_take, List.length_drop, Array.length_toList, hRs, hdl]; omega
  have hr2s : r2.size = G * 1 := by rw [hr2, List.size_toArray, List.length_append, List.length_append, List.length_take, List.length_drop, Array.length_toList, hr1s, htl]; omega
  have hN : ∀ (w : World), w.heap = (W.drew.alloc (.cells ROW 3)).heap → w.heap[W.heap.size]? = some (.cells ROW 3 (0, 0)) := fun w hw => by rw [hw]; exact heap_alloc_new W.drew _
  have hold' : ∀ (w : World), w.heap = (W.drew.alloc (.cells ROW 3)).heap → ∀ k, k < W.heap.size → w.heap[k]? = W.heap[k]? := fun w hw k hk => by rw [hw]; exact Below.heap_alloc _ _ _ hk
  have hcpA : ∀ (w : World), w.heap = (W.drew.alloc (.cells ROW 3)).heap → ∀ ty dc, (Builtin.copy_ #[41, 41] ty #[.slice (some ⟨W.heap.size, i * 1, none⟩) (n + m - i) dc, .slice (some ⟨vb, 0, none⟩) m vc]).run Tryz.prog w = .ok (goInt (Nat.min m (n + m - i))) (w.setRow W.heap.size r1) := fun w hw ty dc => by
    rw [hr1]
    refine run_copy_rowN w 41 41 ty 3 1 W.heap.size (i * 1) (n + m - i) dc ⟨vb, 0, none⟩ m vc ROW 3 ds hu hsz (hN w hw) (by rw [hdl]; simp only [Nat.min_def]; split <;> omega) (fun j u hj => ?_) (by rw [hdl, hRs]; omega) h1
    have h2 := hds j u hj
    rw [Addr.add_lit] at h2 ⊢
    rw [World.cell?_of_block (w := W) (a := ⟨vb, 0 + j, none⟩) (hold' w hw vb hvw)]
    exact h2
  have hcpB : ∀ (w : World), w.heap = ((W.drew.alloc (.cells ROW 3)).setRow W.heap.size r1).heap → ∀ ty dc sc, (Builtin.copy_ #[41, 41] ty #[.slice (some ⟨W.heap.size, (i + m) * 1, none⟩) (n + m - (i + m)) dc, .slice (some ⟨g, i * 1, none⟩) (n - i) sc]).run Tryz.prog w = .ok (goInt (Nat.min (n - i) (n + m - (i + m)))) (w.setRow W.heap.size r2) := fun w hw ty dc sc => by
    rw [hr2]
    refine run_copy_rowN w 41 41 ty 3 1 W.heap.size ((i + m) * 1) (n + m - (i + m)) dc ⟨g, i * 1, none⟩ (n - i) sc r1 3 tail hu hsz (by rw [hw]; exact setRow_heap _ _ ROW r1 3 (0, 0) (hN _ rfl)) (by rw [htl]; simp only [Nat.min_def]; split <;> omega) (fun j u hj => ?_) (by rw [htl, hr1s]; omega) (fun v hv => h1c v (by rw [htail, hL] at hv; exact List.mem_of_mem_drop hv))
    rw [htail, List.drop_take, List.getElem?_take] at hj
    split at hj
    · exact hcell w (by rw [hw, setRow_other _ _ g _ (by omega)]; exact hold' _ rfl g hbw) (i * 1) j u hj
    · cases hj
  have fin : ∀ (w : World), w.heap = (((W.drew.alloc (.cells ROW 3)).setRow W.heap.size r1).setRow W.heap.size r2).heap → w.os = W.os → w.tape = W.tape → w.output = W.output →
      ∃ cur', w.heap[W.heap.size]? = some (.cells cur' 3 (0, 0)) ∧ cur'.size = G * 1 ∧ cur'.toList.take ((n + m) * 1) = cur.toList.take (i * 1) ++ ds ++ (cur.toList.take (n * 1)).drop (i * 1) ∧ W.grownBy w none := by
    intro w hw h1 h2 h3
    refine ⟨r2, by rw [hw]; exact setRow_heap _ _ r1 r2 3 (0, 0) (setRow_heap _ _ ROW r1 3 (0, 0) (hN _ rfl)), hr2s, ?_, grownBy_alloc_rows (W := W) (o := .cells ROW 3) (r1 := r1) (r2 := r2) hw h1 h2 h3 none⟩
    have := splice2 (L := L) (ds := ds) (Z := (Builtin.zeroCells (Value.int .i64 0).cells (n + m - i)).toList) (Z' := (Builtin.zeroCells (Value.int .i64 0).cells (G - (n + m))).toList) (a := i * 1) (b := n * 1) (d := m * 1) (by omega) (by rw [hLl]; omega) hdl
      (by rw [Array.length_toList, size_zeroCells, show (Value.int .i64 0).cells.size = 1 from rfl]; omega)
    rw [← htail] at this
    rw [← hL, ← htail, hr2, hr1, hROW, htl, hdl, show (i + m) * 1 = i * 1 + m * 1 by omega, show (n + m) * 1 = n * 1 + m * 1 by omega, show (n - i) * 1 = n * 1 - i * 1 by omega]
    simpa only [Array.toList_append] using this
  have hGi : ¬ (G = i) := by omega
  have hGim : ¬ (G = i + m) := by omega
  have hci : ¬ (c = i) := by omega
  have hw1 : IntKind.i64.wrap ((i : Int) + (m : Int)) = (i : Int) + (m : Int) := by rw [IntKind.wrap_i64]; omega
  have hb1 : (0 : Int) ≤ (i : Int) + (m : Int) := by omega
  have hin : i ≤ n := by omega
  have htn : ((i : Int) + (m : Int)).toNat = i + m := by omega
  have hb3 : (i : Int) ≤ (n : Int) := by omega
  simp only [Nat.mul_one] at hcpA hcpB fin ⊢
  clear hkk hik hold hROW hG hRs hr1 hr2 hr1s hr2s htail htl hcell hN hold' hL hLl h1 h1c hds hdl
  have hE : ((W.alloc (.cells ROW 3)).drew).heap = (W.drew.alloc (.cells ROW 3)).heap := rfl
  have hF : (((W.alloc (.cells ROW 3)).drew.setRow W.heap.size r1).drew).heap = ((W.drew.alloc (.cells ROW 3)).setRow W.heap.size r1).heap := rfl
  go_enter Tryz.func90, Tryz.ntmps90
  go_wp2_with (first
    | (at_builtin; refine Lib.wpList_append_run _ rfl _ _ _ _ rfl _ _ rfl rfl _ _ (hrz _) ?_)
    | (at_builtin; refine wpList_copy_runI _ rfl _ _ 41 41 rfl _ _ rfl rfl (hcpA _ hE _ _) ?_))
  go_region_law_o (refine step_copy_runI rfl _ _ 41 41 rfl (.slice (some ⟨W.heap.size, i + m, none⟩) (n + m - (i + m)) (G - (i + m))) (.slice (some ⟨g, i, none⟩) (n - i) (c - i)) (by simp [Act.eval, Act.put]) (by simp [Act.eval, Act.put]) (hcpB _ hF 3 (G - (i + m)) (c - i)) ?_)
  go_wp2
  go_ret
  exact ⟨G, rfl, hGn, hG63, fin _ rfl rfl rfl rfl⟩
theorem slices_Insert_int_in (W : World) : InsIn Tryz.prog 90 3 (.int .i64) W := by
  intro s v n m i cs ds hs hv hap hm hi hnm h1c h1d
  have hk : (Ty.int .i64).n = 1 := rfl
  rw [hk] at hs hv ⊢
  have hds := fun g hg => hv.cells (g := g) hg
  obtain ⟨hdl, ⟨rfl, rfl⟩ | ⟨vb, vc, vcur, rfl, _, hvh, hvn, hvm, hvs, hvt⟩⟩ := hv
  · omega
  have hds := hds vb rfl
  have hvb := hap
  have hvw : vb < W.heap.size := (Array.getElem?_eq_some_iff.1 hvh).1
  by_cases hin : i = n
  · subst hin
    refine (ins_end W s i m vc vb cs ds hs (by omega) hds h1d hm hnm).mono fun e' w' h => ?_
    obtain ⟨v', rfl, h1, h2, h3⟩ := h
    refine ⟨v', rfl, ?_, h2, h3.imp_right fun h g hg => ?_⟩
    · rw [← hs.1, List.take_length, List.drop_length, List.append_nil]
      exact h1
    · rw [h] at hg
      cases hg
      exact Nat.le_refl _
  · obtain ⟨hcl, ⟨rfl, rfl⟩ | ⟨g, c, cur, rfl, _, hgh, hnc, hcm, hcs, hct⟩⟩ := hs
    · omega
    have hmax : maxLen = 9223372036854775807 := rfl
    have hne : vb ≠ g := fun e => hap g rfl (by rw [e]; rfl)
    have h1c' : ∀ u ∈ cur.toList.take (n * 1), u.oneCell' = true := by rw [hct]; exact h1c
    have h5 : cur.toList.take (i * 1) = cs.take (i * 1) := by rw [← hct, List.take_take, Nat.min_eq_left (by omega)]
    by_cases hroom : n + m ≤ c
    · refine (ins_room W g n c i vb m vc cur ds hgh hcs (by omega) h1c' (by omega) hdl hds h1d hm hroom hne 3 vcur.size (by simp [World.shape?, hvh]) (by simp [World.frozen?, hvh]) (by simp [World.frozen?, hvh])).mono fun e' w' h => ?_
      obtain ⟨rfl, cur', h1, h2, h3, h4⟩ := h
      rw [hct, h5] at h3
      refine ⟨_, rfl, ⟨?_, .inr ⟨g, c, cur', rfl, Nat.zero_le _, h1, hroom, hcm, h2, h3⟩⟩, h4, .inl rfl⟩
      rw [← h3, List.length_take, Array.length_toList, h2]
      omega
    · refine (ins_grow W g n c i vb m vc cur ds hgh hcs hnc h1c' (by omega) hdl hds hvw h1d hm (by omega) hnm).mono fun e' w' h => ?_
      obtain ⟨G, rfl, hG1, hG2, cur', h1, h2, h3, h4⟩ := h
      rw [hct, h5] at h3
      refine ⟨_, rfl, ⟨?_, .inr ⟨W.heap.size, G, cur', rfl, Nat.zero_le _, h1, hG1, by omega, h2, h3⟩⟩, ⟨h4.os, h4.tape, h4.output, h4.size, fun k hk _ => h4.block k hk (by simp)⟩, .inr fun g' hg' => ?_⟩
      · rw [← h3, List.length_take, Array.length_toList, h2]
        omega
      · cases hg'
        exact Nat.le_refl _
def slices_Insert_int_con : Any := .ins 3 (.int .i64)
theorem slices_Insert_int_ok : AnyOk Tryz.prog TB 90 slices_Insert_int_con := ⟨⟨_, Tryz.func90, by kernel_rfl, by kernel_rfl⟩, fun W _ => slices_Insert_int_in W⟩
end Go.Am.Tryz
