/- The stable sort of up to 39 folded spans. -/
import Derived.Test.YtfpfdgljhcpkpaaDoorT8G
namespace Go.Proofs.YtfpfdgljhcpkpaaDoor
open Go.RowKit Go.Shelf Go.Sort

theorem fe_flat (d : Array FE) {j : Nat} (hj : j < d.size * 3) : (feCells d.toList)[j]? = some ((flatK encF 3 d)[j]!) := by
  rw [get_flatK _ _ _ _ hj]
  have hi : j / 3 < d.size := by omega
  have e1 : d[j / 3]! = d[j / 3] := getElem!_pos d (j / 3) hi
  rw [e1]
  obtain ⟨x, hx⟩ : ∃ x, d[j / 3] = x := ⟨_, rfl⟩
  have hx' : d.toList[j / 3]? = some x := by rw [Array.getElem?_toList, Array.getElem?_eq_getElem hi, hx]
  obtain ⟨a, b, c⟩ := feCells_at _ _ _ hx'
  rw [hx]
  have hm : j % 3 = 0 ∨ j % 3 = 1 ∨ j % 3 = 2 := by omega
  rcases hm with h | h | h
  · rw [show j / 3 * 3 = j from by omega] at a; rw [a, h]; rfl
  · rw [show j / 3 * 3 + 1 = j from by omega] at b; rw [b, h]; rfl
  · rw [show j / 3 * 3 + 2 = j from by omega] at c; rw [c, h]; rfl
theorem ownF_sorted {w : World} {base g c n : Nat} {L : List FE} {d : Array FE} {os : Array Obj} (h : OwnF w base (some ⟨g, 0, none⟩) c L) (hs : d.size = L.length) : OwnF (sortWorldK encF 3 w g 0 n d os) base (some ⟨g, 0, none⟩) c d.toList := by
  have hln : d.toList.length = L.length := by simpa using hs
  unfold OwnF at *
  rw [hln]
  refine ⟨by rw [feCells_length]; omega, ?_⟩
  rcases h.2 with ⟨hv, _⟩ | ⟨g', cap, cur, hv, hb, hg, hnc, hcm, hcs, htake⟩
  · cases hv
  · injection hv with hv1 hv2 hv3
    injection hv1 with hv1
    injection hv1 with hv1
    subst hv1 hv3
    have hgs : g < w.heap.size := (Array.getElem?_eq_some_iff.1 hg).1
    refine .inr ⟨g, c, putCells id 0 (flatK encF 3 d) cur, rfl, hb, ?_, hnc, hcm, by simp [putCells, hcs], ?_⟩
    · unfold sortWorldK putRowK
      rw [heap_grow_old _ _ (by simpa [putRow, mapBlock, Sort.ahead] using hgs)]
      simp [putRow, mapBlock, Sort.ahead, Array.getElem?_modify, hg, onCells]
    · have hfs : (flatK encF 3 d).size = d.size * 3 := by simp [flatK]
      apply List.ext_getElem?
      intro j
      by_cases hj : j < L.length * 3
      · rw [List.getElem?_take_of_lt hj, Array.getElem?_toList, fe_flat d (by omega)]
        have hjc : j < cur.size := by rw [hcs]; omega
        simp [putCells, hjc, hfs]
        intro hh; omega
      · rw [List.getElem?_take_eq_none (by omega), List.getElem?_eq_none (by rw [feCells_length]; omega)]
/-- An array that is the same outside a part. -/
theorem perm_mid {P X S : List FE} {d : Array FE} {a b : Nat} (ha : P.length = a) (hb : a + X.length = b) (hp : PermIn a b (P ++ X ++ S).toArray d) (hs : SortedIn (ltOf cfF) a b d) : ∃ Z, d.toList = P ++ Z ++ S ∧ Z.Perm X ∧ SortF Z := by
  obtain ⟨h1, h2, h3⟩ := hp
  have hsz : d.size = a + X.length + S.length := by rw [h1]; simp; omega
  have hget : ∀ i (hi : i < d.size), i < a ∨ b ≤ i → d.toList[i]? = (P ++ X ++ S)[i]? := by
    intro i hi ho
    have e := h2 i ho
    rw [getElem!_pos d i hi, getElem!_pos (P ++ X ++ S).toArray i (by simp; omega)] at e
    rw [Array.getElem?_toList, Array.getElem?_eq_getElem hi, e]
    simp only [List.getElem_toArray]
    rw [List.getElem?_eq_getElem]
  refine ⟨(d.extract a b).toList, ?_, ?_, ?_⟩
  · apply List.ext_getElem?
    intro i
    by_cases hi : i < d.size
    · by_cases h4 : i < a
      · rw [hget i hi (.inl h4), List.append_assoc, List.append_assoc, List.getElem?_append_left (by omega), List.getElem?_append_left (by omega)]
      · by_cases h5 : i < b
        · rw [List.append_assoc, List.getElem?_append_right (by omega), List.getElem?_append_left (by simp; omega)]
          simp only [Array.toList_extract]
          rw [List.getElem?_take_of_lt (by omega), List.getElem?_drop]
          congr 1; omega
        · rw [hget i hi (.inr (by omega)), List.getElem?_append_right (by simp; omega), List.getElem?_append_right (by simp; omega)]
          congr 1; simp; omega
    · rw [List.getElem?_eq_none (by simpa using hi), List.getElem?_eq_none (by simp; omega)]
  · have e : ((P ++ X ++ S).toArray.extract a b).toList = X := by
      simp only [Array.toList_extract, List.toList_toArray]
      rw [List.append_assoc, List.extract_eq_take_drop, List.drop_append_of_le_length (by omega), List.drop_of_length_le (by omega), List.nil_append, List.take_append_of_le_length (by omega), List.take_of_length_le (by omega)]
    rw [e] at h3
    exact h3
  · rw [SortF, List.pairwise_iff_getElem]
    intro i j hi hj hij
    simp at hi hj
    have := hs (a + i) (a + j) (by omega) (by omega) (by omega)
    rw [ltF] at this
    rw [getElem!_pos d _ (by omega), getElem!_pos d _ (by omega)] at this
    simp at this
    simp only [Array.getElem_toList, Array.getElem_extract]
    exact this
theorem ins_range {w0 w : World} {g c : Nat} (P X S : List FE) (a b N : Nat) (h : RowAt w0 w g c (P ++ X ++ S)) (ha : P.length = a) (hb : a + X.length = b) (hN : b + S.length = N) (hl : N ≤ 1000000) :
    Calls Tryd.prog 125 #[.slice (some ⟨g, 0, none⟩) N c, .int .i64 a, .int .i64 b, .func (.func 57) #[] #[]] w fun e w' => e = .returned (.tuple #[]) ∧ ∃ Z, Z.Perm X ∧ SortF Z ∧ RowAt w0 w' g c (P ++ Z ++ S) := by
  have eg : ∀ args w, (callFunc 57 args).run Tryd.prog w = .ok (.enter 57 args) w := enters_of Tryd.func57 (by kernel_rfl) rfl
  have hz : (P ++ X ++ S).toArray.size = N := by simp; omega
  have hS := AnyQ.insertionSortCmpFunc (P := Tryd.prog) (ρ := Tryd.sortFo_ren) { Tryd.sortFo with } 3 Tryd.isAgg92 Tryd.sizeOf92 encF (fun _ => rfl) (fun x v hv => by simp [encF] at hv; rcases hv with rfl | rfl | rfl <;> rfl) cfF 57 #[] g 0 c a b (P ++ X ++ S).toArray w eg (cmpLaysF g 0 _ w) h.own.holdsK h.lt (by omega) (by omega) (by omega)
  have hI := insertionSort_holds (lt := ltOf cfF) swoF (P ++ X ++ S).toArray a b (by omega) (by omega)
  rw [hz] at hS
  refine Calls.mono hS ?_
  rintro e w' ⟨rfl, n, os, rfl⟩
  obtain ⟨Z, e1, e2, e3⟩ := perm_mid ha hb hI.1 hI.2
  have hsz : (insertionSort (ltOf cfF) (P ++ X ++ S).toArray a b).size = (P ++ X ++ S).length := by rw [hI.1.1]; simp
  have hown := ownF_sorted (n := n) (os := os) h.own hsz
  rw [e1] at hown
  refine ⟨rfl, Z, e2, e3, hown, h.lo, ?_, h.bel.grown (grownBy_sortedF _) h.bel.size (fun k hk => by injection hk with hk; have := h.lo; omega)⟩
  have := h.lt
  unfold sortWorldK; simp [putRowK, putRow, mapBlock, Sort.ahead]; omega
/-- What the first sort leaves, of a row that is sorted as a whole. -/
theorem sorted_post {w0 w' : World} {g c : Nat} {M Z : List FE} (hp : Z.Perm M) (hs : SortF Z) (hr : RowAt w0 w' g c Z) : SortFPost (fun a b => a.1.1 ≤ b.1.1) (some ⟨g, 0, none⟩) M w0 (.returned (.tuple #[])) w' := ⟨rfl, Z, hp, hs, hr.own.spf, hr.bel⟩
set_option maxHeartbeats 4000000 in
set_option maxRecDepth 100000 in
theorem stable_many {w0 w : World} {g c : Nat} {M : List FE} (n : Nat) (hn : M.length = n) (h : RowAt w0 w g c M) (h20 : 20 ≤ n) (h39 : n ≤ 39) :
    Calls Tryd.prog 89 #[.slice (some ⟨g, 0, none⟩) n c, .int .i64 n, .func (.func 57) #[] #[]] w (SortFPost (fun a b => a.1.1 ≤ b.1.1) (some ⟨g, 0, none⟩) M w0) := by
  have HR := Lib.hid h
  have hn20 : (20 : Int) ≤ (n : Int) := by omega
  have hn39 : (n : Int) ≤ 39 := by omega
  have l1 : (M.take 20).length = 20 := by simp; omega
  have l2 : (M.drop 20).length = n - 20 := by simp; omega
  clear h
  go_enter Tryd.func89, Tryd.ntmps89
  go_wp2_with fail
  go_loopw [7, 8] (fun sa sb wr => (sa = .int .i64 0 ∧ sb = .int .i64 20 ∧ RowAt w0 wr g c M) ∨ (sa = .int .i64 20 ∧ sb = .int .i64 40 ∧ ∃ Z, Z.Perm (M.take 20) ∧ SortF Z ∧ RowAt w0 wr g c (Z ++ M.drop 20))) (fun _ sb _ => 40 - (intOf sb).toNat)
  case atStart => exact .inl ⟨rfl, rfl, HR.out⟩
  case round =>
    clear HR
    rcases hrel with ⟨rfl, rfl, hr⟩ | ⟨rfl, rfl, Z, hz1, hz2, hr⟩
    · have HC := Lib.hid (ins_range [] (M.take 20) (M.drop 20) 0 20 n (hr.cast (by simp)) rfl (by omega) (by omega) (by omega))
      clear hr
      go_wp2_with fail
      refine HC.out.mono ?_
      rintro e w1 ⟨rfl, Z, z1, z2, hr1⟩
      have HZ : Hid (∃ Z, Z.Perm (M.take 20) ∧ SortF Z ∧ RowAt w0 w1 g c (Z ++ M.drop 20)) := ⟨Z, z1, z2, hr1.cast (by simp)⟩
      clear HC z1 z2 hr1
      go_wp2_with fail
      go_roundw
      case rel => exact .inr ⟨rfl, rfl, HZ.out⟩
      case measure => simp [intOf]
    · have lZ : Z.length = 20 := by rw [hz1.length_eq]; exact l1
      have HC := Lib.hid (ins_range Z (M.drop 20) [] 20 n n (hr.cast (by simp)) lZ (by omega) (by simp) (by omega))
      have HZ1 := Lib.hid hz1
      have HZ2 := Lib.hid hz2
      clear hr hz1 hz2
      have h40 : ¬ (40 : Int) ≤ (n : Int) := by omega
      go_wp2_with fail
      refine HC.out.mono ?_
      rintro e w1 ⟨rfl, Z2, y1, y2, hr1⟩
      have lZ2 : Z2.length = n - 20 := by rw [y1.length_eq]; exact l2
      have HY2 := Lib.hid y2
      have HPM : Hid ((Z ++ Z2).Perm M) := by
        simp only [Hid]
        have := HZ1.out.append y1
        rwa [List.take_append_drop] at this
      have HR1 : Hid (RowAt w0 w1 g c (Z ++ Z2)) := hr1.cast (by simp)
      clear HC y1 y2 hr1 HZ1
      go_wp2_with fail
      go_loopw [6, 7, 8, 9] (fun sbs _ _ _ wr => (sbs = .int .i64 20 ∧ RowAt w0 wr g c (Z ++ Z2)) ∨ (sbs = .int .i64 40 ∧ ∃ Q : List FE, Q.Perm M ∧ SortF Q ∧ RowAt w0 wr g c Q)) (fun sbs _ _ _ _ => 40 - (intOf sbs).toNat)
      case atStart => exact .inl ⟨rfl, HR1.out⟩
      case round =>
        clear HR1
        rcases hrel with ⟨rfl, hr⟩ | ⟨rfl, Q, q1, q2, hr⟩
        · have HR2 := Lib.hid hr
          clear hr
          by_cases hgt : 20 < n
          · have hgt' : (20 : Int) < (n : Int) := by omega
            go_wp2_with fail
            go_loopw [7, 8] (fun sa sb wr2 => sa = .int .i64 0 ∧ sb = .int .i64 40 ∧ wr2 = wr) (fun _ _ _ => 0)
            case atStart => exact ⟨rfl, rfl, rfl⟩
            case round =>
              obtain ⟨rfl, rfl, rfl⟩ := hrel
              have HC := Lib.hid (sym_all (w0 := w0) (g := g) (c := c) (N := n) (by omega) n _ [] Z Z2 [] 0 20 n (by omega) (HR2.out.cast (by simp)) HZ2.out HY2.out (by omega) (by omega) rfl (by omega) (by omega) (by simp))
              go_wp2_with fail
              refine HC.out.mono ?_
              rintro e w2 ⟨rfl, Q, q1, q2, hr2⟩
              have HQ : Hid (∃ Q : List FE, Q.Perm M ∧ SortF Q ∧ RowAt w0 w2 g c Q) := ⟨Q, q1.trans HPM.out, q2, hr2.cast (by simp)⟩
              clear HC q1 q2 hr2 HR2
              go_wp2_with fail
              go_roundw
              case rel => exact .inr ⟨rfl, HQ.out⟩
              case measure => simp [intOf]
          · have hgt' : ¬ (20 : Int) < (n : Int) := by omega
            have HQ : Hid (SortF (Z ++ Z2)) := by
              obtain rfl : Z2 = [] := List.eq_nil_of_length_eq_zero (by omega)
              simp only [Hid]; rw [List.append_nil]; exact HZ2.out
            go_wp2_with fail
            refine bodyPost_end (v := .tuple #[]) (by simp [results, Tryd.results89, go_sem]) rfl ?_
            exact sorted_post HPM.out HQ.out HR2.out
        · have HR2 := Lib.hid hr
          have HQ1 := Lib.hid q1
          have HQ2 := Lib.hid q2
          clear hr q1 q2
          have hgt' : ¬ (40 : Int) < (n : Int) := by omega
          go_wp2_with fail
          refine bodyPost_end (v := .tuple #[]) (by simp [results, Tryd.results89, go_sem]) rfl ?_
          exact sorted_post HQ1.out HQ2.out HR2.out
set_option maxHeartbeats 2000000 in
theorem stableS_many {w0 w : World} {g c : Nat} {M : List FE} (n : Nat) (hn : M.length = n) (h : RowAt w0 w g c M) (h20 : 20 ≤ n) (h39 : n ≤ 39) :
    Calls Tryd.prog 56 #[.slice (some ⟨g, 0, none⟩) n c, .func (.func 57) #[] #[]] w (SortFPost (fun a b => a.1.1 ≤ b.1.1) (some ⟨g, 0, none⟩) M w0) := by
  have HI := Lib.hid (stable_many n hn h h20 h39)
  clear h
  go_enter Tryd.func56, Tryd.ntmps56
  go_wp2_with fail
  refine HI.out.mono ?_
  rintro e w1 ⟨rfl, M', hp, hs, hsp, hb1⟩
  go_wp2_with fail
  refine bodyPost_end (v := .tuple #[]) (by simp [results, Tryd.results56, go_sem]) rfl ?_
  exact ⟨rfl, M', hp, hs, hsp, hb1⟩
theorem sortsF_more {n : Nat} (h : n ≤ 39) : SortsF n := by
  intro w0 w g c M h1 h2 h3 h4 h5
  by_cases h20 : n ≤ 19
  · exact stableS_few h1 h2 h3 h4 (by omega)
  · subst h5
    exact stableS_many M.length rfl ⟨h1, h2, h3, h4⟩ (by omega) h
end Go.Proofs.YtfpfdgljhcpkpaaDoor
