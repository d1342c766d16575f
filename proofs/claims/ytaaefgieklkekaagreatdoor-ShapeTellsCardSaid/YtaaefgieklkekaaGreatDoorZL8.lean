/- Contract of the document's Shape. The walk of ShapeTells. Printed by gen_l9.py. -/
import Derived.Test.YtaaefgieklkekaaGreatDoorZL7
import Derived.Test.YtaaefgieklkekaaGreatDoorZT11B
import Derived.Test.YtaaefgieklkekaaGreatDoorZJ9
namespace Go.Proofs.YtaaefgieklkekaaGreatDoor
open Go.RowKit

/-- What is held; the answer so far. -/
structure ShapeSt (w : World) (B1 B2 B3 : Nat) (RC MC CC AC : Array Value) (BA : Nat) (wx : World) : Prop where
  rb : wx.heap[w.heap.size]? = some (.cells RC 29 (0, 0))
  mb : wx.heap[B1]? = some (.cells MC 32 (0, 0))
  cb : wx.heap[B2]? = some (.cells CC 34 (0, 0))
  zb : wx.heap[B3]? = some (.cells zeroAns 43 (0, 0))
  ab : wx.heap[BA]? = some (.cells AC 43 (0, 0))
  ne : w.heap.size < BA ∧ B1 < BA ∧ B2 < BA ∧ B3 < BA ∧ w.heap.size ≤ B3
  bel : Below w.heap.size w wx
section
variable {w wx w' : World} {RC MC CC AC : Array Value} {BA B1 B2 B3 : Nat}
theorem ShapeSt.below (h : ShapeSt w B1 B2 B3 RC MC CC AC BA wx) (hb : Below wx.heap.size wx w') : ShapeSt w B1 B2 B3 RC MC CC AC BA w' := ⟨blk_keep hb h.rb, blk_keep hb h.mb, blk_keep hb h.cb, blk_keep hb h.zb, blk_keep hb h.ab, h.ne, bel_chain hb h.bel⟩
theorem ShapeSt.set (h : ShapeSt w B1 B2 B3 RC MC CC AC BA wx) (i : Nat) (v : Value) : ShapeSt w B1 B2 B3 RC MC CC (AC.setIfInBounds i v) BA (wx.setCell ⟨BA, i, none⟩ v) := by
  obtain ⟨h0, h1, h2, h3, h4⟩ := h.ne
  exact ⟨blk_set_ne (Nat.ne_of_lt h0) h.rb, blk_set_ne (Nat.ne_of_lt h1) h.mb, blk_set_ne (Nat.ne_of_lt h2) h.cb, blk_set_ne (Nat.ne_of_lt h3) h.zb, blk_set h.ab, h.ne, bel_set h.bel (Nat.le_of_lt h0) _⟩
theorem ShapeSt.drew (h : ShapeSt w B1 B2 B3 RC MC CC AC BA wx) : ShapeSt w B1 B2 B3 RC MC CC AC BA wx.drew := ⟨h.rb, h.mb, h.cb, h.zb, h.ab, h.ne, bel_drew h.bel⟩
theorem SpT.drew' {α : Type} {T : TypeId} {en : α → List Value} {n : Nat} {A : Option Addr} {c : Nat} {L : List α} (h : SpT T en n wx A c L) : SpT T en n wx.drew A c L := ⟨h.sp.drew, h.ty⟩
theorem SpT.built {α : Type} {en : α → List Value} {n : Nat} {T : TypeId} (hl : ∀ x, (en x).length = n) (w : World) (L : List α) (cs : Array Value) (hcs : cs.toList = gCells en L) : SpT T en n (w.alloc (.cells cs T)) (some ⟨w.heap.size, 0, none⟩) L.length L :=
  ⟨SpG.built hl w L cs hcs T, fun a ha => ⟨cs, (0, 0), by injection ha with ha; subst ha; exact blk_new rfl⟩⟩
theorem SpT.nil0 {α : Type} {en : α → List Value} {n : Nat} {T : TypeId} (w : World) : SpT T en n w none 0 ([] : List α) := ⟨SpG.nil w, fun a ha => by cases ha⟩
theorem SpT.setAt {α : Type} {T : TypeId} {en : α → List Value} {n : Nat} {A : Option Addr} {c : Nat} {L : List α} {i : Nat} {v : Value} (hd : ShapeSt w B1 B2 B3 RC MC CC AC BA wx) (h : SpT T en n wx A c L) (hT : T ≠ 43) : SpT T en n (wx.setCell ⟨BA, i, none⟩ v) A c L :=
  h.only (b := BA) (fun k hk => Below.heap_setCell wx _ v k hk) hd.ab hT
end
set_option maxHeartbeats 32000000 in
set_option maxRecDepth 100000 in
theorem rshape_any (r : ReqL) (m : MetaL) (KA : Option Addr) (kc : Nat) (o j0 j1 j2 cs j4 j5 j6 j7 j8 j9 : Int) (seed : Int) (w : World) (hsp : Sp w r.A r.c r.L) (hR : allR r.L = true) (hl : r.L.length ≤ 70) (hks : SpG encT 1 w KA kc m.keys) (hok : MetaOk m) (hseed : -9223372036854775808 ≤ seed ∧ seed ≤ 9223372036854775807) (hcs : (Lit.int .i64 cs).wf = true) :
    Calls Tryz.prog 13 #[.agg (reqA r), metaV m KA kc, .int .i64 o, cfgV j0 j1 j2 cs j4 j5 j6 j7 j8 j9, .int .i64 seed] w (ShapePost r m o cs seed w) := by
  have HFD := fun W h => Lib.hid (rfields14_any m KA kc W h hok)
  have HCO := fun W h => Lib.hid (rcounts_any r m KA kc o j0 j1 j2 cs j4 j5 j6 j7 j8 j9 W h hR hl hok hcs)
  have HSP := Lib.hid hsp
  have HKS := Lib.hid hks
  have HOK := Lib.hid hok
  have HRR := Lib.hid hR
  have HLL := Lib.hid hl
  have HSD := Lib.hid hseed
  have HPP : Hid (ShapePost r m o cs seed w = ShapePost r m o cs seed w) := rfl
  have hNF := fieldsL_len m
  have hNF0 : 0 < (fieldsL m).length := by unfold fieldsL; simp only [List.length_append, List.length_cons]; omega
  unfold ShapePost
  obtain ⟨FL, hFL⟩ : ∃ F, fieldsL m = F := ⟨_, rfl⟩
  have HFL := Lib.hid hFL
  unfold FieldsPost at HFD
  rw [hFL] at HFD hNF hNF0
  clear hsp hR hl hks hok hseed hcs hFL HPP
  obtain ⟨cb, hcb⟩ : ∃ b, countB r m o cs = b := ⟨_, rfl⟩
  have HCB := Lib.hid hcb
  rw [hcb] at HCO ⊢
  clear hcb
  obtain ⟨P3, hP3⟩ : ∃ P, RetAns ⟨304, fieldsL m, [], 0⟩ w = P := ⟨_, rfl⟩
  obtain ⟨P4, hP4⟩ : ∃ P, RetAns ⟨412, fieldsL m, [], 0⟩ w = P := ⟨_, rfl⟩
  obtain ⟨PR, hPR⟩ : ∃ P, RangedPost m (resL m.hv r.L) seed w = P := ⟨_, rfl⟩
  obtain ⟨PW, hPW⟩ : ∃ P, RetAns (wholeA m r.hd) w = P := ⟨_, rfl⟩
  rw [hP3, hP4, hPR, hPW]
  have HW0 : Hid (r.hd = true ∨ m.len = 0 → ∀ e w', RetAns ⟨200, FL, [], m.len⟩ w e w' → PW e w') := by
    simp only [Hid]; intro h e w' hr
    rw [← hPW]
    have e1 : wholeA m r.hd = ⟨200, FL, [], m.len⟩ := by unfold wholeA; rw [if_pos h, HFL.out]
    rw [e1]; exact hr
  have HW1 : Hid (¬ (r.hd = true ∨ m.len = 0) → ∀ e w', RetAns ⟨200, FL, [([], (0, if m.len = -1 then 4611686018427387904 else m.len))], m.len⟩ w e w' → PW e w') := by
    simp only [Hid]; intro h e w' hr
    rw [← hPW]
    have e1 : wholeA m r.hd = ⟨200, FL, [([], (0, if m.len = -1 then 4611686018427387904 else m.len))], m.len⟩ := by unfold wholeA; rw [if_neg h, HFL.out]
    rw [e1]; exact hr
  have H3P := Lib.hid hP3
  have H4P := Lib.hid hP4
  have HRP := Lib.hid hPR
  have HWP := Lib.hid hPW
  clear hP3 hP4 hPR hPW
  have HCONT : Hid (∀ O, Folded 0 (resL m.hv r.L) O → ∀ s ∈ O.map Prod.fst, contOk s m.len = true ∧ s.2 ≤ 1099511627776) := fun O hO s hs => by
    have h := folded_in (fun y hy => resL_in HOK.out.hv.1 HRR.out hy) hO s hs
    exact ⟨cont_of HOK.out h, by have := HOK.out.hv; omega⟩
  obtain ⟨hd, ob, A, c, L, A1, n1, c1, A2, n2, c2, am, an, si, un, rt, rw'⟩ := r
  obtain ⟨tg, wk, mo, ln, hv, fr, wh, er, ks, tn, kp⟩ := m
  unfold metaV reqA cfgV at HCO
  unfold metaV at HFD
  unfold metaV reqA cfgV
  simp only at HSP HKS HCO HFD HRR HLL HCONT HW0 HW1 ⊢
  go_enter Tryz.func13, Tryz.ntmps13
  go_upto_region 3 with (go_at_call 33; refine (HFD _ (HKS.out.below (by (repeat (first | exact Below.refl _ _ | refine bel_drewN ?_ _ | refine bel_drew ?_ | refine bel_alloc ?_ _ | refine bel_set ?_ (by simp) _))))).out.mono ?_; rintro e w1 ⟨FA, fc, fk, hfk, rfl, hown, hb1⟩)
  --M1
  have hV : ∃ V, (((w.alloc (.cells #[.bool hd, .string ob, .slice A L.length c, .slice A1 n1 c1, .slice A2 n2 c2, .bool am, .bool an, .int .i64 si, .int .i64 un, .string rt, .bool rw'] 29)).alloc (.cells #[.string ⟨tg.toArray⟩, .bool wk, .int .i64 mo, .int .i64 ln, .int .i64 hv, .int .i64 fr, .int .i64 wh, .int .i64 er, .slice KA ks.length kc, .string ⟨tn.toArray⟩, .bool kp] 32)).alloc (.cells #[.int .i64 j0, .int .i64 j1, .int .i64 j2, .int .i64 cs, .int .i64 j4, .int .i64 j5, .int .i64 j6, .int .i64 j7, .int .i64 j8, .int .i64 j9] 34)).alloc (.cells zeroAns 43) = V := ⟨_, rfl⟩
  obtain ⟨V, hV⟩ := hV
  have q0 : V.heap[w.heap.size]? = some (.cells #[.bool hd, .string ob, .slice A L.length c, .slice A1 n1 c1, .slice A2 n2 c2, .bool am, .bool an, .int .i64 si, .int .i64 un, .string rt, .bool rw'] 29 (0, 0)) := by rw [← hV]; exact blk_skip (blk_skip (blk_skip (blk_new rfl)))
  have q1 : V.heap[w.heap.size + 1]? = some (.cells #[.string ⟨tg.toArray⟩, .bool wk, .int .i64 mo, .int .i64 ln, .int .i64 hv, .int .i64 fr, .int .i64 wh, .int .i64 er, .slice KA ks.length kc, .string ⟨tn.toArray⟩, .bool kp] 32 (0, 0)) := by rw [← hV]; exact blk_skip (blk_skip (blk_new (by simp)))
  have q2 : V.heap[w.heap.size + 1 + 1]? = some (.cells #[.int .i64 j0, .int .i64 j1, .int .i64 j2, .int .i64 cs, .int .i64 j4, .int .i64 j5, .int .i64 j6, .int .i64 j7, .int .i64 j8, .int .i64 j9] 34 (0, 0)) := by rw [← hV]; exact blk_skip (blk_new (by simp))
  have q3 : V.heap[w.heap.size + 1 + 1 + 1]? = some (.cells zeroAns 43 (0, 0)) := by rw [← hV]; exact blk_new (by simp)
  have qb : Below w.heap.size w V := by rw [← hV]; (repeat (first | exact Below.refl _ _ | refine bel_drewN ?_ _ | refine bel_drew ?_ | refine bel_alloc ?_ _ | refine bel_set ?_ (by simp) _))
  have hb1 : Below V.heap.size V w1 := by rw [← hV]; exact hb1
  have ql := blk_lt (blk_keep hb1 q3)
  have HD0 : ShapeSt w (w.heap.size + 1) (w.heap.size + 1 + 1) (w.heap.size + 1 + 1 + 1) #[.bool hd, .string ob, .slice A L.length c, .slice A1 n1 c1, .slice A2 n2 c2, .bool am, .bool an, .int .i64 si, .int .i64 un, .string rt, .bool rw'] #[.string ⟨tg.toArray⟩, .bool wk, .int .i64 mo, .int .i64 ln, .int .i64 hv, .int .i64 fr, .int .i64 wh, .int .i64 er, .slice KA ks.length kc, .string ⟨tn.toArray⟩, .bool kp] #[.int .i64 j0, .int .i64 j1, .int .i64 j2, .int .i64 cs, .int .i64 j4, .int .i64 j5, .int .i64 j6, .int .i64 j7, .int .i64 j8, .int .i64 j9] #[.int .i64 0, .slice FA FL.length fc, .slice none 0 0, .int .i64 0] w1.heap.size (w1.alloc (.cells #[.int .i64 0, .slice FA FL.length fc, .slice none 0 0, .int .i64 0] 43)) :=
    ⟨blk_skip (blk_keep hb1 q0), blk_skip (blk_keep hb1 q1), blk_skip (blk_keep hb1 q2), blk_skip (blk_keep hb1 q3), blk_new rfl, ⟨by omega, by omega, by omega, ql, by omega⟩, bel_alloc (bel_chain hb1 qb) _⟩
  have HF0 : SpT 78 encFd 2 (w1.alloc (.cells #[.int .i64 0, .slice FA FL.length fc, .slice none 0 0, .int .i64 0] 43)) FA fc FL := (hown.spt elemFd.len).alloc _
  have HD := Lib.hid HD0
  have HF := Lib.hid HF0
  obtain ⟨B1, hB1⟩ : ∃ b, w.heap.size + 1 = b := ⟨_, rfl⟩
  rw [hB1] at HD ⊢
  obtain ⟨B2, hB2⟩ : ∃ b, B1 + 1 = b := ⟨_, rfl⟩
  rw [hB2] at HD ⊢
  obtain ⟨B3, hB3⟩ : ∃ b, B2 + 1 = b := ⟨_, rfl⟩
  rw [hB3] at HD ⊢
  obtain ⟨W2, hW2⟩ : ∃ W, w1.alloc (.cells #[.int .i64 0, .slice FA FL.length fc, .slice none 0 0, .int .i64 0] 43) = W := ⟨_, rfl⟩
  rw [hW2] at HD HF ⊢
  obtain ⟨BA, hBA⟩ : ∃ b, w1.heap.size = b := ⟨_, rfl⟩
  rw [hBA] at HD ⊢
  clear hW2 hBA hB1 hB2 hB3 HD0 HF0 ql qb q0 q1 q2 q3 hb1 hown hV HFD
  by_cases h3 : o = 3
  · subst h3
    have a0 := blk_cell (i := 0) HD.out.ab rfl
    have af0 : W2.frozen? ⟨BA, 0, none⟩ = false := blk_frozen HD.out.ab
    have a1 := blk_cell (i := 1) HD.out.ab rfl
    have af1 : W2.frozen? ⟨BA, 1, none⟩ = false := blk_frozen HD.out.ab
    have a2 := blk_cell (i := 2) HD.out.ab rfl
    have af2 : W2.frozen? ⟨BA, 2, none⟩ = false := blk_frozen HD.out.ab
    have a3 := blk_cell (i := 3) HD.out.ab rfl
    have af3 : W2.frozen? ⟨BA, 3, none⟩ = false := blk_frozen HD.out.ab
    have az := blk_lt HD.out.ab
    go_upto_region 7 with fail
    clear a0 af0 a1 af1 a2 af2 a3 af3 az
    obtain ⟨W3, hWn⟩ : ∃ W, W2.setCell ⟨BA, 0, none⟩ (.int .i64 304) = W := ⟨_, rfl⟩
    have HD1 : Hid (ShapeSt w B1 B2 B3 #[.bool hd, .string ob, .slice A L.length c, .slice A1 n1 c1, .slice A2 n2 c2, .bool am, .bool an, .int .i64 si, .int .i64 un, .string rt, .bool rw'] #[.string ⟨tg.toArray⟩, .bool wk, .int .i64 mo, .int .i64 ln, .int .i64 hv, .int .i64 fr, .int .i64 wh, .int .i64 er, .slice KA ks.length kc, .string ⟨tn.toArray⟩, .bool kp] #[.int .i64 j0, .int .i64 j1, .int .i64 j2, .int .i64 cs, .int .i64 j4, .int .i64 j5, .int .i64 j6, .int .i64 j7, .int .i64 j8, .int .i64 j9] #[.int .i64 304, .slice FA FL.length fc, .slice none 0 0, .int .i64 0] BA W3) := by simp only [Hid]; rw [← hWn]; exact HD.out.set 0 _
    have HF1 : Hid (SpT 78 encFd 2 W3 FA fc FL) := by simp only [Hid]; rw [← hWn]; exact SpT.setAt HD.out HF.out (by decide)
    rw [hWn]
    clear hWn
    refine wp_region_lit ?_
    refine wpList_load_blk rfl 43 (.tmp 13) rfl rfl HD1.out.ab _ Tryz.underlying43 rfl ansSize ?_
    simp only [Act.put, List.setIfInBounds_toArray, List.set_cons_zero, List.set_cons_succ]
    refine wpList_store_blk rfl 43 (.tmp 10) (.tmp 35) rfl rfl rfl HD1.out.zb rfl ansSize (by simp [Value.oneCell']) ?_
    intro wE hst
    simp only [Act.put]
    have e0 := blk_cell (i := 0) hst.blk rfl
    have e1 := blk_cell (i := 1) hst.blk rfl
    have e2 := blk_cell (i := 2) hst.blk rfl
    have e3 := blk_cell (i := 3) hst.blk rfl
    have HFE : Hid (SpT 78 encFd 2 wE FA fc FL) := HF1.out.stored hst HD1.out.zb (by decide)
    have HBE : Hid (Below w.heap.size w wE) := hst.bel w HD1.out.bel HD1.out.ne.2.2.2.2
    clear hst
    go_wp2_with fail
    refine bodyPost_ret (by simp [results, Tryz.results13, go_sem, e0, e1, e2, e3]; try rfl) rfl ?_
    try rw [if_pos rfl]
    rw [← H3P.out, HFL.out]
    exact ⟨FA, fc, FL.length, none, 0, 0, rfl, rfl, rfl, HFE.out, SpT.nil0 _, HBE.out⟩
  have n3 : (o == 3) = false := by rw [beq_eq_false_iff_ne]; exact h3
  by_cases h4 : o = 4
  · subst h4
    have a0 := blk_cell (i := 0) HD.out.ab rfl
    have af0 : W2.frozen? ⟨BA, 0, none⟩ = false := blk_frozen HD.out.ab
    have a1 := blk_cell (i := 1) HD.out.ab rfl
    have af1 : W2.frozen? ⟨BA, 1, none⟩ = false := blk_frozen HD.out.ab
    have a2 := blk_cell (i := 2) HD.out.ab rfl
    have af2 : W2.frozen? ⟨BA, 2, none⟩ = false := blk_frozen HD.out.ab
    have a3 := blk_cell (i := 3) HD.out.ab rfl
    have af3 : W2.frozen? ⟨BA, 3, none⟩ = false := blk_frozen HD.out.ab
    have az := blk_lt HD.out.ab
    go_upto_region 5 with fail
    clear a0 af0 a1 af1 a2 af2 a3 af3 az
    obtain ⟨W3, hWn⟩ : ∃ W, W2.setCell ⟨BA, 0, none⟩ (.int .i64 304) = W := ⟨_, rfl⟩
    have HD1 : Hid (ShapeSt w B1 B2 B3 #[.bool hd, .string ob, .slice A L.length c, .slice A1 n1 c1, .slice A2 n2 c2, .bool am, .bool an, .int .i64 si, .int .i64 un, .string rt, .bool rw'] #[.string ⟨tg.toArray⟩, .bool wk, .int .i64 mo, .int .i64 ln, .int .i64 hv, .int .i64 fr, .int .i64 wh, .int .i64 er, .slice KA ks.length kc, .string ⟨tn.toArray⟩, .bool kp] #[.int .i64 j0, .int .i64 j1, .int .i64 j2, .int .i64 cs, .int .i64 j4, .int .i64 j5, .int .i64 j6, .int .i64 j7, .int .i64 j8, .int .i64 j9] #[.int .i64 304, .slice FA FL.length fc, .slice none 0 0, .int .i64 0] BA W3) := by simp only [Hid]; rw [← hWn]; exact HD.out.set 0 _
    have HF1 : Hid (SpT 78 encFd 2 W3 FA fc FL) := by simp only [Hid]; rw [← hWn]; exact SpT.setAt HD.out HF.out (by decide)
    rw [hWn]
    clear hWn
    have a0 := blk_cell (i := 0) HD1.out.ab rfl
    have af0 : W3.frozen? ⟨BA, 0, none⟩ = false := blk_frozen HD1.out.ab
    have a1 := blk_cell (i := 1) HD1.out.ab rfl
    have af1 : W3.frozen? ⟨BA, 1, none⟩ = false := blk_frozen HD1.out.ab
    have a2 := blk_cell (i := 2) HD1.out.ab rfl
    have af2 : W3.frozen? ⟨BA, 2, none⟩ = false := blk_frozen HD1.out.ab
    have a3 := blk_cell (i := 3) HD1.out.ab rfl
    have af3 : W3.frozen? ⟨BA, 3, none⟩ = false := blk_frozen HD1.out.ab
    have az := blk_lt HD1.out.ab
    go_upto_region 7 with fail
    clear a0 af0 a1 af1 a2 af2 a3 af3 az
    obtain ⟨W4, hWn⟩ : ∃ W, W3.setCell ⟨BA, 0, none⟩ (.int .i64 412) = W := ⟨_, rfl⟩
    have HD2 : Hid (ShapeSt w B1 B2 B3 #[.bool hd, .string ob, .slice A L.length c, .slice A1 n1 c1, .slice A2 n2 c2, .bool am, .bool an, .int .i64 si, .int .i64 un, .string rt, .bool rw'] #[.string ⟨tg.toArray⟩, .bool wk, .int .i64 mo, .int .i64 ln, .int .i64 hv, .int .i64 fr, .int .i64 wh, .int .i64 er, .slice KA ks.length kc, .string ⟨tn.toArray⟩, .bool kp] #[.int .i64 j0, .int .i64 j1, .int .i64 j2, .int .i64 cs, .int .i64 j4, .int .i64 j5, .int .i64 j6, .int .i64 j7, .int .i64 j8, .int .i64 j9] #[.int .i64 412, .slice FA FL.length fc, .slice none 0 0, .int .i64 0] BA W4) := by simp only [Hid]; rw [← hWn]; exact HD1.out.set 0 _
    have HF2 : Hid (SpT 78 encFd 2 W4 FA fc FL) := by simp only [Hid]; rw [← hWn]; exact SpT.setAt HD1.out HF1.out (by decide)
    rw [hWn]
    clear hWn
    refine wp_region_lit ?_
    refine wpList_load_blk rfl 43 (.tmp 13) rfl rfl HD2.out.ab _ Tryz.underlying43 rfl ansSize ?_
    simp only [Act.put, List.setIfInBounds_toArray, List.set_cons_zero, List.set_cons_succ]
    refine wpList_store_blk rfl 43 (.tmp 10) (.tmp 35) rfl rfl rfl HD2.out.zb rfl ansSize (by simp [Value.oneCell']) ?_
    intro wE hst
    simp only [Act.put]
    have e0 := blk_cell (i := 0) hst.blk rfl
    have e1 := blk_cell (i := 1) hst.blk rfl
    have e2 := blk_cell (i := 2) hst.blk rfl
    have e3 := blk_cell (i := 3) hst.blk rfl
    have HFE : Hid (SpT 78 encFd 2 wE FA fc FL) := HF2.out.stored hst HD2.out.zb (by decide)
    have HBE : Hid (Below w.heap.size w wE) := hst.bel w HD2.out.bel HD2.out.ne.2.2.2.2
    clear hst
    go_wp2_with fail
    refine bodyPost_ret (by simp [results, Tryz.results13, go_sem, e0, e1, e2, e3]; try rfl) rfl ?_
    try rw [if_neg (by decide), if_pos rfl]
    rw [← H4P.out, HFL.out]
    exact ⟨FA, fc, FL.length, none, 0, 0, rfl, rfl, rfl, HFE.out, SpT.nil0 _, HBE.out⟩
  have n4 : (o == 4) = false := by rw [beq_eq_false_iff_ne]; exact h4
  have HN3 := Lib.hid h3
  have HN4 := Lib.hid h4
  clear h3 h4 H3P H4P
  go_upto_region 8 with fail
  have r0 := blk_cell (i := 0) HD.out.rb rfl
  have r1 := blk_cell (i := 1) HD.out.rb rfl
  have r2 := blk_cell (i := 2) HD.out.rb rfl
  have r3 := blk_cell (i := 3) HD.out.rb rfl
  have r4 := blk_cell (i := 4) HD.out.rb rfl
  have r5 := blk_cell (i := 5) HD.out.rb rfl
  have r6 := blk_cell (i := 6) HD.out.rb rfl
  have r7 := blk_cell (i := 7) HD.out.rb rfl
  have r8 := blk_cell (i := 8) HD.out.rb rfl
  have r9 := blk_cell (i := 9) HD.out.rb rfl
  have r10 := blk_cell (i := 10) HD.out.rb rfl
  have rz := blk_lt HD.out.rb
  have m0 := blk_cell (i := 0) HD.out.mb rfl
  have m1 := blk_cell (i := 1) HD.out.mb rfl
  have m2 := blk_cell (i := 2) HD.out.mb rfl
  have m3 := blk_cell (i := 3) HD.out.mb rfl
  have m4 := blk_cell (i := 4) HD.out.mb rfl
  have m5 := blk_cell (i := 5) HD.out.mb rfl
  have m6 := blk_cell (i := 6) HD.out.mb rfl
  have m7 := blk_cell (i := 7) HD.out.mb rfl
  have m8 := blk_cell (i := 8) HD.out.mb rfl
  have m9 := blk_cell (i := 9) HD.out.mb rfl
  have m10 := blk_cell (i := 10) HD.out.mb rfl
  have mz := blk_lt HD.out.mb
  have g0 := blk_cell (i := 0) HD.out.cb rfl
  have g1 := blk_cell (i := 1) HD.out.cb rfl
  have g2 := blk_cell (i := 2) HD.out.cb rfl
  have g3 := blk_cell (i := 3) HD.out.cb rfl
  have g4 := blk_cell (i := 4) HD.out.cb rfl
  have g5 := blk_cell (i := 5) HD.out.cb rfl
  have g6 := blk_cell (i := 6) HD.out.cb rfl
  have g7 := blk_cell (i := 7) HD.out.cb rfl
  have g8 := blk_cell (i := 8) HD.out.cb rfl
  have g9 := blk_cell (i := 9) HD.out.cb rfl
  have cz := blk_lt HD.out.cb
  go_upto_if 41 with (go_at_call 34; refine (HCO _ (HSP.out.below HD.out.bel)).out.mono ?_; rintro e w3 ⟨rfl, hb3⟩)
  clear r0 r1 r2 r3 r4 r5 r6 r7 r8 r9 r10 rz m0 m1 m2 m3 m4 m5 m6 m7 m8 m9 m10 mz g0 g1 g2 g3 g4 g5 g6 g7 g8 g9 cz
  have HD3 := Lib.hid (HD.out.below hb3)
  have HF3 := Lib.hid (HF.out.below hb3)
  clear hb3 HD HF HCO
  cases cb with
  | false =>
    go_upto_region 9 with fail
    --M3
    have a0 := blk_cell (i := 0) HD3.out.ab rfl
    have af0 : w3.frozen? ⟨BA, 0, none⟩ = false := blk_frozen HD3.out.ab
    have a1 := blk_cell (i := 1) HD3.out.ab rfl
    have af1 : w3.frozen? ⟨BA, 1, none⟩ = false := blk_frozen HD3.out.ab
    have a2 := blk_cell (i := 2) HD3.out.ab rfl
    have af2 : w3.frozen? ⟨BA, 2, none⟩ = false := blk_frozen HD3.out.ab
    have a3 := blk_cell (i := 3) HD3.out.ab rfl
    have af3 : w3.frozen? ⟨BA, 3, none⟩ = false := blk_frozen HD3.out.ab
    have az := blk_lt HD3.out.ab
    have m0 := blk_cell (i := 0) HD3.out.mb rfl
    have m1 := blk_cell (i := 1) HD3.out.mb rfl
    have m2 := blk_cell (i := 2) HD3.out.mb rfl
    have m3 := blk_cell (i := 3) HD3.out.mb rfl
    have m4 := blk_cell (i := 4) HD3.out.mb rfl
    have m5 := blk_cell (i := 5) HD3.out.mb rfl
    have m6 := blk_cell (i := 6) HD3.out.mb rfl
    have m7 := blk_cell (i := 7) HD3.out.mb rfl
    have m8 := blk_cell (i := 8) HD3.out.mb rfl
    have m9 := blk_cell (i := 9) HD3.out.mb rfl
    have m10 := blk_cell (i := 10) HD3.out.mb rfl
    have mz := blk_lt HD3.out.mb
    go_cut [] (fun wx => ShapeSt w B1 B2 B3 #[.bool hd, .string ob, .slice A L.length c, .slice A1 n1 c1, .slice A2 n2 c2, .bool am, .bool an, .int .i64 si, .int .i64 un, .string rt, .bool rw'] #[.string ⟨tg.toArray⟩, .bool wk, .int .i64 mo, .int .i64 ln, .int .i64 hv, .int .i64 fr, .int .i64 wh, .int .i64 er, .slice KA ks.length kc, .string ⟨tn.toArray⟩, .bool kp] #[.int .i64 j0, .int .i64 j1, .int .i64 j2, .int .i64 cs, .int .i64 j4, .int .i64 j5, .int .i64 j6, .int .i64 j7, .int .i64 j8, .int .i64 j9] #[.int .i64 200, .slice FA FL.length fc, .slice none 0 0, .int .i64 ln] BA wx ∧ SpT 78 encFd 2 wx FA fc FL)
    case first =>
      go_region
      all_goals
        go_wp2_with fail
        go_meet
        first
          | exact ⟨(HD3.out.drew.set 0 _).set 3 _, SpT.setAt (HD3.out.drew.set 0 _) (SpT.setAt HD3.out.drew HF3.out.drew' (by decide)) (by decide)⟩
          | exact ⟨(HD3.out.drew.set 3 _).set 0 _, SpT.setAt (HD3.out.drew.set 3 _) (SpT.setAt HD3.out.drew HF3.out.drew' (by decide)) (by decide)⟩
          | fail
    case rest =>
    obtain ⟨hd4, hf4⟩ := hcut
    have HD4 := Lib.hid hd4
    have HF4 := Lib.hid hf4
    clear hd4 hf4 HD3 HF3 a0 af0 a1 af1 a2 af2 a3 af3 az m0 m1 m2 m3 m4 m5 m6 m7 m8 m9 m10 mz
    --M4
    clear HCONT HRP HSD
    have hln := HOK.out.ln
    simp only at hln
    clear HOK HCB HWP
    have a0 := blk_cell (i := 0) HD4.out.ab rfl
    have af0 : wc.frozen? ⟨BA, 0, none⟩ = false := blk_frozen HD4.out.ab
    have a1 := blk_cell (i := 1) HD4.out.ab rfl
    have af1 : wc.frozen? ⟨BA, 1, none⟩ = false := blk_frozen HD4.out.ab
    have a2 := blk_cell (i := 2) HD4.out.ab rfl
    have af2 : wc.frozen? ⟨BA, 2, none⟩ = false := blk_frozen HD4.out.ab
    have a3 := blk_cell (i := 3) HD4.out.ab rfl
    have af3 : wc.frozen? ⟨BA, 3, none⟩ = false := blk_frozen HD4.out.ab
    have az := blk_lt HD4.out.ab
    have r0 := blk_cell (i := 0) HD4.out.rb rfl
    have r1 := blk_cell (i := 1) HD4.out.rb rfl
    have r2 := blk_cell (i := 2) HD4.out.rb rfl
    have r3 := blk_cell (i := 3) HD4.out.rb rfl
    have r4 := blk_cell (i := 4) HD4.out.rb rfl
    have r5 := blk_cell (i := 5) HD4.out.rb rfl
    have r6 := blk_cell (i := 6) HD4.out.rb rfl
    have r7 := blk_cell (i := 7) HD4.out.rb rfl
    have r8 := blk_cell (i := 8) HD4.out.rb rfl
    have r9 := blk_cell (i := 9) HD4.out.rb rfl
    have r10 := blk_cell (i := 10) HD4.out.rb rfl
    have rz := blk_lt HD4.out.rb
    have m0 := blk_cell (i := 0) HD4.out.mb rfl
    have m1 := blk_cell (i := 1) HD4.out.mb rfl
    have m2 := blk_cell (i := 2) HD4.out.mb rfl
    have m3 := blk_cell (i := 3) HD4.out.mb rfl
    have m4 := blk_cell (i := 4) HD4.out.mb rfl
    have m5 := blk_cell (i := 5) HD4.out.mb rfl
    have m6 := blk_cell (i := 6) HD4.out.mb rfl
    have m7 := blk_cell (i := 7) HD4.out.mb rfl
    have m8 := blk_cell (i := 8) HD4.out.mb rfl
    have m9 := blk_cell (i := 9) HD4.out.mb rfl
    have m10 := blk_cell (i := 10) HD4.out.mb rfl
    have mz := blk_lt HD4.out.mb
    have hl3 : ln < 0 ∨ ln = 0 ∨ 0 < ln := by omega
    cases hd with
    | true =>
      rcases hl3 with hl | hl | hl
      · --Ctrueln<0
        obtain rfl : ln = -1 := by omega
        go_upto_region 15 with fail
        obtain ⟨W5, hW5⟩ : ∃ W, wc.alloc (.cells #[.int .i64 0, .int .i64 4611686018427387904] 55) = W := ⟨_, rfl⟩
        rw [hW5]
        have hb5 : Below wc.heap.size wc W5 := by rw [← hW5]; exact bel_alloc (Below.refl _ _) _
        have HD5 := Lib.hid (HD4.out.below hb5)
        have HF5 := Lib.hid (HF4.out.below hb5)
        clear hb5 hW5 HD4 HF4 a0 af0 a1 af1 a2 af2 a3 af3 az r0 r1 r2 r3 r4 r5 r6 r7 r8 r9 r10 rz m0 m1 m2 m3 m4 m5 m6 m7 m8 m9 m10 mz
        refine wp_region_lit ?_
        refine wpList_load_blk rfl 43 (.tmp 13) rfl rfl HD5.out.ab _ Tryz.underlying43 rfl ansSize ?_
        simp only [Act.put, List.setIfInBounds_toArray, List.set_cons_zero, List.set_cons_succ]
        refine wpList_store_blk rfl 43 (.tmp 10) (.tmp 65) rfl rfl rfl HD5.out.zb rfl ansSize (by simp [Value.oneCell']) ?_
        intro wE hst
        simp only [Act.put]
        have e0 := blk_cell (i := 0) hst.blk rfl
        have e1 := blk_cell (i := 1) hst.blk rfl
        have e2 := blk_cell (i := 2) hst.blk rfl
        have e3 := blk_cell (i := 3) hst.blk rfl
        have HFE : Hid (SpT 78 encFd 2 wE FA fc FL) := HF5.out.stored hst HD5.out.zb (by decide)
        have HBE : Hid (Below w.heap.size w wE) := hst.bel w HD5.out.bel HD5.out.ne.2.2.2.2
        clear hst
        go_wp2_with fail
        refine bodyPost_ret (by simp [results, Tryz.results13, go_sem, e0, e1, e2, e3]; try rfl) rfl ?_
        try rw [if_neg HN3.out, if_neg HN4.out]
        refine HW0.out (by simp) _ _ ?_
        exact ⟨FA, fc, FL.length, none, 0, 0, rfl, rfl, rfl, HFE.out, SpT.nil0 _, HBE.out⟩
      · --Ctrueln=0
        subst hl
        go_upto_region 15 with fail
        obtain ⟨W5, hW5⟩ : ∃ W, wc.alloc (.cells #[.int .i64 0, .int .i64 0] 55) = W := ⟨_, rfl⟩
        rw [hW5]
        have hb5 : Below wc.heap.size wc W5 := by rw [← hW5]; exact bel_alloc (Below.refl _ _) _
        have HD5 := Lib.hid (HD4.out.below hb5)
        have HF5 := Lib.hid (HF4.out.below hb5)
        clear hb5 hW5 HD4 HF4 a0 af0 a1 af1 a2 af2 a3 af3 az r0 r1 r2 r3 r4 r5 r6 r7 r8 r9 r10 rz m0 m1 m2 m3 m4 m5 m6 m7 m8 m9 m10 mz
        refine wp_region_lit ?_
        refine wpList_load_blk rfl 43 (.tmp 13) rfl rfl HD5.out.ab _ Tryz.underlying43 rfl ansSize ?_
        simp only [Act.put, List.setIfInBounds_toArray, List.set_cons_zero, List.set_cons_succ]
        refine wpList_store_blk rfl 43 (.tmp 10) (.tmp 65) rfl rfl rfl HD5.out.zb rfl ansSize (by simp [Value.oneCell']) ?_
        intro wE hst
        simp only [Act.put]
        have e0 := blk_cell (i := 0) hst.blk rfl
        have e1 := blk_cell (i := 1) hst.blk rfl
        have e2 := blk_cell (i := 2) hst.blk rfl
        have e3 := blk_cell (i := 3) hst.blk rfl
        have HFE : Hid (SpT 78 encFd 2 wE FA fc FL) := HF5.out.stored hst HD5.out.zb (by decide)
        have HBE : Hid (Below w.heap.size w wE) := hst.bel w HD5.out.bel HD5.out.ne.2.2.2.2
        clear hst
        go_wp2_with fail
        refine bodyPost_ret (by simp [results, Tryz.results13, go_sem, e0, e1, e2, e3]; try rfl) rfl ?_
        try rw [if_neg HN3.out, if_neg HN4.out]
        refine HW0.out (by simp) _ _ ?_
        exact ⟨FA, fc, FL.length, none, 0, 0, rfl, rfl, rfl, HFE.out, SpT.nil0 _, HBE.out⟩
      · --Ctrue0<ln
        have hl2 : ¬ ln < 0 := by omega
        go_upto_region 15 with fail
        obtain ⟨W5, hW5⟩ : ∃ W, wc.alloc (.cells #[.int .i64 0, .int .i64 ln] 55) = W := ⟨_, rfl⟩
        rw [hW5]
        have hb5 : Below wc.heap.size wc W5 := by rw [← hW5]; exact bel_alloc (Below.refl _ _) _
        have HD5 := Lib.hid (HD4.out.below hb5)
        have HF5 := Lib.hid (HF4.out.below hb5)
        clear hb5 hW5 HD4 HF4 a0 af0 a1 af1 a2 af2 a3 af3 az r0 r1 r2 r3 r4 r5 r6 r7 r8 r9 r10 rz m0 m1 m2 m3 m4 m5 m6 m7 m8 m9 m10 mz
        refine wp_region_lit ?_
        refine wpList_load_blk rfl 43 (.tmp 13) rfl rfl HD5.out.ab _ Tryz.underlying43 rfl ansSize ?_
        simp only [Act.put, List.setIfInBounds_toArray, List.set_cons_zero, List.set_cons_succ]
        refine wpList_store_blk rfl 43 (.tmp 10) (.tmp 65) rfl rfl rfl HD5.out.zb rfl ansSize (by simp [Value.oneCell']) ?_
        intro wE hst
        simp only [Act.put]
        have e0 := blk_cell (i := 0) hst.blk rfl
        have e1 := blk_cell (i := 1) hst.blk rfl
        have e2 := blk_cell (i := 2) hst.blk rfl
        have e3 := blk_cell (i := 3) hst.blk rfl
        have HFE : Hid (SpT 78 encFd 2 wE FA fc FL) := HF5.out.stored hst HD5.out.zb (by decide)
        have HBE : Hid (Below w.heap.size w wE) := hst.bel w HD5.out.bel HD5.out.ne.2.2.2.2
        clear hst
        go_wp2_with fail
        refine bodyPost_ret (by simp [results, Tryz.results13, go_sem, e0, e1, e2, e3]; try rfl) rfl ?_
        try rw [if_neg HN3.out, if_neg HN4.out]
        refine HW0.out (by simp) _ _ ?_
        exact ⟨FA, fc, FL.length, none, 0, 0, rfl, rfl, rfl, HFE.out, SpT.nil0 _, HBE.out⟩
    | false =>
      rcases hl3 with hl | hl | hl
      · --Cfalseln<0
        obtain rfl : ln = -1 := by omega
        go_upto_region 15 with fail
        have hsz : (wc.setCell ⟨BA, 2, none⟩ (.slice (some ⟨wc.heap.size + 1, 0, none⟩) 1 1)).heap.size = wc.heap.size := World.size_setCell _ _ _
        obtain ⟨W4, hW4⟩ : ∃ W, wc.setCell ⟨BA, 2, none⟩ (.slice (some ⟨wc.heap.size + 1, 0, none⟩) 1 1) = W := ⟨_, rfl⟩
        have HD5 : Hid (ShapeSt w B1 B2 B3 #[.bool false, .string ob, .slice A L.length c, .slice A1 n1 c1, .slice A2 n2 c2, .bool am, .bool an, .int .i64 si, .int .i64 un, .string rt, .bool rw'] #[.string ⟨tg.toArray⟩, .bool wk, .int .i64 mo, .int .i64 (-1), .int .i64 hv, .int .i64 fr, .int .i64 wh, .int .i64 er, .slice KA ks.length kc, .string ⟨tn.toArray⟩, .bool kp] #[.int .i64 j0, .int .i64 j1, .int .i64 j2, .int .i64 cs, .int .i64 j4, .int .i64 j5, .int .i64 j6, .int .i64 j7, .int .i64 j8, .int .i64 j9] #[.int .i64 200, .slice FA FL.length fc, .slice (some ⟨wc.heap.size + 1, 0, none⟩) 1 1, .int .i64 (-1)] BA W4) := by simp only [Hid]; rw [← hW4]; exact HD4.out.set 2 _
        have HF5 : Hid (SpT 78 encFd 2 W4 FA fc FL) := by simp only [Hid]; rw [← hW4]; exact SpT.setAt HD4.out HF4.out (by decide)
        rw [hW4] at hsz ⊢
        obtain ⟨W5, hW5⟩ : ∃ W, W4.alloc (.cells #[.int .i64 0, .int .i64 4611686018427387904] 55) = W := ⟨_, rfl⟩
        have hs5 : W5.heap.size = wc.heap.size + 1 := by rw [← hW5, ← hsz]; simp
        rw [hW5]
        obtain ⟨W6, hW6⟩ : ∃ W, W5.alloc (.cells #[.string ⟨#[]⟩, .int .i64 0, .int .i64 4611686018427387904] 65) = W := ⟨_, rfl⟩
        have HP6 : Hid (SpT 65 encPt 3 W6 (some ⟨wc.heap.size + 1, 0, none⟩) 1 [([], (0, 4611686018427387904))]) := by simp only [Hid]; rw [← hW6, ← hs5]; exact SpT.built elemPt.len W5 [([], (0, 4611686018427387904))] _ rfl
        have hb5 : Below W4.heap.size W4 W6 := by rw [← hW6, ← hW5]; exact bel_alloc (bel_alloc (Below.refl _ _) _) _
        have HD6 := Lib.hid (HD5.out.below hb5)
        have HF6 := Lib.hid (HF5.out.below hb5)
        rw [hW6]
        clear hb5 hW4 hW5 hW6 hs5 hsz HD4 HF4 HD5 HF5 a0 af0 a1 af1 a2 af2 a3 af3 az r0 r1 r2 r3 r4 r5 r6 r7 r8 r9 r10 rz m0 m1 m2 m3 m4 m5 m6 m7 m8 m9 m10 mz
        refine wp_region_lit ?_
        refine wpList_load_blk rfl 43 (.tmp 13) rfl rfl HD6.out.ab _ Tryz.underlying43 rfl ansSize ?_
        simp only [Act.put, List.setIfInBounds_toArray, List.set_cons_zero, List.set_cons_succ]
        refine wpList_store_blk rfl 43 (.tmp 10) (.tmp 65) rfl rfl rfl HD6.out.zb rfl ansSize (by simp [Value.oneCell']) ?_
        intro wE hst
        simp only [Act.put]
        have e0 := blk_cell (i := 0) hst.blk rfl
        have e1 := blk_cell (i := 1) hst.blk rfl
        have e2 := blk_cell (i := 2) hst.blk rfl
        have e3 := blk_cell (i := 3) hst.blk rfl
        have HFE : Hid (SpT 78 encFd 2 wE FA fc FL) := HF6.out.stored hst HD6.out.zb (by decide)
        have HPE : Hid (SpT 65 encPt 3 wE (some ⟨wc.heap.size + 1, 0, none⟩) 1 [([], (0, 4611686018427387904))]) := HP6.out.stored hst HD6.out.zb (by decide)
        have HBE : Hid (Below w.heap.size w wE) := hst.bel w HD6.out.bel HD6.out.ne.2.2.2.2
        clear hst
        go_wp2_with fail
        refine bodyPost_ret (by simp [results, Tryz.results13, go_sem, e0, e1, e2, e3]; try rfl) rfl ?_
        try rw [if_neg HN3.out, if_neg HN4.out]
        refine HW1.out (by simp; try omega) _ _ ?_
        refine ⟨FA, fc, FL.length, some ⟨wc.heap.size + 1, 0, none⟩, 1, 1, rfl, rfl, rfl, HFE.out, ?_, HBE.out⟩
        first | exact HPE.out | (rw [if_neg (by omega)]; exact HPE.out) | (rw [if_pos rfl]; exact HPE.out)
      · --Cfalseln=0
        subst hl
        go_upto_region 15 with fail
        obtain ⟨W5, hW5⟩ : ∃ W, wc.alloc (.cells #[.int .i64 0, .int .i64 0] 55) = W := ⟨_, rfl⟩
        rw [hW5]
        have hb5 : Below wc.heap.size wc W5 := by rw [← hW5]; exact bel_alloc (Below.refl _ _) _
        have HD5 := Lib.hid (HD4.out.below hb5)
        have HF5 := Lib.hid (HF4.out.below hb5)
        clear hb5 hW5 HD4 HF4 a0 af0 a1 af1 a2 af2 a3 af3 az r0 r1 r2 r3 r4 r5 r6 r7 r8 r9 r10 rz m0 m1 m2 m3 m4 m5 m6 m7 m8 m9 m10 mz
        refine wp_region_lit ?_
        refine wpList_load_blk rfl 43 (.tmp 13) rfl rfl HD5.out.ab _ Tryz.underlying43 rfl ansSize ?_
        simp only [Act.put, List.setIfInBounds_toArray, List.set_cons_zero, List.set_cons_succ]
        refine wpList_store_blk rfl 43 (.tmp 10) (.tmp 65) rfl rfl rfl HD5.out.zb rfl ansSize (by simp [Value.oneCell']) ?_
        intro wE hst
        simp only [Act.put]
        have e0 := blk_cell (i := 0) hst.blk rfl
        have e1 := blk_cell (i := 1) hst.blk rfl
        have e2 := blk_cell (i := 2) hst.blk rfl
        have e3 := blk_cell (i := 3) hst.blk rfl
        have HFE : Hid (SpT 78 encFd 2 wE FA fc FL) := HF5.out.stored hst HD5.out.zb (by decide)
        have HBE : Hid (Below w.heap.size w wE) := hst.bel w HD5.out.bel HD5.out.ne.2.2.2.2
        clear hst
        go_wp2_with fail
        refine bodyPost_ret (by simp [results, Tryz.results13, go_sem, e0, e1, e2, e3]; try rfl) rfl ?_
        try rw [if_neg HN3.out, if_neg HN4.out]
        refine HW0.out (by simp) _ _ ?_
        exact ⟨FA, fc, FL.length, none, 0, 0, rfl, rfl, rfl, HFE.out, SpT.nil0 _, HBE.out⟩
      · --Cfalse0<ln
        have hl2 : ¬ ln < 0 := by omega
        go_upto_region 15 with fail
        have hsz : (wc.setCell ⟨BA, 2, none⟩ (.slice (some ⟨wc.heap.size + 1, 0, none⟩) 1 1)).heap.size = wc.heap.size := World.size_setCell _ _ _
        obtain ⟨W4, hW4⟩ : ∃ W, wc.setCell ⟨BA, 2, none⟩ (.slice (some ⟨wc.heap.size + 1, 0, none⟩) 1 1) = W := ⟨_, rfl⟩
        have HD5 : Hid (ShapeSt w B1 B2 B3 #[.bool false, .string ob, .slice A L.length c, .slice A1 n1 c1, .slice A2 n2 c2, .bool am, .bool an, .int .i64 si, .int .i64 un, .string rt, .bool rw'] #[.string ⟨tg.toArray⟩, .bool wk, .int .i64 mo, .int .i64 ln, .int .i64 hv, .int .i64 fr, .int .i64 wh, .int .i64 er, .slice KA ks.length kc, .string ⟨tn.toArray⟩, .bool kp] #[.int .i64 j0, .int .i64 j1, .int .i64 j2, .int .i64 cs, .int .i64 j4, .int .i64 j5, .int .i64 j6, .int .i64 j7, .int .i64 j8, .int .i64 j9] #[.int .i64 200, .slice FA FL.length fc, .slice (some ⟨wc.heap.size + 1, 0, none⟩) 1 1, .int .i64 ln] BA W4) := by simp only [Hid]; rw [← hW4]; exact HD4.out.set 2 _
        have HF5 : Hid (SpT 78 encFd 2 W4 FA fc FL) := by simp only [Hid]; rw [← hW4]; exact SpT.setAt HD4.out HF4.out (by decide)
        rw [hW4] at hsz ⊢
        obtain ⟨W5, hW5⟩ : ∃ W, W4.alloc (.cells #[.int .i64 0, .int .i64 ln] 55) = W := ⟨_, rfl⟩
        have hs5 : W5.heap.size = wc.heap.size + 1 := by rw [← hW5, ← hsz]; simp
        rw [hW5]
        obtain ⟨W6, hW6⟩ : ∃ W, W5.alloc (.cells #[.string ⟨#[]⟩, .int .i64 0, .int .i64 ln] 65) = W := ⟨_, rfl⟩
        have HP6 : Hid (SpT 65 encPt 3 W6 (some ⟨wc.heap.size + 1, 0, none⟩) 1 [([], (0, ln))]) := by simp only [Hid]; rw [← hW6, ← hs5]; exact SpT.built elemPt.len W5 [([], (0, ln))] _ rfl
        have hb5 : Below W4.heap.size W4 W6 := by rw [← hW6, ← hW5]; exact bel_alloc (bel_alloc (Below.refl _ _) _) _
        have HD6 := Lib.hid (HD5.out.below hb5)
        have HF6 := Lib.hid (HF5.out.below hb5)
        rw [hW6]
        clear hb5 hW4 hW5 hW6 hs5 hsz HD4 HF4 HD5 HF5 a0 af0 a1 af1 a2 af2 a3 af3 az r0 r1 r2 r3 r4 r5 r6 r7 r8 r9 r10 rz m0 m1 m2 m3 m4 m5 m6 m7 m8 m9 m10 mz
        refine wp_region_lit ?_
        refine wpList_load_blk rfl 43 (.tmp 13) rfl rfl HD6.out.ab _ Tryz.underlying43 rfl ansSize ?_
        simp only [Act.put, List.setIfInBounds_toArray, List.set_cons_zero, List.set_cons_succ]
        refine wpList_store_blk rfl 43 (.tmp 10) (.tmp 65) rfl rfl rfl HD6.out.zb rfl ansSize (by simp [Value.oneCell']) ?_
        intro wE hst
        simp only [Act.put]
        have e0 := blk_cell (i := 0) hst.blk rfl
        have e1 := blk_cell (i := 1) hst.blk rfl
        have e2 := blk_cell (i := 2) hst.blk rfl
        have e3 := blk_cell (i := 3) hst.blk rfl
        have HFE : Hid (SpT 78 encFd 2 wE FA fc FL) := HF6.out.stored hst HD6.out.zb (by decide)
        have HPE : Hid (SpT 65 encPt 3 wE (some ⟨wc.heap.size + 1, 0, none⟩) 1 [([], (0, ln))]) := HP6.out.stored hst HD6.out.zb (by decide)
        have HBE : Hid (Below w.heap.size w wE) := hst.bel w HD6.out.bel HD6.out.ne.2.2.2.2
        clear hst
        go_wp2_with fail
        refine bodyPost_ret (by simp [results, Tryz.results13, go_sem, e0, e1, e2, e3]; try rfl) rfl ?_
        try rw [if_neg HN3.out, if_neg HN4.out]
        refine HW1.out (by simp; try omega) _ _ ?_
        refine ⟨FA, fc, FL.length, some ⟨wc.heap.size + 1, 0, none⟩, 1, 1, rfl, rfl, rfl, HFE.out, ?_, HBE.out⟩
        first | exact HPE.out | (rw [if_neg (by omega)]; exact HPE.out) | (rw [if_pos rfl]; exact HPE.out)
  | true =>
    --T0
    have hhv := HOK.out.hv
    simp only at hhv
    have hin := fun y hy => resL_in hhv.1 HRR.out (y := y) hy
    have hlen : (resL hv L).length ≤ 70 := Nat.le_trans (resL_length _ _) HLL.out
    have HRES := fun W hW => Lib.hid (r4resolve_any A c L hv W hW (by have := HLL.out; omega) HRR.out hhv.1 (by omega))
    have HFOLD := fun A' c' W (hW : Sp W A' c' (resL hv L)) => Lib.hid (r4fold_any A' c' (resL hv L) 0 W hW (fun x hx => by have := hin x hx; unfold WideS; omega) (by omega))
    have HMOK := Lib.hid HOK.out
    obtain ⟨R, hRe⟩ : ∃ R, resL hv L = R := ⟨_, rfl⟩
    rw [hRe] at hlen HCONT HRP
    simp only [hRe] at HRES HFOLD
    have HRX : Hid (∀ O, Folded 0 R O → ∀ a : AnsL, rangedA ⟨tg, wk, mo, ln, hv, fr, wh, er, ks, tn, kp⟩ (O.map Prod.fst) seed = a → ∀ e w', RetAns a w e w' → PR e w') := by
      simp only [Hid]; rintro O hO a rfl e w' h; rw [← HRP.out]; exact ⟨O, hO, h⟩
    clear hin hRe HRP HW0 HW1 HWP HCB HOK HRR
    have r2 := blk_cell (i := 2) HD3.out.rb rfl
    have rz := blk_lt HD3.out.rb
    have m4 := blk_cell (i := 4) HD3.out.mb rfl
    have mz := blk_lt HD3.out.mb
    go_upto_region 18 with (first
      | (go_at_call 35; refine (HFOLD _ _ _ HP4.out).out.mono ?_; rintro e w5 ⟨O, hO, B5, d5, rfl, hP5, h5⟩
         have HD5 := Lib.hid (HD4.out.below h5)
         have HF5 := Lib.hid (HF4.out.below h5)
         have HP5 := Lib.hid hP5
         clear h5 hP5 HD4 HF4 HP4)
      | (go_at_call 17; refine (HRES _ (HSP.out.below HD3.out.bel)).out.mono ?_; rintro e w4 ⟨B4, d4, rfl, hP4, h4⟩
         have HD4 := Lib.hid (HD3.out.below h4)
         have HF4 := Lib.hid (HF3.out.below h4)
         have HP4 := Lib.hid hP4.sp
         clear h4 hP4 HD3 HF3 r2 rz m4 mz))
    --T1
    have HC := Lib.hid (HCONT.out O hO)
    have hfew := hO.few
    have HRS := Lib.hid (HRX.out O hO)
    obtain ⟨S, hS⟩ : ∃ S, O.map Prod.fst = S := ⟨_, rfl⟩
    have hOl : O.length = S.length := by rw [← hS, List.length_map]
    rw [hS] at HC HRS HP5
    try rw [hOl]
    have hSl : S.length ≤ 70 := by rw [← hS, List.length_map]; omega
    clear hS hOl hO hfew HRX HCONT HRES HFOLD hlen
    by_cases hS0 : S.length = 0
    · obtain rfl := List.eq_nil_of_length_eq_zero hS0
      --T2
      clear hS0 hSl HC HSD
      have a0 := blk_cell (i := 0) HD5.out.ab rfl
      have af0 : w5.frozen? ⟨BA, 0, none⟩ = false := blk_frozen HD5.out.ab
      have a1 := blk_cell (i := 1) HD5.out.ab rfl
      have af1 : w5.frozen? ⟨BA, 1, none⟩ = false := blk_frozen HD5.out.ab
      have a2 := blk_cell (i := 2) HD5.out.ab rfl
      have af2 : w5.frozen? ⟨BA, 2, none⟩ = false := blk_frozen HD5.out.ab
      have a3 := blk_cell (i := 3) HD5.out.ab rfl
      have af3 : w5.frozen? ⟨BA, 3, none⟩ = false := blk_frozen HD5.out.ab
      have az := blk_lt HD5.out.ab
      go_upto_region 20 with fail
      clear a0 af0 a1 af1 a2 af2 a3 af3 az
      obtain ⟨W6, hWn⟩ : ∃ W, w5.setCell ⟨BA, 0, none⟩ (.int .i64 416) = W := ⟨_, rfl⟩
      have HD6 : Hid (ShapeSt w B1 B2 B3 #[.bool hd, .string ob, .slice A L.length c, .slice A1 n1 c1, .slice A2 n2 c2, .bool am, .bool an, .int .i64 si, .int .i64 un, .string rt, .bool rw'] #[.string ⟨tg.toArray⟩, .bool wk, .int .i64 mo, .int .i64 ln, .int .i64 hv, .int .i64 fr, .int .i64 wh, .int .i64 er, .slice KA ks.length kc, .string ⟨tn.toArray⟩, .bool kp] #[.int .i64 j0, .int .i64 j1, .int .i64 j2, .int .i64 cs, .int .i64 j4, .int .i64 j5, .int .i64 j6, .int .i64 j7, .int .i64 j8, .int .i64 j9] #[.int .i64 416, .slice FA FL.length fc, .slice none 0 0, .int .i64 0] BA W6) := by simp only [Hid]; rw [← hWn]; exact HD5.out.set 0 _
      have HF6 : Hid (SpT 78 encFd 2 W6 FA fc FL) := by simp only [Hid]; rw [← hWn]; exact SpT.setAt HD5.out HF5.out (by decide)
      rw [hWn]
      clear hWn
      have HA : Hid (rangedA ⟨tg, wk, mo, ln, hv, fr, wh, er, ks, tn, kp⟩ [] seed = ⟨416, FL ++ [(nCR, vStar ++ digN hv)], [], 0⟩) := by simp only [Hid]; rw [← HFL.out]; rfl
      have hcs := catE (a := [98, 121, 116, 101, 115, 32, 42, 47]) (b := digN hv) (by have := digN_len' (n := hv) (by omega); simp only [List.length_cons, List.length_nil]; omega)
      have HSTAR : Hid (vStar ++ digN hv = [98, 121, 116, 101, 115, 32, 42, 47] ++ digN hv) := rfl
      have HDG : ∀ W, Hid (Calls Tryz.prog 37 #[.int .i64 hv] W fun e w' => e = .returned (.string ⟨(digN hv).toArray⟩) ∧ ∃ m, w' = W.drewN m) := fun W => Lib.hid (rdigits15_any hv.toNat hv W (Nat.le_refl _) hhv.1 (by omega))
      obtain ⟨tx, htx⟩ : ∃ t, [98, 121, 116, 101, 115, 32, 42, 47] ++ digN hv = t := ⟨_, rfl⟩
      rw [htx] at hcs HSTAR
      obtain ⟨dv, hdv⟩ : ∃ t, digN hv = t := ⟨_, rfl⟩
      rw [hdv] at hcs HSTAR
      simp only [hdv] at HDG
      rw [hdv, HSTAR.out] at HA
      clear htx hdv HSTAR
      have v4 := blk_cell (i := 4) HD6.out.mb rfl
      have vz := blk_lt HD6.out.mb
      have vy := blk_lt HD6.out.ab
      have v0 := blk_cell (i := 0) HD6.out.ab rfl
      have v1 := blk_cell (i := 1) HD6.out.ab rfl
      have v2 := blk_cell (i := 2) HD6.out.ab rfl
      have v3 := blk_cell (i := 3) HD6.out.ab rfl
      go_region_held3 (fun w' => w'.cell? ⟨BA, 0, none⟩ = some (.int .i64 416) ∧ w'.cell? ⟨BA, 1, none⟩ = some (.slice FA FL.length fc) ∧ w'.cell? ⟨BA, 2, none⟩ = some (.slice none 0 0) ∧ w'.cell? ⟨BA, 3, none⟩ = some (.int .i64 0) ∧ w'.cell? ⟨B1, 4, none⟩ = some (.int .i64 hv))
        (first | exact ⟨v0, v1, v2, v3, v4⟩ | exact ⟨u0, u1, u2, u3, u4⟩ | exact ⟨y0, y1, y2, y3, y4⟩ | exact ⟨blk_cell (i := 0) (blk_set_ne hn1 (blk_set_ne hn1 (blk_set_ne hn1 (blk_set_ne hn1 HD9.out.ab)))) rfl, blk_cell (i := 1) (blk_set_ne hn1 (blk_set_ne hn1 (blk_set_ne hn1 (blk_set_ne hn1 HD9.out.ab)))) rfl, blk_cell (i := 2) (blk_set_ne hn1 (blk_set_ne hn1 (blk_set_ne hn1 (blk_set_ne hn1 HD9.out.ab)))) rfl, blk_cell (i := 3) (blk_set_ne hn1 (blk_set_ne hn1 (blk_set_ne hn1 (blk_set_ne hn1 HD9.out.ab)))) rfl, blk_cell (i := 4) (blk_set_ne hn2 (blk_set_ne hn2 (blk_set_ne hn2 (blk_set_ne hn2 HD9.out.mb)))) rfl⟩ | fail)
        (first
          | (go_at_call 36; refine (rwith_any 416 0 FA fc FL.length FL none 0 0 [67, 111, 110, 116, 101, 110, 116, 45, 82, 97, 110, 103, 101] tx _ rfl HF7.out.sp hNF0 (by omega)).mono ?_; rintro e w9 ⟨A9, c9, n9, hn9, rfl, hs9, hb9⟩
             simp only [List.length_append, List.length_cons, List.length_nil, Nat.zero_add] at hn9
             subst hn9
             have HD9 := Lib.hid (HD7.out.below hb9)
             have hn1 : BA ≠ B3 := Nat.ne_of_gt HD7.out.ne.2.2.2.1
             have hn2 : B1 ≠ B3 := blk_ne HD9.out.mb HD9.out.zb (by decide)
             have y0 := blk_cell (i := 0) HD9.out.ab rfl
             have y1 := blk_cell (i := 1) HD9.out.ab rfl
             have y2 := blk_cell (i := 2) HD9.out.ab rfl
             have y3 := blk_cell (i := 3) HD9.out.ab rfl
             have y4 := blk_cell (i := 4) HD9.out.mb rfl
             have HZ9 := Lib.hid (blk_keep hb9 HD7.out.zb)
             have z0 := blk_cell (i := 0) HZ9.out rfl
             have zf0 := blk_frozen (i := 0) HZ9.out
             have z1 := blk_cell (i := 1) HZ9.out rfl
             have zf1 := blk_frozen (i := 1) HZ9.out
             have z2 := blk_cell (i := 2) HZ9.out rfl
             have zf2 := blk_frozen (i := 2) HZ9.out
             have z3 := blk_cell (i := 3) HZ9.out rfl
             have zf3 := blk_frozen (i := 3) HZ9.out
             have zz := blk_lt HZ9.out)
          | (go_at_call 37; refine (HDG _).out.mono ?_; rintro e w7 ⟨rfl, q7, rfl⟩
             have HB7 : Below W6.heap.size W6 (W6.drewN (1 + q7)) := bel_drewN (Below.refl _ _) _
             have HD7 := Lib.hid (HD6.out.below HB7)
             have HF7 := Lib.hid (HF6.out.below HB7)
             have u0 := blk_cell (i := 0) HD7.out.ab rfl
             have u1 := blk_cell (i := 1) HD7.out.ab rfl
             have u2 := blk_cell (i := 2) HD7.out.ab rfl
             have u3 := blk_cell (i := 3) HD7.out.ab rfl
             have u4 := blk_cell (i := 4) HD7.out.mb rfl))
      --T2R
      go_wp2_with fail
      refine bodyPost_ret (by simp [results, Tryz.results13, go_sem, z0, z1, z2, z3]; try rfl) rfl ?_
      have g0 := HZ9.out
      have g1 := blk_set (i := 0) (v := .int .i64 416) g0
      have g2 := blk_set (i := 1) (v := .slice A9 (FL.length + 1) c9) g1
      have g3 := blk_set (i := 2) (v := .slice none 0 0) g2
      have hz := HD7.out.ne.2.2.2.2
      try rw [if_neg HN3.out, if_neg HN4.out]
      refine HRS.out _ HA.out _ _ ⟨A9, c9, FL.length + 1, none, 0, 0, by simp only [List.length_append, List.length_cons, List.length_nil], by first | rfl | (simp only [List.length_cons, List.length_nil]), rfl, ((((hs9.set_ty g0 (by decide) _).set_ty g1 (by decide) _).set_ty g2 (by decide) _).set_ty g3 (by decide) _), ?_, bel_set (bel_set (bel_set (bel_set (bel_chain hb9 HD7.out.bel) hz _) hz _) hz _) hz _⟩
      exact SpT.nil0 _
    by_cases hS1 : S.length = 1
    · --T3
      obtain ⟨⟨x1, x2⟩, rfl⟩ := single hS1
      have hcc := HC.out (x1, x2) (by simp)
      have hok2 := (contOk_at hcc.1)
      obtain ⟨r1, r2, r3⟩ := (okS_iff (x1, x2)).1 hok2.1
      have hx2 := hcc.2
      simp only at r1 r2 r3 hx2
      have HCTN : ∀ W, Hid (Calls Tryz.prog 38 #[.agg #[.int .i64 x1, .int .i64 x2], .int .i64 ln] W fun e w' => e = .returned (.string ⟨(contT (x1, x2) ln).toArray⟩) ∧ Below W.heap.size W w') := fun W => Lib.hid (rcontent_any x1 x2 ln W (by omega) (by omega))
      have HA : Hid (rangedA ⟨tg, wk, mo, ln, hv, fr, wh, er, ks, tn, kp⟩ [(x1, x2)] seed = ⟨206, FL ++ [(nCR, contT (x1, x2) ln)], [([], (x1, x2))], x2 - x1⟩) := by simp only [Hid]; rw [← HFL.out]; rfl
      obtain ⟨ct, hct⟩ : ∃ t, contT (x1, x2) ln = t := ⟨_, rfl⟩
      rw [hct] at HA
      simp only [hct] at HCTN
      obtain ⟨g, cur, hg1, hg2⟩ := HP5.out.row (by simp)
      subst hg1
      have HG5 := Lib.hid hg2
      obtain ⟨b, off, e, _, c1', c2'⟩ := HP5.out.sp.at_ (k := 0) (by simp)
      injection e with e; injection e with e1 e2; subst e1 e2
      simp only [List.getElem_cons_zero, Nat.zero_mul, Nat.zero_add] at c1' c2'
      have hc1 : cur[0]? = some (.int .i64 x1) := (Lib.cell_of_heap HG5.out 0).symm.trans c1'
      have hc2 : cur[1]? = some (.int .i64 x2) := (Lib.cell_of_heap HG5.out 1).symm.trans c2'
      clear hct hcc hok2 c1' c2' HC HP5 hS0 hS1 hSl HSD hg2
      have a0 := blk_cell (i := 0) HD5.out.ab rfl
      have af0 : w5.frozen? ⟨BA, 0, none⟩ = false := blk_frozen HD5.out.ab
      have a1 := blk_cell (i := 1) HD5.out.ab rfl
      have af1 : w5.frozen? ⟨BA, 1, none⟩ = false := blk_frozen HD5.out.ab
      have a2 := blk_cell (i := 2) HD5.out.ab rfl
      have af2 : w5.frozen? ⟨BA, 2, none⟩ = false := blk_frozen HD5.out.ab
      have a3 := blk_cell (i := 3) HD5.out.ab rfl
      have af3 : w5.frozen? ⟨BA, 3, none⟩ = false := blk_frozen HD5.out.ab
      have az := blk_lt HD5.out.ab
      --T3A
      go_upto_region 22 with fail
      clear a0 af0 a1 af1 a2 af2 a3 af3 az
      obtain ⟨W6, hWn⟩ : ∃ W, w5.setCell ⟨BA, 0, none⟩ (.int .i64 206) = W := ⟨_, rfl⟩
      have HD6 : Hid (ShapeSt w B1 B2 B3 #[.bool hd, .string ob, .slice A L.length c, .slice A1 n1 c1, .slice A2 n2 c2, .bool am, .bool an, .int .i64 si, .int .i64 un, .string rt, .bool rw'] #[.string ⟨tg.toArray⟩, .bool wk, .int .i64 mo, .int .i64 ln, .int .i64 hv, .int .i64 fr, .int .i64 wh, .int .i64 er, .slice KA ks.length kc, .string ⟨tn.toArray⟩, .bool kp] #[.int .i64 j0, .int .i64 j1, .int .i64 j2, .int .i64 cs, .int .i64 j4, .int .i64 j5, .int .i64 j6, .int .i64 j7, .int .i64 j8, .int .i64 j9] #[.int .i64 206, .slice FA FL.length fc, .slice none 0 0, .int .i64 0] BA W6) := by simp only [Hid]; rw [← hWn]; exact HD5.out.set 0 _
      have HF6 : Hid (SpT 78 encFd 2 W6 FA fc FL) := by simp only [Hid]; rw [← hWn]; exact SpT.setAt HD5.out HF5.out (by decide)
      have HG6 : Hid (W6.heap[g]? = some (.cells cur 55 (0, 0))) := by simp only [Hid]; rw [← hWn]; exact blk_set_ne (blk_ne HG5.out HD5.out.ab (by decide)) HG5.out
      rw [hWn]
      clear hWn
      have hgne : g ≠ BA := blk_ne HG6.out HD6.out.ab (by decide)
      clear HD5 HF5 HG5
      go_upto_region 23 with fail
      --T3B
      have v0 := blk_cell (i := 0) HD6.out.ab rfl
      have v1 := blk_cell (i := 1) HD6.out.ab rfl
      have v2 := blk_cell (i := 2) HD6.out.ab rfl
      have v3 := blk_cell (i := 3) HD6.out.ab rfl
      have vf2 := blk_frozen (i := 2) HD6.out.ab
      have vf3 := blk_frozen (i := 3) HD6.out.ab
      have vz := blk_lt HD6.out.ab
      have s1 := blk_cell (i := 0) HG6.out hc1
      have s2 := blk_cell (i := 1) HG6.out hc2
      have sz := blk_lt HG6.out
      have hgn1 : ¬ g = BA := hgne
      have hgn2 : ¬ BA = g := Ne.symm hgne
      have hwr : IntKind.i64.wrap (x2 - x1) = x2 - x1 := IntWalk.i64_in _ (by omega)
      go_cut [] (fun wx => ShapeSt w B1 B2 B3 #[.bool hd, .string ob, .slice A L.length c, .slice A1 n1 c1, .slice A2 n2 c2, .bool am, .bool an, .int .i64 si, .int .i64 un, .string rt, .bool rw'] #[.string ⟨tg.toArray⟩, .bool wk, .int .i64 mo, .int .i64 ln, .int .i64 hv, .int .i64 fr, .int .i64 wh, .int .i64 er, .slice KA ks.length kc, .string ⟨tn.toArray⟩, .bool kp] #[.int .i64 j0, .int .i64 j1, .int .i64 j2, .int .i64 cs, .int .i64 j4, .int .i64 j5, .int .i64 j6, .int .i64 j7, .int .i64 j8, .int .i64 j9] #[.int .i64 206, .slice FA FL.length fc, .slice (some ⟨W6.heap.size, 0, none⟩) 1 1, .int .i64 (x2 - x1)] BA wx ∧ SpT 78 encFd 2 wx FA fc FL ∧ SpT 65 encPt 3 wx (some ⟨W6.heap.size, 0, none⟩) 1 [([], (x1, x2))] ∧ wx.heap[g]? = some (.cells cur 55 (0, 0)))
      case first =>
        go_region
        all_goals
          --T3C
          go_wp2_with fail
          go_meet
          exact ⟨(((HD6.out.set 2 _).set 3 _).below (bel_alloc (Below.refl _ _) _)).drew, ((SpT.setAt (HD6.out.set 2 _) (SpT.setAt HD6.out HF6.out (by decide)) (by decide)).alloc _).drew', (SpT.built_at elemPt.len _ W6.heap.size (by simp) [([], (x1, x2))] _ rfl 65).drew', blk_skip (blk_set_ne hgne (blk_set_ne hgne HG6.out))⟩
      case rest =>
      obtain ⟨hd7, hf7, hp7, hg7⟩ := hcut
      have HD7 := Lib.hid hd7
      have HF7 := Lib.hid hf7
      have HP7 := Lib.hid hp7
      have HG7 := Lib.hid hg7
      clear hd7 hf7 hp7 hg7 HD6 HF6 HG6 v0 v1 v2 v3 vf2 vf3 vz s1 s2 sz hgn1 hgn2 hwr
      go_upto_region 24 with fail
      --T3D
      have v0 := blk_cell (i := 0) HD7.out.ab rfl
      have v1 := blk_cell (i := 1) HD7.out.ab rfl
      have v2 := blk_cell (i := 2) HD7.out.ab rfl
      have v3 := blk_cell (i := 3) HD7.out.ab rfl
      have v4 := blk_cell (i := 0) HG7.out hc1
      have v5 := blk_cell (i := 1) HG7.out hc2
      have v6 := blk_cell (i := 3) HD7.out.mb rfl
      have vz := blk_lt HD7.out.ab
      have vzg := blk_lt HG7.out
      have vzm := blk_lt HD7.out.mb
      go_region_held3 (fun w' => w'.cell? ⟨BA, 0, none⟩ = some (.int .i64 206) ∧ w'.cell? ⟨BA, 1, none⟩ = some (.slice FA FL.length fc) ∧ w'.cell? ⟨BA, 2, none⟩ = some (.slice (some ⟨W6.heap.size, 0, none⟩) 1 1) ∧ w'.cell? ⟨BA, 3, none⟩ = some (.int .i64 (x2 - x1)) ∧ w'.cell? ⟨g, 0, none⟩ = some (.int .i64 x1) ∧ w'.cell? ⟨g, 1, none⟩ = some (.int .i64 x2) ∧ w'.cell? ⟨B1, 3, none⟩ = some (.int .i64 ln))
        (first | exact ⟨v0, v1, v2, v3, v4, v5, v6⟩ | exact ⟨u0, u1, u2, u3, u4, u5, u6⟩ | exact ⟨y0, y1, y2, y3, y4, y5, y6⟩ | exact ⟨blk_cell (i := 0) (blk_set_ne hn1 (blk_set_ne hn1 (blk_set_ne hn1 (blk_set_ne hn1 HD9.out.ab)))) rfl, blk_cell (i := 1) (blk_set_ne hn1 (blk_set_ne hn1 (blk_set_ne hn1 (blk_set_ne hn1 HD9.out.ab)))) rfl, blk_cell (i := 2) (blk_set_ne hn1 (blk_set_ne hn1 (blk_set_ne hn1 (blk_set_ne hn1 HD9.out.ab)))) rfl, blk_cell (i := 3) (blk_set_ne hn1 (blk_set_ne hn1 (blk_set_ne hn1 (blk_set_ne hn1 HD9.out.ab)))) rfl, blk_cell (i := 0) (blk_set_ne hn3 (blk_set_ne hn3 (blk_set_ne hn3 (blk_set_ne hn3 HG9.out)))) hc1, blk_cell (i := 1) (blk_set_ne hn3 (blk_set_ne hn3 (blk_set_ne hn3 (blk_set_ne hn3 HG9.out)))) hc2, blk_cell (i := 3) (blk_set_ne hn2 (blk_set_ne hn2 (blk_set_ne hn2 (blk_set_ne hn2 HD9.out.mb)))) rfl⟩ | fail)
        (first
          | (go_at_call 36; refine (rwith_any 206 (x2 - x1) FA fc FL.length FL (some ⟨W6.heap.size, 0, none⟩) 1 1 [67, 111, 110, 116, 101, 110, 116, 45, 82, 97, 110, 103, 101] ct _ rfl HF8.out.sp hNF0 (by omega)).mono ?_; rintro e w9 ⟨A9, c9, n9, hn9, rfl, hs9, hb9⟩
             simp only [List.length_append, List.length_cons, List.length_nil, Nat.zero_add] at hn9
             subst hn9
             have HD9 := Lib.hid (HD8.out.below hb9)
             have HG9 := Lib.hid (blk_keep hb9 HG8.out)
             have HP9 := Lib.hid (HP8.out.below hb9)
             have hn1 : BA ≠ B3 := Nat.ne_of_gt HD8.out.ne.2.2.2.1
             have hn2 : B1 ≠ B3 := blk_ne HD9.out.mb HD9.out.zb (by decide)
             have hn3 : g ≠ B3 := blk_ne HG9.out HD9.out.zb (by decide)
             have y0 := blk_cell (i := 0) HD9.out.ab rfl
             have y1 := blk_cell (i := 1) HD9.out.ab rfl
             have y2 := blk_cell (i := 2) HD9.out.ab rfl
             have y3 := blk_cell (i := 3) HD9.out.ab rfl
             have y4 := blk_cell (i := 0) HG9.out hc1
             have y5 := blk_cell (i := 1) HG9.out hc2
             have y6 := blk_cell (i := 3) HD9.out.mb rfl
             have HZ9 := Lib.hid HD9.out.zb
             have z0 := blk_cell (i := 0) HZ9.out rfl
             have zf0 := blk_frozen (i := 0) HZ9.out
             have z1 := blk_cell (i := 1) HZ9.out rfl
             have zf1 := blk_frozen (i := 1) HZ9.out
             have z2 := blk_cell (i := 2) HZ9.out rfl
             have zf2 := blk_frozen (i := 2) HZ9.out
             have z3 := blk_cell (i := 3) HZ9.out rfl
             have zf3 := blk_frozen (i := 3) HZ9.out
             have zz := blk_lt HZ9.out)
          | (go_at_call 38; refine (HCTN _).out.mono ?_; rintro e w8 ⟨rfl, h8⟩
             have HB8 : Below wc.heap.size wc w8 := bel_chain h8 (bel_drew (Below.refl _ _))
             have HD8 := Lib.hid (HD7.out.below HB8)
             have HF8 := Lib.hid (HF7.out.below HB8)
             have HP8 := Lib.hid (HP7.out.below HB8)
             have HG8 := Lib.hid (blk_keep HB8 HG7.out)
             have u0 := blk_cell (i := 0) HD8.out.ab rfl
             have u1 := blk_cell (i := 1) HD8.out.ab rfl
             have u2 := blk_cell (i := 2) HD8.out.ab rfl
             have u3 := blk_cell (i := 3) HD8.out.ab rfl
             have u4 := blk_cell (i := 0) HG8.out hc1
             have u5 := blk_cell (i := 1) HG8.out hc2
             have u6 := blk_cell (i := 3) HD8.out.mb rfl))
      --T3R
      go_wp2_with fail
      refine bodyPost_ret (by simp [results, Tryz.results13, go_sem, z0, z1, z2, z3]; try rfl) rfl ?_
      have g0 := HZ9.out
      have g1 := blk_set (i := 0) (v := .int .i64 206) g0
      have g2 := blk_set (i := 1) (v := .slice A9 (FL.length + 1) c9) g1
      have g3 := blk_set (i := 2) (v := .slice (some ⟨W6.heap.size, 0, none⟩) 1 1) g2
      have hz := HD8.out.ne.2.2.2.2
      try rw [if_neg HN3.out, if_neg HN4.out]
      refine HRS.out _ HA.out _ _ ⟨A9, c9, FL.length + 1, some ⟨W6.heap.size, 0, none⟩, 1, 1, by simp only [List.length_append, List.length_cons, List.length_nil], by first | rfl | (simp only [List.length_cons, List.length_nil]), rfl, ((((hs9.set_ty g0 (by decide) _).set_ty g1 (by decide) _).set_ty g2 (by decide) _).set_ty g3 (by decide) _), ?_, bel_set (bel_set (bel_set (bel_set (bel_chain hb9 HD8.out.bel) hz _) hz _) hz _) hz _⟩
      exact ((((HP9.out.set_ty g0 (by decide) _).set_ty g1 (by decide) _).set_ty g2 (by decide) _).set_ty g3 (by decide) _)
    --T4
    have hS2 : 2 ≤ S.length := by omega
    obtain ⟨bd, hbd⟩ : ∃ b, boundT seed = b := ⟨_, rfl⟩
    have HBO : Hid (boundOk bd = true) := by simp only [Hid]; rw [← hbd]; exact boundT_ok seed
    have hbl : bd.length = 21 := by rw [← hbd]; exact boundT_len seed
    have HBY : ∀ W, Hid (Calls Tryz.prog 39 #[.int .i64 seed] W fun e w' => e = .returned (.string ⟨bd.toArray⟩) ∧ w' = W) := fun W => by
      have h := rboundary_any seed W HSD.out
      rw [hbd] at h
      exact Lib.hid h
    have hcs := catE (a := [109, 117, 108, 116, 105, 112, 97, 114, 116, 47, 98, 121, 116, 101, 114, 97, 110, 103, 101, 115, 59, 32, 98, 111, 117, 110, 100, 97, 114, 121, 61]) (b := bd) (by simp only [List.length_cons, List.length_nil]; omega)
    obtain ⟨tx, htx⟩ : ∃ t, [109, 117, 108, 116, 105, 112, 97, 114, 116, 47, 98, 121, 116, 101, 114, 97, 110, 103, 101, 115, 59, 32, 98, 111, 117, 110, 100, 97, 114, 121, 61] ++ bd = t := ⟨_, rfl⟩
    obtain ⟨PL, hPL⟩ : ∃ P, partsL S ln [97, 112, 112, 108, 105, 99, 97, 116, 105, 111, 110, 47, 111, 99, 116, 101, 116, 45, 115, 116, 114, 101, 97, 109] bd = P := ⟨_, rfl⟩
    have HA : Hid (rangedA ⟨tg, wk, mo, ln, hv, fr, wh, er, ks, tn, kp⟩ S seed = ⟨206, FL ++ [(nCT, tx)], PL, sizeL PL⟩) := by simp only [Hid]; rw [rangedA_two hS2, ← HFL.out, hbd, ← htx, ← hPL]; rfl
    rw [htx] at hcs
    have HLOW : Hid (LowP PL) := by simp only [Hid]; rw [← hPL]; exact lowL (by decide) (by omega) HC.out
    have hPLl : PL.length ≤ 200 := by rw [← hPL, partsL_len]; omega
    have HPT : ∀ W, Sp W B5 d5 S → Hid (Calls Tryz.prog 40 #[.slice B5 S.length d5, .int .i64 ln, .string ⟨#[97, 112, 112, 108, 105, 99, 97, 116, 105, 111, 110, 47, 111, 99, 116, 101, 116, 45, 115, 116, 114, 101, 97, 109]⟩, .string ⟨bd.toArray⟩] W (RetPts PL W)) := fun W hs => by
      have h := rparts_yes B5 d5 S ln [97, 112, 112, 108, 105, 99, 97, 116, 105, 111, 110, 47, 111, 99, 116, 101, 116, 45, 115, 116, 114, 101, 97, 109] bd W hs (by omega) (by omega) (fun x hx => (HC.out x hx).1) kind_ok HBO.out
      rw [hPL] at h
      exact Lib.hid h
    have hS0b : ((S.length : Int) == 0) = false := by rw [beq_eq_false_iff_ne]; omega
    have hS1b : ((S.length : Int) == 1) = false := by rw [beq_eq_false_iff_ne]; omega
    obtain ⟨g, cur, hg1, hg2⟩ := HP5.out.row (by omega)
    subst hg1
    have hgne : g ≠ BA := blk_ne hg2 HD5.out.ab (by decide)
    clear hbd htx hPL hS0 hS1 HC HBO
    have a0 := blk_cell (i := 0) HD5.out.ab rfl
    have af0 : w5.frozen? ⟨BA, 0, none⟩ = false := blk_frozen HD5.out.ab
    have a1 := blk_cell (i := 1) HD5.out.ab rfl
    have af1 : w5.frozen? ⟨BA, 1, none⟩ = false := blk_frozen HD5.out.ab
    have a2 := blk_cell (i := 2) HD5.out.ab rfl
    have af2 : w5.frozen? ⟨BA, 2, none⟩ = false := blk_frozen HD5.out.ab
    have a3 := blk_cell (i := 3) HD5.out.ab rfl
    have af3 : w5.frozen? ⟨BA, 3, none⟩ = false := blk_frozen HD5.out.ab
    have az := blk_lt HD5.out.ab
    go_upto_region 22 with fail
    clear a0 af0 a1 af1 a2 af2 a3 af3 az
    obtain ⟨W6, hWn⟩ : ∃ W, w5.setCell ⟨BA, 0, none⟩ (.int .i64 206) = W := ⟨_, rfl⟩
    have HD6 : Hid (ShapeSt w B1 B2 B3 #[.bool hd, .string ob, .slice A L.length c, .slice A1 n1 c1, .slice A2 n2 c2, .bool am, .bool an, .int .i64 si, .int .i64 un, .string rt, .bool rw'] #[.string ⟨tg.toArray⟩, .bool wk, .int .i64 mo, .int .i64 ln, .int .i64 hv, .int .i64 fr, .int .i64 wh, .int .i64 er, .slice KA ks.length kc, .string ⟨tn.toArray⟩, .bool kp] #[.int .i64 j0, .int .i64 j1, .int .i64 j2, .int .i64 cs, .int .i64 j4, .int .i64 j5, .int .i64 j6, .int .i64 j7, .int .i64 j8, .int .i64 j9] #[.int .i64 206, .slice FA FL.length fc, .slice none 0 0, .int .i64 0] BA W6) := by simp only [Hid]; rw [← hWn]; exact HD5.out.set 0 _
    have HF6 : Hid (SpT 78 encFd 2 W6 FA fc FL) := by simp only [Hid]; rw [← hWn]; exact SpT.setAt HD5.out HF5.out (by decide)
    have HP6 : Hid (Sp W6 (some ⟨g, 0, none⟩) d5 S) := by simp only [Hid]; rw [← hWn]; exact (own_heap HP5.out (blk_set_ne hgne hg2 |>.trans hg2.symm)).sp
    rw [hWn]
    clear hWn
    clear HD5 HF5 HP5 hg2 hgne
    go_upto_region 25 with fail
    --T4A
    have m3 := blk_cell (i := 3) HD6.out.mb rfl
    have mz := blk_lt HD6.out.mb
    go_upto_region 27 with (first
      | (go_at_call 40; refine (HPT _ HP6.out).out.mono ?_; rintro e w7 ⟨AP, cP, kP, hkP, rfl, hoP, h7⟩
         have HD7 := Lib.hid (HD6.out.below h7)
         have HF7 := Lib.hid (HF6.out.below h7)
         have HPP := Lib.hid (OwnG.spt elemPt.len hoP)
         have v2 := blk_cell (i := 2) HD7.out.ab rfl
         have vf2 := blk_frozen (i := 2) HD7.out.ab
         have vz := blk_lt HD7.out.ab
         clear h7 hoP)
      | (go_at_call 39; refine (HBY _).out.mono ?_; rintro e wb ⟨rfl, hwb⟩; obtain rfl : W6 = wb := hwb.symm))
    --T4B
    subst hkP
    clear v2 vf2 vz m3 mz HD6 HF6 HP6
    obtain ⟨W8, hWn⟩ : ∃ W, w7.setCell ⟨BA, 2, none⟩ (.slice AP PL.length cP) = W := ⟨_, rfl⟩
    have HD8 : Hid (ShapeSt w B1 B2 B3 #[.bool hd, .string ob, .slice A L.length c, .slice A1 n1 c1, .slice A2 n2 c2, .bool am, .bool an, .int .i64 si, .int .i64 un, .string rt, .bool rw'] #[.string ⟨tg.toArray⟩, .bool wk, .int .i64 mo, .int .i64 ln, .int .i64 hv, .int .i64 fr, .int .i64 wh, .int .i64 er, .slice KA ks.length kc, .string ⟨tn.toArray⟩, .bool kp] #[.int .i64 j0, .int .i64 j1, .int .i64 j2, .int .i64 cs, .int .i64 j4, .int .i64 j5, .int .i64 j6, .int .i64 j7, .int .i64 j8, .int .i64 j9] #[.int .i64 206, .slice FA FL.length fc, .slice AP PL.length cP, .int .i64 0] BA W8) := by simp only [Hid]; rw [← hWn]; exact HD7.out.set 2 _
    have HF8 : Hid (SpT 78 encFd 2 W8 FA fc FL) := by simp only [Hid]; rw [← hWn]; exact SpT.setAt HD7.out HF7.out (by decide)
    have HP8 : Hid (SpT 65 encPt 3 W8 AP cP PL) := by simp only [Hid]; rw [← hWn]; exact SpT.setAt HD7.out HPP.out (by decide)
    rw [hWn]
    clear hWn
    have v2 := blk_cell (i := 2) HD8.out.ab rfl
    have vz := blk_lt HD8.out.ab
    go_upto_region 28 with (first
      | (go_at_call 41; refine (rsize_any AP cP PL.length PL _ rfl HP8.out.sp (by omega) HLOW.out).mono ?_; rintro e w9 ⟨rfl, h9⟩
         have HD9 := Lib.hid (HD8.out.below h9)
         have HF9 := Lib.hid (HF8.out.below h9)
         have HP9 := Lib.hid (HP8.out.below h9)
         have u3 := blk_cell (i := 3) HD9.out.ab rfl
         have uf3 := blk_frozen (i := 3) HD9.out.ab
         have uz := blk_lt HD9.out.ab
         clear h9))
    --T4C
    clear v2 vz u3 uf3 uz HD8 HF8 HP8 HD7 HF7 HPP
    obtain ⟨W10, hWn⟩ : ∃ W, w9.setCell ⟨BA, 3, none⟩ (.int .i64 (sizeL PL)) = W := ⟨_, rfl⟩
    have HD10 : Hid (ShapeSt w B1 B2 B3 #[.bool hd, .string ob, .slice A L.length c, .slice A1 n1 c1, .slice A2 n2 c2, .bool am, .bool an, .int .i64 si, .int .i64 un, .string rt, .bool rw'] #[.string ⟨tg.toArray⟩, .bool wk, .int .i64 mo, .int .i64 ln, .int .i64 hv, .int .i64 fr, .int .i64 wh, .int .i64 er, .slice KA ks.length kc, .string ⟨tn.toArray⟩, .bool kp] #[.int .i64 j0, .int .i64 j1, .int .i64 j2, .int .i64 cs, .int .i64 j4, .int .i64 j5, .int .i64 j6, .int .i64 j7, .int .i64 j8, .int .i64 j9] #[.int .i64 206, .slice FA FL.length fc, .slice AP PL.length cP, .int .i64 (sizeL PL)] BA W10) := by simp only [Hid]; rw [← hWn]; exact HD9.out.set 3 _
    have HF10 : Hid (SpT 78 encFd 2 W10 FA fc FL) := by simp only [Hid]; rw [← hWn]; exact SpT.setAt HD9.out HF9.out (by decide)
    have HP10 : Hid (SpT 65 encPt 3 W10 AP cP PL) := by simp only [Hid]; rw [← hWn]; exact SpT.setAt HD9.out HP9.out (by decide)
    rw [hWn]
    clear hWn
    have v0 := blk_cell (i := 0) HD10.out.ab rfl
    have v1 := blk_cell (i := 1) HD10.out.ab rfl
    have v2 := blk_cell (i := 2) HD10.out.ab rfl
    have v3 := blk_cell (i := 3) HD10.out.ab rfl
    have vz := blk_lt HD10.out.ab
    clear HD9 HF9 HP9
    go_wp2_with (first
      | (go_at_call 36; refine (rwith_any 206 (sizeL PL) FA fc FL.length FL AP PL.length cP [67, 111, 110, 116, 101, 110, 116, 45, 84, 121, 112, 101] tx _ rfl HF10.out.sp hNF0 (by omega)).mono ?_; rintro e w11 ⟨A9, c9, n9, hn9, rfl, hs9, hb9⟩
         simp only [List.length_append, List.length_cons, List.length_nil, Nat.zero_add] at hn9
         subst hn9
         have HZ9 := Lib.hid (blk_keep hb9 HD10.out.zb)
         have HP11 := Lib.hid (HP10.out.below hb9)
         have z0 := blk_cell (i := 0) HZ9.out rfl
         have zf0 := blk_frozen (i := 0) HZ9.out
         have z1 := blk_cell (i := 1) HZ9.out rfl
         have zf1 := blk_frozen (i := 1) HZ9.out
         have z2 := blk_cell (i := 2) HZ9.out rfl
         have zf2 := blk_frozen (i := 2) HZ9.out
         have z3 := blk_cell (i := 3) HZ9.out rfl
         have zf3 := blk_frozen (i := 3) HZ9.out
         have zz := blk_lt HZ9.out))
    --T4D
    refine bodyPost_ret (by simp [results, Tryz.results13, go_sem, z0, z1, z2, z3]; try rfl) rfl ?_
    have g0 := HZ9.out
    have g1 := blk_set (i := 0) (v := .int .i64 206) g0
    have g2 := blk_set (i := 1) (v := .slice A9 (FL.length + 1) c9) g1
    have g3 := blk_set (i := 2) (v := .slice AP PL.length cP) g2
    have hz := HD10.out.ne.2.2.2.2
    try rw [if_neg HN3.out, if_neg HN4.out]
    refine HRS.out _ HA.out _ _ ⟨A9, c9, FL.length + 1, AP, cP, PL.length, by simp only [List.length_append, List.length_cons, List.length_nil], by first | rfl | (simp only [List.length_cons, List.length_nil]), rfl, ((((hs9.set_ty g0 (by decide) _).set_ty g1 (by decide) _).set_ty g2 (by decide) _).set_ty g3 (by decide) _), ?_, bel_set (bel_set (bel_set (bel_set (bel_chain hb9 HD10.out.bel) hz _) hz _) hz _) hz _⟩
    exact ((((HP11.out.set_ty g0 (by decide) _).set_ty g1 (by decide) _).set_ty g2 (by decide) _).set_ty g3 (by decide) _)
end Go.Proofs.YtaaefgieklkekaaGreatDoor
namespace Go.Proofs.YtaaefgieklkekaaGreatDoor
open Go.RowKit Go.Sort

def tellG (r : ReqL) (m : MetaL) (KA : Option Addr) (kc : Nat) (o : Int) (g : CfgL) (seed : Int) (b : Nat) : List (Value → World → Prop) :=
  [fun v _ => v = .agg (askC r m KA kc o g seed), GA r m o g.cs seed, fun v _ => v = .pointer (some ⟨b, 0, none⟩), fun v _ => v = .agg (reqA r), fun v _ => v = .pointer (some ⟨b, 11, none⟩), fun v _ => v = metaV m KA kc, fun v _ => v = .pointer (some ⟨b, 22, none⟩), fun v _ => v = .int .i64 o, fun v _ => v = .pointer (some ⟨b, 23, none⟩), fun v _ => v = cfgV g.j0 g.j1 g.j2 g.cs g.j4 g.j5 g.j6 g.j7 g.j8 g.j9, fun v _ => v = .pointer (some ⟨b, 33, none⟩), fun v _ => v = .int .i64 seed, GA r m o g.cs seed]
theorem tellG_mono {r : ReqL} {m : MetaL} {KA : Option Addr} {kc : Nat} {o : Int} {g : CfgL} {seed : Int} {b : Nat} : ∀ f ∈ tellG r m KA kc o g seed b, ∀ v w w', f v w → Below w.heap.size w w' → f v w' := by
  intro f hf
  simp only [tellG, List.mem_cons, List.not_mem_nil, or_false] at hf
  rcases hf with rfl | rfl | rfl | rfl | rfl | rfl | rfl | rfl | rfl | rfl | rfl | rfl | rfl
  · exact fun _ _ _ h _ => h
  · exact GA.mono
  · exact fun _ _ _ h _ => h
  · exact fun _ _ _ h _ => h
  · exact fun _ _ _ h _ => h
  · exact fun _ _ _ h _ => h
  · exact fun _ _ _ h _ => h
  · exact fun _ _ _ h _ => h
  · exact fun _ _ _ h _ => h
  · exact fun _ _ _ h _ => h
  · exact fun _ _ _ h _ => h
  · exact fun _ _ _ h _ => h
  · exact GA.mono
set_option maxHeartbeats 32000000 in
set_option maxRecDepth 100000 in
theorem shapeTells_any (r : ReqL) (m : MetaL) (KA : Option Addr) (kc : Nat) (o : Int) (g : CfgL) (seed : Int) (w : World) (hsp : Sp w r.A r.c r.L) (hks : SpG encT 1 w KA kc m.keys) (hcs : (Lit.int .i64 g.cs).wf = true) (hseed : -9223372036854775808 ≤ seed ∧ seed ≤ 9223372036854775807) (henv : Env w) :
    Calls Tryz.prog 3 #[.agg (askC r m KA kc o g seed)] w fun e w' => e = .returned (.bool true) ∧ Below w.heap.size w w' := by
  have HA := fun W e => Lib.hid (alive_any W e)
  have HFI := fun W a b => Lib.hid (fineC_any r m KA kc o g seed W a b)
  have HT1 := fun W a b hf e => Lib.hid (toldC_any r m KA kc o g seed W a b hf hcs hseed e)
  have HSH : ∀ W, Sp W r.A r.c r.L → SpG encT 1 W KA kc m.keys → FineP r m o → Hid (Calls Tryz.prog 13 #[.agg (reqA r), metaV m KA kc, .int .i64 o, cfgV g.j0 g.j1 g.j2 g.cs g.j4 g.j5 g.j6 g.j7 g.j8 g.j9, .int .i64 seed] W fun e w' => ∃ v, e = .returned v ∧ GA r m o g.cs seed v w' ∧ Below W.heap.size W w') := fun W a b hf => by
    refine Lib.hid ((rshape_any r m KA kc o g.j0 g.j1 g.j2 g.cs g.j4 g.j5 g.j6 g.j7 g.j8 g.j9 seed W a hf.all_ hf.few b hf.ok hseed hcs).mono ?_)
    intro e w' h
    obtain ⟨a, hp, A, c, k, B, d, j, rfl, rfl, rfl, h1, h2, h3⟩ := shape_told h
    exact ⟨_, rfl, ⟨a, A, c, B, d, hp, rfl, h1, h2⟩, h3⟩
  have HS := Lib.hid hsp
  have HK := Lib.hid hks
  have HE := Lib.hid henv
  have HSD := Lib.hid hseed
  obtain ⟨C1, hC1⟩ : ∃ C, askC r m KA kc o g seed = C := ⟨_, rfl⟩
  have H1S : Hid (C1.size = 34) := by simp only [Hid]; rw [← hC1]; rfl
  have HC1 := Lib.hid hC1
  rw [hC1] at HFI HT1 ⊢
  clear hsp hks hcs hseed henv hC1
  go_enter Tryz.func3, Tryz.ntmps3
  go_upto_region 3 with (go_at_call 9; refine (HA _ (HE.out.below (bel_alloc (Below.refl _ _) _))).out.mono ?_; rintro e w1 ⟨rfl, hb1⟩)
  have HX1 : Hid (w1.heap[w.heap.size]? = some (.cells C1 36 (0, 0))) := blk_keep hb1 (blk_new rfl)
  have HB1 := Lib.hid (bel_chain hb1 (bel_alloc (Below.refl _ _) _))
  clear hb1
  refine wp_region_lit ?_
  refine wpList_load_blk rfl 36 (.tmp 1) rfl rfl HX1.out _ Tryz.underlying36 rfl (by rw [H1S.out]; exact askSize) ?_
  simp only [Act.put, List.setIfInBounds_toArray, List.set_cons_zero, List.set_cons_succ]
  go_upto_if 7 with (go_at_call 10; refine (HFI _ (HS.out.below HB1.out) (HK.out.below HB1.out)).out.mono ?_; rintro e w2 ⟨b, rfl, hq, hb2⟩)
  have HX2 := Lib.hid (blk_keep hb2 HX1.out)
  have HB2 := Lib.hid (bel_chain hb2 HB1.out)
  clear hb2 HX1 HB1 HFI HA
  cases b with
  | false =>
    clear hq
    go_wp2_with fail
    go_ret
    exact ⟨rfl, HB2.out⟩
  | true =>
  have HF := Lib.hid (hq rfl)
  clear hq
  go_upto_region 5 with fail
  --M1
  refine wp_region_inv (vs0 := fun _ => undef) 13 rfl (by kernel_rfl) [8, 9, 10, 11, 12, 13, 14, 15, 16, 17, 18, 19, 20] (by decide) rfl (RInv w2 (FG (tellG r m KA kc o g seed w.heap.size) w2.heap.size 43 zeroAns) (fun j => decide (13 ≤ j))) (by simp only [puts, Act.put, List.setIfInBounds_toArray, List.set_cons_zero, List.set_cons_succ]) (RInv.start 13 (bel_drew (Below.refl _ _))) ?_ ?_
  · intro i oo li vs wx ho hi hdep hI K hK
    have hmono : ∀ j v w3 w', FG (tellG r m KA kc o g seed w.heap.size) w2.heap.size 43 zeroAns j v w3 → Below w3.heap.size w3 w' → FG (tellG r m KA kc o g seed w.heap.size) w2.heap.size 43 zeroAns j v w' := FG.mono tellG_mono
    have hX := blk_keep hI.bel HX2.out
    have xz := blk_lt hX
    rcases i with _ | _ | _ | _ | _ | _ | _ | _ | _ | _ | _ | _ | _ | i
    · have ho := Option.some.inj ho
      subst ho
      simp only [puts, Act.put, List.setIfInBounds_toArray, List.set_cons_zero, List.set_cons_succ] at hK ⊢
      refine wp_load_blk 36 (.tmp 1) rfl rfl hX _ Tryz.underlying36 rfl (by rw [H1S.out]; exact askSize) ?_
      exact hK.out _ _ (hI.step hmono (Below.refl _ _) rfl (by rw [← HC1.out]; rfl))
    · have ho := Option.some.inj ho
      have e0 : vs 0 = .agg C1 := (hI.facts 0 (hdep ⟨0, .data⟩ (by rw [← ho]; simp) rfl) : vs 0 = .agg (askC r m KA kc o g seed)).trans (by rw [HC1.out])
      have hbb := bel_chain hI.bel HB2.out
      have HC : Hid (Calls Tryz.prog 12 #[vs 0] wx fun e w' => ∃ v, e = .returned v ∧ GA r m o g.cs seed v w' ∧ Below wx.heap.size wx w') := by
        simp only [Hid]; rw [e0]; exact (HT1 _ (HS.out.below hbb) (HK.out.below hbb) HF.out (HE.out.below hbb)).out
      have HI := Lib.hid hI
      have HM := Lib.hid hmono
      clear e0 hbb hI hmono hdep hX
      subst ho
      simp only [puts, Act.put, List.setIfInBounds_toArray, List.set_cons_zero, List.set_cons_succ] at hK ⊢
      go_simp
      refine HC.out.mono ?_
      rintro e wy ⟨v, rfl, hg, hb⟩
      exact hK.out _ _ (HI.out.step HM.out hb rfl hg)
    · have ho := Option.some.inj ho
      subst ho
      simp only [puts, Act.put, List.setIfInBounds_toArray, List.set_cons_zero, List.set_cons_succ] at hK ⊢
      go_simp
      exact hK.out _ _ (hI.step hmono (Below.refl _ _) rfl rfl)
    · have ho := Option.some.inj ho
      have e0 : vs 2 = .pointer (some ⟨w.heap.size, 0, none⟩) := hI.facts 2 (hdep ⟨2, .data⟩ (by rw [← ho]; simp) rfl)
      have x0 : wx.cell? ⟨w.heap.size, 0, none⟩ = some (.bool r.hd) := blk_cell (i := 0) hX (by rw [← HC1.out]; rfl)
      have x1 : wx.cell? ⟨w.heap.size, 1, none⟩ = some (.string r.ob) := blk_cell (i := 1) hX (by rw [← HC1.out]; rfl)
      have x2 : wx.cell? ⟨w.heap.size, 2, none⟩ = some (.slice r.A r.L.length r.c) := blk_cell (i := 2) hX (by rw [← HC1.out]; rfl)
      have x3 : wx.cell? ⟨w.heap.size, 3, none⟩ = some (.slice r.A1 r.n1 r.c1) := blk_cell (i := 3) hX (by rw [← HC1.out]; rfl)
      have x4 : wx.cell? ⟨w.heap.size, 4, none⟩ = some (.slice r.A2 r.n2 r.c2) := blk_cell (i := 4) hX (by rw [← HC1.out]; rfl)
      have x5 : wx.cell? ⟨w.heap.size, 5, none⟩ = some (.bool r.am) := blk_cell (i := 5) hX (by rw [← HC1.out]; rfl)
      have x6 : wx.cell? ⟨w.heap.size, 6, none⟩ = some (.bool r.an) := blk_cell (i := 6) hX (by rw [← HC1.out]; rfl)
      have x7 : wx.cell? ⟨w.heap.size, 7, none⟩ = some (.int .i64 r.si) := blk_cell (i := 7) hX (by rw [← HC1.out]; rfl)
      have x8 : wx.cell? ⟨w.heap.size, 8, none⟩ = some (.int .i64 r.un) := blk_cell (i := 8) hX (by rw [← HC1.out]; rfl)
      have x9 : wx.cell? ⟨w.heap.size, 9, none⟩ = some (.string r.rt) := blk_cell (i := 9) hX (by rw [← HC1.out]; rfl)
      have x10 : wx.cell? ⟨w.heap.size, 10, none⟩ = some (.bool r.rw) := blk_cell (i := 10) hX (by rw [← HC1.out]; rfl)
      have HI := Lib.hid hI
      have HM := Lib.hid hmono
      clear hI hmono hdep hX
      subst ho
      simp only [puts, Act.put, List.setIfInBounds_toArray, List.set_cons_zero, List.set_cons_succ] at hK ⊢
      simp only [Nat.zero_add, Nat.reduceAdd, e0] at hK
      go_simp
      exact hK.out _ _ (HI.out.step HM.out (Below.refl _ _) rfl rfl)
    · have ho := Option.some.inj ho
      subst ho
      simp only [puts, Act.put, List.setIfInBounds_toArray, List.set_cons_zero, List.set_cons_succ] at hK ⊢
      go_simp
      exact hK.out _ _ (hI.step hmono (Below.refl _ _) rfl rfl)
    · have ho := Option.some.inj ho
      have e0 : vs 4 = .pointer (some ⟨w.heap.size, 11, none⟩) := hI.facts 4 (hdep ⟨4, .data⟩ (by rw [← ho]; simp) rfl)
      have x0 : wx.cell? ⟨w.heap.size, 11, none⟩ = some (.string ⟨m.tag.toArray⟩) := blk_cell (i := 11) hX (by rw [← HC1.out]; rfl)
      have x1 : wx.cell? ⟨w.heap.size, 12, none⟩ = some (.bool m.weak) := blk_cell (i := 12) hX (by rw [← HC1.out]; rfl)
      have x2 : wx.cell? ⟨w.heap.size, 13, none⟩ = some (.int .i64 m.mo) := blk_cell (i := 13) hX (by rw [← HC1.out]; rfl)
      have x3 : wx.cell? ⟨w.heap.size, 14, none⟩ = some (.int .i64 m.len) := blk_cell (i := 14) hX (by rw [← HC1.out]; rfl)
      have x4 : wx.cell? ⟨w.heap.size, 15, none⟩ = some (.int .i64 m.hv) := blk_cell (i := 15) hX (by rw [← HC1.out]; rfl)
      have x5 : wx.cell? ⟨w.heap.size, 16, none⟩ = some (.int .i64 m.fresh) := blk_cell (i := 16) hX (by rw [← HC1.out]; rfl)
      have x6 : wx.cell? ⟨w.heap.size, 17, none⟩ = some (.int .i64 m.wh) := blk_cell (i := 17) hX (by rw [← HC1.out]; rfl)
      have x7 : wx.cell? ⟨w.heap.size, 18, none⟩ = some (.int .i64 m.er) := blk_cell (i := 18) hX (by rw [← HC1.out]; rfl)
      have x8 : wx.cell? ⟨w.heap.size, 19, none⟩ = some (.slice KA m.keys.length kc) := blk_cell (i := 19) hX (by rw [← HC1.out]; rfl)
      have x9 : wx.cell? ⟨w.heap.size, 20, none⟩ = some (.string ⟨m.ten.toArray⟩) := blk_cell (i := 20) hX (by rw [← HC1.out]; rfl)
      have x10 : wx.cell? ⟨w.heap.size, 21, none⟩ = some (.bool m.keep) := blk_cell (i := 21) hX (by rw [← HC1.out]; rfl)
      have HI := Lib.hid hI
      have HM := Lib.hid hmono
      clear hI hmono hdep hX
      subst ho
      simp only [puts, Act.put, List.setIfInBounds_toArray, List.set_cons_zero, List.set_cons_succ] at hK ⊢
      simp only [Nat.zero_add, Nat.reduceAdd, e0] at hK
      go_simp
      exact hK.out _ _ (HI.out.step HM.out (Below.refl _ _) rfl rfl)
    · have ho := Option.some.inj ho
      subst ho
      simp only [puts, Act.put, List.setIfInBounds_toArray, List.set_cons_zero, List.set_cons_succ] at hK ⊢
      go_simp
      exact hK.out _ _ (hI.step hmono (Below.refl _ _) rfl rfl)
    · have ho := Option.some.inj ho
      have e0 : vs 6 = .pointer (some ⟨w.heap.size, 22, none⟩) := hI.facts 6 (hdep ⟨6, .data⟩ (by rw [← ho]; simp) rfl)
      have x0 : wx.cell? ⟨w.heap.size, 22, none⟩ = some (.int .i64 o) := blk_cell (i := 22) hX (by rw [← HC1.out]; rfl)
      have HI := Lib.hid hI
      have HM := Lib.hid hmono
      clear hI hmono hdep hX
      subst ho
      simp only [puts, Act.put, List.setIfInBounds_toArray, List.set_cons_zero, List.set_cons_succ] at hK ⊢
      simp only [Nat.zero_add, Nat.reduceAdd, e0] at hK
      go_simp
      exact hK.out _ _ (HI.out.step HM.out (Below.refl _ _) rfl rfl)
    · have ho := Option.some.inj ho
      subst ho
      simp only [puts, Act.put, List.setIfInBounds_toArray, List.set_cons_zero, List.set_cons_succ] at hK ⊢
      go_simp
      exact hK.out _ _ (hI.step hmono (Below.refl _ _) rfl rfl)
    · have ho := Option.some.inj ho
      have e0 : vs 8 = .pointer (some ⟨w.heap.size, 23, none⟩) := hI.facts 8 (hdep ⟨8, .data⟩ (by rw [← ho]; simp) rfl)
      have x0 : wx.cell? ⟨w.heap.size, 23, none⟩ = some (.int .i64 g.j0) := blk_cell (i := 23) hX (by rw [← HC1.out]; rfl)
      have x1 : wx.cell? ⟨w.heap.size, 24, none⟩ = some (.int .i64 g.j1) := blk_cell (i := 24) hX (by rw [← HC1.out]; rfl)
      have x2 : wx.cell? ⟨w.heap.size, 25, none⟩ = some (.int .i64 g.j2) := blk_cell (i := 25) hX (by rw [← HC1.out]; rfl)
      have x3 : wx.cell? ⟨w.heap.size, 26, none⟩ = some (.int .i64 g.cs) := blk_cell (i := 26) hX (by rw [← HC1.out]; rfl)
      have x4 : wx.cell? ⟨w.heap.size, 27, none⟩ = some (.int .i64 g.j4) := blk_cell (i := 27) hX (by rw [← HC1.out]; rfl)
      have x5 : wx.cell? ⟨w.heap.size, 28, none⟩ = some (.int .i64 g.j5) := blk_cell (i := 28) hX (by rw [← HC1.out]; rfl)
      have x6 : wx.cell? ⟨w.heap.size, 29, none⟩ = some (.int .i64 g.j6) := blk_cell (i := 29) hX (by rw [← HC1.out]; rfl)
      have x7 : wx.cell? ⟨w.heap.size, 30, none⟩ = some (.int .i64 g.j7) := blk_cell (i := 30) hX (by rw [← HC1.out]; rfl)
      have x8 : wx.cell? ⟨w.heap.size, 31, none⟩ = some (.int .i64 g.j8) := blk_cell (i := 31) hX (by rw [← HC1.out]; rfl)
      have x9 : wx.cell? ⟨w.heap.size, 32, none⟩ = some (.int .i64 g.j9) := blk_cell (i := 32) hX (by rw [← HC1.out]; rfl)
      have HI := Lib.hid hI
      have HM := Lib.hid hmono
      clear hI hmono hdep hX
      subst ho
      simp only [puts, Act.put, List.setIfInBounds_toArray, List.set_cons_zero, List.set_cons_succ] at hK ⊢
      simp only [Nat.zero_add, Nat.reduceAdd, e0] at hK
      go_simp
      exact hK.out _ _ (HI.out.step HM.out (Below.refl _ _) rfl rfl)
    · have ho := Option.some.inj ho
      subst ho
      simp only [puts, Act.put, List.setIfInBounds_toArray, List.set_cons_zero, List.set_cons_succ] at hK ⊢
      go_simp
      exact hK.out _ _ (hI.step hmono (Below.refl _ _) rfl rfl)
    · have ho := Option.some.inj ho
      have e0 : vs 10 = .pointer (some ⟨w.heap.size, 33, none⟩) := hI.facts 10 (hdep ⟨10, .data⟩ (by rw [← ho]; simp) rfl)
      have x0 : wx.cell? ⟨w.heap.size, 33, none⟩ = some (.int .i64 seed) := blk_cell (i := 33) hX (by rw [← HC1.out]; rfl)
      have HI := Lib.hid hI
      have HM := Lib.hid hmono
      clear hI hmono hdep hX
      subst ho
      simp only [puts, Act.put, List.setIfInBounds_toArray, List.set_cons_zero, List.set_cons_succ] at hK ⊢
      simp only [Nat.zero_add, Nat.reduceAdd, e0] at hK
      go_simp
      exact hK.out _ _ (HI.out.step HM.out (Below.refl _ _) rfl rfl)
    · have ho := Option.some.inj ho
      have e3 : vs 3 = .agg (reqA r) := hI.facts 3 (hdep ⟨3, .data⟩ (by rw [← ho]; simp) rfl)
      have e5 : vs 5 = metaV m KA kc := hI.facts 5 (hdep ⟨5, .data⟩ (by rw [← ho]; simp) rfl)
      have e7 : vs 7 = .int .i64 o := hI.facts 7 (hdep ⟨7, .data⟩ (by rw [← ho]; simp) rfl)
      have e9 : vs 9 = cfgV g.j0 g.j1 g.j2 g.cs g.j4 g.j5 g.j6 g.j7 g.j8 g.j9 := hI.facts 9 (hdep ⟨9, .data⟩ (by rw [← ho]; simp) rfl)
      have e11 : vs 11 = .int .i64 seed := hI.facts 11 (hdep ⟨11, .data⟩ (by rw [← ho]; simp) rfl)
      have hbb := bel_chain hI.bel HB2.out
      have HC : Hid (Calls Tryz.prog 13 #[vs 3, vs 5, vs 7, vs 9, vs 11] wx fun e w' => ∃ v, e = .returned v ∧ GA r m o g.cs seed v w' ∧ Below wx.heap.size wx w') := by
        simp only [Hid]; rw [e3, e5, e7, e9, e11]; exact (HSH _ (HS.out.below hbb) (HK.out.below hbb) HF.out).out
      have HI := Lib.hid hI
      have HM := Lib.hid hmono
      clear e3 e5 e7 e9 e11 hbb hI hmono hdep hX
      subst ho
      simp only [puts, Act.put, List.setIfInBounds_toArray, List.set_cons_zero, List.set_cons_succ] at hK ⊢
      go_simp
      refine HC.out.mono ?_
      rintro e wy ⟨v, rfl, hg, hb⟩
      exact hK.out _ _ (HI.out.step HM.out hb rfl hg)
    · omega
  intro li vs w6 hall hI
  have e17 : GA r m o g.cs seed (vs 1) w6 := hI.facts 1 (hall 1 (by decide))
  have e19 : GA r m o g.cs seed (vs 12) w6 := hI.facts 12 (hall 12 (by decide))
  have hb5 := hI.bel
  clear hall hI
  obtain ⟨a1, A1, c1, B1, d1, hP1, e1, hf1, hp1⟩ := e17
  obtain ⟨a2, A2, c2, B2, d2, hP2, e3, hf2, hp2⟩ := e19
  simp only [puts, Act.put, List.setIfInBounds_toArray, List.set_cons_zero, List.set_cons_succ, List.drop_succ_cons, List.drop_zero]
  rw [e1, e3]
  generalize vs 0 = x0
  generalize vs 2 = x2
  generalize vs 3 = x3
  generalize vs 4 = x4
  generalize vs 5 = x5
  generalize vs 6 = x6
  generalize vs 7 = x7
  generalize vs 8 = x8
  generalize vs 9 = x9
  generalize vs 10 = x10
  generalize vs 11 = x11
  clear e1 e3
  --M5
  have hl1 := hP1.len HF.out.few
  have hl2 := hP2.len HF.out.few
  have hS := AnsP.seeds (fun x hx => (resL_in HF.out.ok.hv.1 HF.out.all_ hx).2.1) HSD.out HSD.out hP1 hP2
  have HQ := Lib.hid (hS.2.2.2.2.2 (.inr rfl))
  have HF1 := Lib.hid hf1.sp
  have HF2 := Lib.hid hf2.sp
  have HP1 := Lib.hid hp1.sp
  have HP2 := Lib.hid hp2.sp
  have HL4 := Lib.hid hS.2.2.2.1
  have HB6 := Lib.hid (bel_chain hb5 HB2.out)
  clear hP1 hP2 hf1 hf2 hp1 hp2 hb5 hS HX2 HB2 HT1 HSH
  obtain ⟨st, F1, P1, sz⟩ := a1
  obtain ⟨st2, F2, P2, sz2⟩ := a2
  dsimp only at HF1 HF2 HP1 HP2 hl1 hl2 HQ HL4 ⊢
  have HL := Lib.hid hl1
  have HL2 := Lib.hid hl2
  clear hl1 hl2
  go_wp2_with (go_at_call 11; refine (same15_any st sz st2 sz2 A1 F1.length c1 B1 P1.length d1 A2 F2.length c2 B2 P2.length d2 F1 F2 P1 P2 _ rfl rfl rfl rfl HF1.out HF2.out HP1.out HP2.out HL.out.1 HL2.out.1 HL.out.2).mono ?_; rintro e w7 ⟨⟨v, rfl, hv⟩, hb7⟩; obtain rfl : v = true := hv.2 HQ.out)
  go_ret
  exact ⟨rfl, bel_chain hb7 HB6.out⟩
end Go.Proofs.YtaaefgieklkekaaGreatDoor
