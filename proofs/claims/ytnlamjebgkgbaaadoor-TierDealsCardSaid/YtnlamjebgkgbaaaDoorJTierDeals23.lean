/- Contract of the ring's owners. -/
import Derived.Test.YtnlamjebgkgbaaaDoorJTierDeals22
import Derived.Test.YtnlamjebgkgbaaaDoorJTierDeals17
import Derived.Deep.DeepMust
import Derived.Test.YtnlamjebgkgbaaaDoorJTierDeals16
import Derived.Test.YtnlamjebgkgbaaaDoorJTierDeals15
namespace Go.Proofs.YtnlamjebgkgbaaaDoor
open Go.RowKit Go.Shelf Go.Sort

def setM (R : List (List UInt8)) : List (List UInt8 × Bool) := R.map fun n => (n, true)
theorem lookM_set (R : List (List UInt8)) (k : List UInt8) : lookM (setM R) k = if k ∈ R then some true else none := by
  induction R with
  | nil => rfl
  | cons x R ih =>
    unfold setM at *
    rw [List.map_cons, lookM]
    by_cases h : x = k
    · simp [h]
    · rw [if_neg h, ih]
      have : ¬ k = x := fun e => h e.symm
      simp [this]
theorem putM_set {R : List (List UInt8)} {k : List UInt8} (h : k ∉ R) : putM (setM R) k true = setM (R ++ [k]) := by
  induction R with
  | nil => rfl
  | cons x R ih =>
    unfold setM at *
    simp only [List.mem_cons, not_or] at h
    rw [List.map_cons, putM, if_neg (fun e => h.1 e.symm), ih h.2]
    simp
section
variable {α β γ : Type} {enc : α → Value} {vf : β → Value} {w w' : World} {b : Nat} {M : List (α × β)}
theorem MapAt.grown {T : TypeId} {en : γ → List Value} {n base c : Nat} {A : Option Addr} {L : List γ} (h : MapAt enc vf w b M) (hown : OwnG T en n w base A c L) (hg : w.grownBy w' (Value.slice A L.length c).ownBlock) : MapAt enc vf w' b M := by
  obtain ⟨es, ck, h1, h2⟩ := h.at_
  refine ⟨es, ck, ?_, h2⟩
  rw [← h1]
  refine hg.block b h.lt ?_
  intro e
  rcases hown.2 with ⟨hv, _⟩ | ⟨g, cap, cur, hv, _, hc, _⟩
  · rw [hv] at e; simp [Value.ownBlock] at e
  · rw [hv] at e
    simp [Value.ownBlock] at e
    subst e
    exact absurd rfl (h.ne_cells hc)
theorem OwnG.withObj {T : TypeId} {en : γ → List Value} {n base c : Nat} {A : Option Addr} {L : List γ} (h : OwnG T en n w base A c L) (hm : MapAt enc vf w b M) (o : Obj) : OwnG T en n (withObj w b o) base A c L := by
  refine ⟨h.1, ?_⟩
  rcases h.2 with h2 | ⟨g, cap, cur, h1, h2, h3, h4⟩
  · exact .inl h2
  · exact .inr ⟨g, cap, cur, h1, h2, by rw [withObj_ne w o (hm.ne_cells h3)]; exact h3, h4⟩
end
/-- The names of a ring: how many. -/
def NamesAt (w : World) (nm : Option Nat) (m : Nat) : Prop := (nm = none ∧ m = 0) ∨ ∃ b, nm = some b ∧ ∃ M : List (List UInt8 × Int), MapAt (fun l : List UInt8 => Value.string ⟨l.toArray⟩) (fun n : Int => Value.int .i64 n) w b M ∧ M.length = m
theorem NamesAt.below {w w' : World} {nm : Option Nat} {m : Nat} (h : NamesAt w nm m) (hb : Below w.heap.size w w') : NamesAt w' nm m := by
  rcases h with h | ⟨b, hn, M, h1, h2⟩
  · exact .inl h
  · exact .inr ⟨b, hn, M, h1.below hb, h2⟩
/-- A ring as it is read. -/
structure RingAt (w : World) (r m : Nat) (L : List Pt) (nm : Option Nat) (A : Option Addr) (c : Nat) : Prop where
  blk : w.heap[r]? = some (.cells #[.int .i64 16, .map nm, .slice A L.length c] 95 (0, 0))
  sp : SpPt w A L
  names : NamesAt w nm m
theorem RingAt.below {w w' : World} {r m : Nat} {L : List Pt} {nm : Option Nat} {A : Option Addr} {c : Nat} (h : RingAt w r m L nm A c) (hb : Below w.heap.size w w') : RingAt w' r m L nm A c :=
  ⟨blk_keep hb h.blk, h.sp.below hb, h.names.below hb⟩
/-- A slice of texts. -/
def RetT (R : List (List UInt8)) (w : World) (e : Ending) (w' : World) : Prop := ∃ A c, e = .returned (.slice A R.length c) ∧ SpG encT 1 w' A c R ∧ Below w.heap.size w w'
theorem keyTx : KeyEnc .string (fun l : List UInt8 => Value.string ⟨l.toArray⟩) := keyText
theorem rot_at {L : List Pt} {f k q : Nat} (hf : f ≤ L.length) (hk : k < L.length) (hq : (f + k) % L.length = q) : ∃ h : q < L.length, (rotL L f)[k]'(by unfold rotL; simp; omega) = L[q] := by
  have hq' : q < L.length := by rw [← hq]; exact Nat.mod_lt _ (by omega)
  refine ⟨hq', ?_⟩
  unfold rotL
  by_cases h : f + k < L.length
  · have : q = f + k := by rw [← hq]; exact Nat.mod_eq_of_lt h
    subst this
    rw [List.getElem_append_left (by simp; omega)]
    simp
  · have : q = f + k - L.length := by
      rw [← hq, Nat.mod_eq_sub_mod (by omega)]
      exact Nat.mod_eq_of_lt (by omega)
    subst this
    rw [List.getElem_append_right (by simp; omega)]
    simp only [List.getElem_take]
    congr 1
    simp; omega
theorem rot_len {L : List Pt} {f : Nat} (hf : f ≤ L.length) : (rotL L f).length = L.length := by unfold rotL; simp; omega
theorem ownersL_len (m : Nat) (R : List Pt) : (ownersL m R).length ≤ m := by
  have : ∀ (R : List Pt) (out : List (List UInt8)), out.length ≤ m → (R.foldl (ownStep m) out).length ≤ m := by
    intro R
    induction R with
    | nil => intro out h; exact h
    | cons x R ih =>
      intro out h
      rw [List.foldl_cons]
      apply ih
      unfold ownStep
      split
      · exact h
      · split
        · exact h
        · simp; omega
  exact this R [] (Nat.zero_le _)
theorem nlen_run {w : World} {nm : Option Nat} {m : Nat} (h : NamesAt w nm m) (ty : TypeId) : (Builtin.len_ #[93] ty #[.map nm]).run Tryd.prog w = .ok (.int .i64 m) w := by
  rcases h with ⟨rfl, rfl⟩ | ⟨b, rfl, M, h1, rfl⟩
  · exact len_nil_run Tryd.underlying93 ty
  · exact len_run Tryd.underlying93 h1 ty
theorem seen_run {w : World} {b : Nat} {R : List (List UInt8)} (h : MapAt (fun l : List UInt8 => Value.string ⟨l.toArray⟩) Value.bool w b (setM R)) (k : List UInt8) (t : Bool) (ht : decide (k ∈ R) = t) :
    (Instr.lookup 99 (.map (some b)) (.string ⟨k.toArray⟩) false).run Tryd.prog w = .ok (.bool t) w := by
  have := look_run (P := Tryd.prog) keyText Tryd.underlying99 Tryd.underlying9 (z := .bool false) (fun w => by simp [Tryd.zeroValue4]) h k false
  rw [lookM_set] at this
  rw [this, ← ht]
  by_cases e : k ∈ R <;> simp [e]
set_option maxHeartbeats 4000000 in
set_option maxRecDepth 100000 in
theorem owners_any (w : World) (r m : Nat) (L : List Pt) (nm : Option Nat) (A : Option Addr) (c : Nat) (o : List UInt8) (n : Nat) (h : RingAt w r m L nm A c) (hso : L.Pairwise ptLe) (hl : L.length ≤ 10000) (ho : o.length ≤ 1000000) (hn : n ≤ 1000000) :
    Calls Tryd.prog 19 #[.pointer (some ⟨r, 0, none⟩), .string ⟨o.toArray⟩, .int .i64 (n : Int)] w (RetT (ownersL (min n m) (rotL L (firstK (hashN o) L))) w) := by
  have HR := Lib.hid h
  have HH := fun W => Lib.hid (hash_any o W ho)
  have HB := fun W s => Lib.hid (bsF_any W A c L (hashN o) s hso (by omega))
  have hf := firstK_le (hashN o) L
  have x0 := blk_cell (i := 0) h.blk rfl
  have x1 := blk_cell (i := 1) h.blk rfl
  have x2 := blk_cell (i := 2) h.blk rfl
  have xz := blk_lt h.blk
  obtain ⟨f, hfe⟩ : ∃ f, firstK (hashN o) L = f := ⟨_, rfl⟩
  rw [hfe] at HB hf ⊢
  clear h hso hfe
  go_enter Tryd.func19, Tryd.ntmps19
  go_wp2_with fail
  go_region_held3 (fun w' => w'.cell? ⟨r, 2, none⟩ = some (.slice A L.length c))
    (first | exact x2 | exact x2' | exact x2'' | fail)
    (first
      | (go_at_call 34; refine (HH _).out.mono ?_; rintro e w1 ⟨rfl, rfl⟩)
      | (go_at_call 33; refine (HB _ (by first | exact HR.out.sp | exact HR.out.sp.below (by (repeat (first | exact Below.refl _ _ | refine bel_drewN ?_ _ | refine bel_drew ?_ | refine bel_alloc ?_ _ | refine bel_set ?_ (by simp) _))))).out.mono ?_; rintro e w2 ⟨bq, rfl, hb2⟩; have x2'' := cell_keep hb2 (show World.cell? _ ⟨r, 2, none⟩ = _ from x2)))
  have HB2 : Hid (Below w.heap.size w w2) := bel_chain hb2 (by (repeat (first | exact Below.refl _ _ | refine bel_drewN ?_ _ | refine bel_drew ?_ | refine bel_alloc ?_ _ | refine bel_set ?_ (by simp) _)))
  have HR2 := Lib.hid (HR.out.below HB2.out)
  have y1 := blk_cell (i := 1) HR2.out.blk rfl
  have y2 := blk_cell (i := 2) HR2.out.blk rfl
  have yz := blk_lt HR2.out.blk
  clear hb2 x2'' x0 x1 x2 xz HH HB HR
  have hmm := @run_makeMap Tryd.prog
  go_wp2_with fail
  go_loopw [9, 11, 12, 29] (fun so _ _ si wr => ∃ (k : Nat) (A' : Option Addr) (c' : Nat), k ≤ L.length ∧ si = .int .i64 k ∧ so = .slice A' (ownersL (min n m) ((rotL L f).take k)).length c' ∧ OwnG 9 encT 1 wr w2.heap.size A' c' (ownersL (min n m) ((rotL L f).take k)) ∧ MapAt (fun l : List UInt8 => Value.string ⟨l.toArray⟩) Value.bool wr w2.heap.size (setM (ownersL (min n m) ((rotL L f).take k))) ∧ Below w2.heap.size w2 wr) (fun _ _ _ si _ => L.length - (intOf si).toNat)
  case atStart => exact ⟨0, none, 0, Nat.zero_le _, rfl, rfl, OwnG.nil _ _, MapAt.new _, bel_alloc (Below.refl _ _) _⟩
  case round =>
    obtain ⟨k, A', c', hk, rfl, rfl, hown, hmap, hb⟩ := hrel
    have hrl := rot_len hf
    have hml := ownersL_len (min n m) ((rotL L f).take k)
    have HDN := Lib.hid (fun h => ownersL_done (m := min n m) (k := k) (R := rotL L f) h)
    have HNX := Lib.hid (fun h => ownersL_step (m := min n m) (k := k) (R := rotL L f) h)
    have HTK : Hid (¬ k < L.length → ownersL (min n m) (rotL L f) = ownersL (min n m) ((rotL L f).take k)) := fun h => by rw [List.take_of_length_le (by omega)]
    obtain ⟨R, hR⟩ : ∃ R, ownersL (min n m) ((rotL L f).take k) = R := ⟨_, rfl⟩
    rw [hR] at hown hmap hml HDN HNX HTK ⊢
    have HO := Lib.hid hown
    have HM := Lib.hid hmap
    have HB := Lib.hid hb
    have HRr := Lib.hid (HR2.out.below hb)
    have z1 := blk_cell (i := 1) HRr.out.blk rfl
    have z2 := blk_cell (i := 2) HRr.out.blk rfl
    have zz := blk_lt HRr.out.blk
    clear hown hmap hb hR
    have hnl := nlen_run HRr.out.names 3
    by_cases hlt : k < L.length
    · by_cases hfull : min n m ≤ R.length
      · have hfull' : min (n : Int) (m : Int) ≤ (R.length : Int) := by omega
        have HD := Lib.hid (HDN.out hfull)
        go_wp2_with fail
        go_ret
        rw [HD.out]
        exact ⟨A', c', rfl, HO.out.spg (fun _ => rfl), bel_chain HB.out HB2.out⟩
      · have hfull' : ¬ min (n : Int) (m : Int) ≤ (R.length : Int) := by omega
        have hRl : R.length < 1000000 := by omega
        obtain ⟨q, hq⟩ : ∃ q, (f + k) % L.length = q := ⟨_, rfl⟩
        obtain ⟨hql, hxq⟩ := rot_at hf hlt hq
        have hx := HNX.out (by omega)
        rw [hxq] at hx
        obtain ⟨b, off, e, hbl, c1, c2⟩ := HRr.out.sp.at' q hql
        obtain ⟨⟨x1, x2⟩, hxx⟩ : ∃ x, L[q] = x := ⟨_, rfl⟩
        rw [hxx] at c1 c2 hx
        simp only at c1 c2
        have HX := Lib.hid hx
        have i2 : ((f : Int) + (k : Int)) % (L.length : Int) = (q : Int) := by exact_mod_cast hq
        have i1 : Int.tmod ((f : Int) + (k : Int)) (L.length : Int) = (q : Int) := by rw [Int.tmod_eq_emod_of_nonneg (by omega)]; exact i2
        have i0 : (0 : Int) ≤ (f : Int) + (k : Int) := by omega
        have i3 : (q : Int) < (L.length : Int) := by omega
        have i4 : ((L.length : Int) == 0) = false := by rw [beq_eq_false_iff_ne]; omega
        have i5 : ¬ (L.length : Int) = 0 := by omega
        have wfk : IntKind.i64.wrap ((f : Int) + (k : Int)) = (f : Int) + (k : Int) := IntWalk.i64_in _ (by omega)
        have hrem : Op.intDiv .rem .i64 ((f : Int) + (k : Int)) (L.length : Int) = pure (.int .i64 (q : Int)) := by unfold Op.intDiv; rw [if_neg i5]; simp [i1]
        have hLne : ¬ L = [] := fun h0 => by rw [h0] at hlt; simp at hlt
        subst e
        clear hx hxq hxx hq HDN HNX HTK
        go_wp2_with fail
        go_region_held3 (fun w' => w'.cell? ⟨r, 2, none⟩ = some (.slice (some ⟨b, off, none⟩) L.length c) ∧ w'.cell? ⟨b, off + q * 2, none⟩ = some (.int .u64 (x1 : Int)) ∧ w'.cell? ⟨b, off + q * 2 + 1, none⟩ = some (.string ⟨x2.toArray⟩))
          (first | exact ⟨z2, c1, c2⟩ | exact ⟨cell_keep (W := wr) (by (repeat (first | exact Below.refl _ _ | refine bel_drewN ?_ _ | refine bel_drew ?_ | refine bel_alloc ?_ _ | refine bel_set ?_ (by simp) _))) z2, cell_keep (W := wr) (by (repeat (first | exact Below.refl _ _ | refine bel_drewN ?_ _ | refine bel_drew ?_ | refine bel_alloc ?_ _ | refine bel_set ?_ (by simp) _))) c1, cell_keep (W := wr) (by (repeat (first | exact Below.refl _ _ | refine bel_drewN ?_ _ | refine bel_drew ?_ | refine bel_alloc ?_ _ | refine bel_set ?_ (by simp) _))) c2⟩ | fail)
          (fail)
        have HD1 : Hid (x2 ∈ R → ownersL (min n m) ((rotL L f).take (k + 1)) = R) := fun hin => by rw [HX.out]; unfold ownStep; rw [if_neg hfull, if_pos hin]
        have HD2 : Hid (x2 ∉ R → ownersL (min n m) ((rotL L f).take (k + 1)) = R ++ [x2]) := fun hin => by rw [HX.out]; unfold ownStep; rw [if_neg hfull, if_neg hin]
        clear z1 z2 zz c1 c2 hbl i1 i2 i3 i4 i5 i0 hrem wfk hLne hnl hfull hfull' y1 y2 yz HX HRr
        obtain ⟨W3, hW3⟩ : ∃ W3, (World.alloc wr (.cells #[.int .u64 (x1 : Int), .string ⟨x2.toArray⟩] 92)).drew = W3 := ⟨_, rfl⟩
        have hb3 : Below wr.heap.size wr W3 := by rw [← hW3]; (repeat (first | exact Below.refl _ _ | refine bel_drewN ?_ _ | refine bel_drew ?_ | refine bel_alloc ?_ _ | refine bel_set ?_ (by simp) _))
        have B3 : Hid (W3.heap[wr.heap.size]? = some (.cells #[.int .u64 (x1 : Int), .string ⟨x2.toArray⟩] 92 (0, 0))) := by simp only [Hid]; rw [← hW3]; exact blk_drew (blk_new rfl)
        have d1 : W3.cell? ⟨wr.heap.size, 1, none⟩ = some (.string ⟨x2.toArray⟩) := blk_cell B3.out rfl
        have dz : wr.heap.size < W3.heap.size := blk_lt B3.out
        have HM3 := Lib.hid (HM.out.below hb3)
        have HO3 := Lib.hid (HO.out.below hb3)
        have HB3 := Lib.hid (bel_chain hb3 HB.out)
        have HLT := Lib.hid (World.ownsRow.lt HO.out)
        rw [hW3]
        clear hW3 hb3 HM HO HB
        by_cases hin : x2 ∈ R
        · have hs := seen_run HM3.out x2 true (by simp [hin])
          have HD := Lib.hid (HD1.out hin)
          go_wp2_with fail
          go_roundw
          case rel => exact ⟨k + 1, A', c', by omega, by go_num, by rw [HD.out], by rw [HD.out]; exact HO3.out, by rw [HD.out]; exact HM3.out, HB3.out⟩
          case measure => simp [intOf]; omega
        · have hs := seen_run HM3.out x2 false (by simp [hin])
          have HD := Lib.hid (HD2.out hin)
          have HIN := Lib.hid hin
          clear hin
          go_wp2_with (at_builtin; go_must (refine wplG_append (w0 := w2) elemT rfl (.tmp 62) (.tmp 65) rfl A' c' R rfl (HO3.out.alloc _) (some ⟨W3.heap.size, 0, none⟩) 1 [x2] rfl (SpG.built (enc := encT) (n := 1) elemT.len W3 [x2] #[.string ⟨x2.toArray⟩] rfl 9) (by simp) (by simp; omega) (bel_alloc HB3.out _) ?_; intro A5 c5 w5 hown5 hbw5 hg5; have B5 : Hid (w5.heap[wr.heap.size]? = some (.cells #[.int .u64 (x1 : Int), .string ⟨x2.toArray⟩] 92 (0, 0))) := (hg5.block wr.heap.size (by simp; omega) (fun e => by have := (HLT.out _ e.symm).2; omega)).trans (blk_skip B3.out); have d5 : w5.cell? ⟨wr.heap.size, 1, none⟩ = some (.string ⟨x2.toArray⟩) := blk_cell B5.out rfl; obtain ⟨ob, hpr, hM6⟩ := put_run (P := Tryd.prog) keyText Tryd.underlying99 Tryd.underlying9 ((HM3.out.below (bel_alloc (Below.refl _ _) _)).grown (HO3.out.alloc _) hg5) x2 true; rw [putM_set HIN.out] at hM6))
          go_roundw
          case rel => exact ⟨k + 1, A5, c5, by omega, by go_num, by rw [HD.out, List.length_append]; rfl, by rw [HD.out]; exact hown5.withObj ((HM3.out.below (bel_alloc (Below.refl _ _) _)).grown (HO3.out.alloc _) hg5) _, by rw [HD.out]; exact hM6, bel_with hbw5 (Nat.le_refl _) _⟩
          case measure => simp [intOf]; omega
    · have HD := Lib.hid (HTK.out hlt)
      go_wp2_with fail
      go_ret
      rw [HD.out]
      exact ⟨A', c', rfl, HO.out.spg (fun _ => rfl), bel_chain HB.out HB2.out⟩
end Go.Proofs.YtnlamjebgkgbaaaDoor
