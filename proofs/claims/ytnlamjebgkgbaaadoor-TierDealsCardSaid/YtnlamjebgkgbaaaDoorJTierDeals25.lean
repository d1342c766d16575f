/- Contract of a ring's Add. Contract of tier.New. Contracts of a tier's small functions: parental, Down, Parents. -/
import Derived.Test.YtnlamjebgkgbaaaDoorJTierDeals24
import Derived.Deep.RegionLaw
namespace Go.Proofs.YtnlamjebgkgbaaaDoor
open Go.RowKit Go.Shelf Go.Sort

theorem grown_setA (W : World) (p : Addr) (v : Value) : W.grownBy (W.setCell p v) (some p.block) := by
  have h := Below.setCell (Below.refl 0 W) (p := p) (Nat.zero_le _) v
  exact ⟨h.os, h.tape, h.output, h.size, fun k _ hne => Below.heap_setCell W p v k (by intro e; exact hne (by rw [e]))⟩
section
variable {α β γ : Type} {enc : α → Value} {vf : β → Value} {w w' : World} {b r i base c n : Nat} {M : List (α × β)} {T T' : TypeId} {en : γ → List Value} {A : Option Addr} {L : List γ} {cs : Array Value} {f : Nat × Nat}
/-- A row's block is of its own type. -/
theorem OwnG.ne_type (h : OwnG T en n w base A c L) (hr : w.heap[r]? = some (.cells cs T' f)) (hT : T ≠ T') : (Value.slice A L.length c).ownBlock ≠ some r := by
  intro e
  rcases h.2 with ⟨hv, _⟩ | ⟨g, cap, cur, hv, _, hg, _⟩
  · rw [hv] at e; simp [Value.ownBlock] at e
  · rw [hv] at e
    simp [Value.ownBlock] at e
    subst e
    rw [hg] at hr
    injection hr with hr
    injection hr with h1 h2 h3
    exact hT h2
theorem OwnG.setAt (h : OwnG T en n w base A c L) (hr : w.heap[r]? = some (.cells cs T' f)) (hT : T ≠ T') (v : Value) : OwnG T en n (w.setCell ⟨r, i, none⟩ v) base A c L :=
  World.ownsRow.kept h (grown_setA w ⟨r, i, none⟩ v) (.inr (h.ne_type hr hT))
theorem blk_grown {o : Obj} (hr : w.heap[r]? = some o) (hg : w.grownBy w' (Value.slice A L.length c).ownBlock) (hne : (Value.slice A L.length c).ownBlock ≠ some r) : w'.heap[r]? = some o :=
  (hg.block r (blk_lt hr) (fun e => hne e.symm)).trans hr
theorem MapAt.setAt (h : MapAt enc vf w b M) (hr : w.heap[r]? = some (.cells cs T' f)) (v : Value) : MapAt enc vf (w.setCell ⟨r, i, none⟩ v) b M := by
  obtain ⟨es, ck, h1, h2⟩ := h.at_
  exact ⟨es, ck, (Below.heap_setCell w _ v b (fun e => (h.ne_cells hr) e.symm)).trans h1, h2⟩
theorem blk_with {o o' : Obj} (hr : w.heap[r]? = some o') (hm : r ≠ b) : (withObj w b o).heap[r]? = some o' := (withObj_ne w o hm).trans hr
end
theorem Tryd.ptInfo : (Tryd.prog.info? 92).map (fun i => (i.zero, i.size, i.bytes)) = some (some (.agg #[.int .u64 0, .string ⟨#[]⟩]), 2, 24) := by kernel_rfl
set_option maxRecDepth 100000 in
theorem elemP : ElemK Tryd.prog encP 2 92 89 24 where
  und := Tryd.underlying89
  info := by
    obtain ⟨i0, hi, hz0, hz1, hz2⟩ := info_parts Tryd.ptInfo
    exact ⟨i0, _, hi, hz0, hz1, hz2, rfl⟩
  pos := by decide
  small := by decide
  len _ := rfl
  one _ v hv := by simp [encP] at hv; rcases hv with rfl | rfl <;> rfl
theorem OwnPt.g {w : World} {base c : Nat} {A : Option Addr} {L : List Pt} (h : OwnPt w base A c L) : OwnG 92 encP 2 w base A c L := h
theorem OwnG.pt {w : World} {base c : Nat} {A : Option Addr} {L : List Pt} (h : OwnG 92 encP 2 w base A c L) : OwnPt w base A c L := h
/-- A name's points. -/
def ptsOf (name : List UInt8) : List Pt := (List.range 16).map fun i => (hashN (Lib.decDigits i ++ 35 :: name), name)
theorem ptsOf_len (name : List UInt8) : (ptsOf name).length = 16 := by simp [ptsOf]
theorem ptsOf_step {name : List UInt8} {k : Nat} (h : k < 16) : (ptsOf name).take (k + 1) = (ptsOf name).take k ++ [(hashN (Lib.decDigits k ++ 35 :: name), name)] := by
  rw [List.take_succ_eq_append_getElem (by rw [ptsOf_len]; exact h)]
  simp [ptsOf]
abbrev txE : List UInt8 → Value := fun l => Value.string ⟨l.toArray⟩
abbrev inE : Int → Value := fun n => Value.int .i64 n
/-- A ring of the call's own. -/
structure RingOwn (w : World) (base r : Nat) (M : List (List UInt8 × Int)) (L : List Pt) (nm : Option Nat) (A : Option Addr) (c : Nat) : Prop where
  blk : w.heap[r]? = some (.cells #[.int .i64 16, .map nm, .slice A L.length c] 95 (0, 0))
  own : OwnG 92 encP 2 w base A c L
  names : (nm = none ∧ M = []) ∨ ∃ b, nm = some b ∧ base ≤ b ∧ MapAt txE inE w b M
def AddPost (w0 : World) (r : Nat) (M : List (List UInt8 × Int)) (L : List Pt) (name : List UInt8) (e : Ending) (w' : World) : Prop :=
  e = .returned (.int .i64 0) ∧ ∃ nm A c L', RingOwn w' w0.heap.size r (putM M name 16) L' nm A c ∧ L'.Perm (L ++ ptsOf name) ∧ L'.Pairwise ptLe ∧ Below w0.heap.size w0 w'
set_option maxHeartbeats 4000000 in
set_option maxRecDepth 100000 in
theorem add_any {w0 w : World} {r : Nat} {M : List (List UInt8 × Int)} {L : List Pt} {nm : Option Nat} {A : Option Addr} {c : Nat} (hR : RingOwn w w0.heap.size r M L nm A c) (hr : w0.heap.size ≤ r) (hb : Below w0.heap.size w0 w) (name : List UInt8) (hn : NameOk name) (hno : name ∉ keysM M) (hM : M.length < 64) (hl : L.length ≤ 5000) :
    Calls Tryd.prog 31 #[.pointer (some ⟨r, 0, none⟩), .string ⟨name.toArray⟩, .int .i64 1] w (AddPost w0 r M L name) := by
  have HN := fun W => Lib.hid (rname_any name hn W)
  have hlook : (Instr.lookup 93 (.map nm) (.string ⟨name.toArray⟩) true).run Tryd.prog w = .ok (.tuple #[.int .i64 0, .bool false]) w := by
    rcases hR.names with ⟨rfl, _⟩ | ⟨b, rfl, _, hm⟩
    · exact look_nil (P := Tryd.prog) keyText Tryd.underlying93 Tryd.underlying9 (z := .int .i64 0) (fun w => by simp [Tryd.zeroValue3]) name true
    · have := look_run (P := Tryd.prog) keyText Tryd.underlying93 Tryd.underlying9 (z := .int .i64 0) (fun w => by simp [Tryd.zeroValue3]) hm name true
      rw [lookM_none.2 hno] at this
      exact this
  have hnl : ∀ ty, (Builtin.len_ #[93] ty #[.map nm]).run Tryd.prog w = .ok (.int .i64 M.length) w := fun ty => nlen_run (by
    rcases hR.names with ⟨h1, h2⟩ | ⟨b, h1, _, hm⟩
    · exact .inl ⟨h1, by rw [h2]; rfl⟩
    · exact .inr ⟨b, h1, M, hm, rfl⟩) ty
  have heq : ∀ W, (binOp .eql 93 (.map nm) (.map none)).run Tryd.prog W = .ok (.bool nm.isNone) W := fun W => by
    simp only [binOp]
    simp [run_equal_map_nil W 93 _ _ nm Tryd.underlying93]
  have hne : ((M.length : Int) == 64) = false := by rw [beq_eq_false_iff_ne]; omega
  have HR := Lib.hid hR
  have HB := Lib.hid hb
  have x0 := blk_cell (i := 0) hR.blk rfl
  have x1 := blk_cell (i := 1) hR.blk rfl
  have xf1 := blk_frozen (i := 1) hR.blk
  have xz := blk_lt hR.blk
  clear hR hb
  go_enter Tryd.func31, Tryd.ntmps31
  go_upto_if 42 with (go_at_call 42; refine (HN _).out.mono ?_; rintro e w1 ⟨rfl, rfl⟩)
  obtain ⟨W, hW⟩ : ∃ W, w1 = W := ⟨_, rfl⟩
  subst hW
  go_cut [] (fun wx => ∃ b, wx.heap[r]? = some (.cells #[.int .i64 16, .map (some b), .slice A L.length c] 95 (0, 0)) ∧ OwnG 92 encP 2 wx w0.heap.size A c L ∧ w0.heap.size ≤ b ∧ MapAt txE inE wx b M ∧ Below w0.heap.size w0 wx)
  case first =>
    rcases HR.out.names with ⟨rfl, rfl⟩ | ⟨b, rfl, hbb, hm⟩
    · have hmm := @run_makeMap Tryd.prog
      go_wp2_with fail
      go_meet
      have hs : (World.setCell w1 ⟨r, 1, none⟩ (.map (some w1.heap.size))).heap.size = w1.heap.size := by simp [World.setCell]
      have hm := MapAt.new (enc := txE) (vf := inE) (World.setCell w1 ⟨r, 1, none⟩ (.map (some w1.heap.size)))
      rw [hs] at hm
      exact ⟨w1.heap.size, blk_skip (blk_set HR.out.blk), (HR.out.own.setAt HR.out.blk (by decide) _).alloc _, HB.out.size, hm, bel_alloc (bel_set HB.out hr _) _⟩
    · go_wp2_with fail
      go_meet
      exact ⟨b, HR.out.blk, HR.out.own, hbb, hm, HB.out⟩
  case rest =>
    obtain ⟨b, h1, h2, h3, h4, h5⟩ := hcut
    clear HB HR x0 x1 xf1 xz hlook hnl heq hne HN
    have H1 := Lib.hid h1
    have y0 := blk_cell (i := 0) h1 rfl
    have y1 := blk_cell (i := 1) h1 rfl
    obtain ⟨ob, hpr, hM6⟩ := put_run (P := Tryd.prog) keyText Tryd.underlying93 Tryd.underlying9 h4 name 16
    have hrb : r ≠ b := h4.ne_cells h1
    have B6 := Lib.hid (blk_with (o := ob) h1 hrb)
    have HO6 := Lib.hid (h2.withObj h4 ob)
    have HM6 := Lib.hid hM6
    have HB6 := Lib.hid (bel_with h5 h3 ob)
    clear h1 h2 h4 h5 hM6
    have hnl2 := hn.2.1
    go_wp2_with fail
    obtain ⟨W6, hW6⟩ : ∃ W6, withObj wc b ob = W6 := ⟨_, rfl⟩
    rw [hW6] at B6 HO6 HM6 HB6 ⊢
    clear hW6 hpr H1 y0 y1
    go_loopw [10, 60] (fun _ si wr => ∃ (k : Nat) (A' : Option Addr) (c' : Nat), k ≤ 16 ∧ si = .int .i64 k ∧ wr.heap[r]? = some (.cells #[.int .i64 16, .map (some b), .slice A' (L ++ (ptsOf name).take k).length c'] 95 (0, 0)) ∧ OwnG 92 encP 2 wr w0.heap.size A' c' (L ++ (ptsOf name).take k) ∧ MapAt txE inE wr b (putM M name 16) ∧ Below w0.heap.size w0 wr) (fun _ si _ => 16 - (intOf si).toNat)
    case atStart => exact ⟨0, A, c, by omega, rfl, by rw [List.take_zero, List.append_nil]; exact B6.out, by rw [List.take_zero, List.append_nil]; exact HO6.out, HM6.out, HB6.out⟩
    case round =>
      clear B6 HO6 HM6 HB6
      obtain ⟨k, A', c', hk, rfl, hblk, hown, hmap, hbw⟩ := hrel
      by_cases hlt : k < 16
      · have HST : Hid (L ++ (ptsOf name).take (k + 1) = (L ++ (ptsOf name).take k) ++ [(hashN (Lib.decDigits k ++ 35 :: name), name)]) := by simp only [Hid]; rw [ptsOf_step hlt, List.append_assoc]
        have hRl : (L ++ (ptsOf name).take k).length ≤ 5016 := by rw [List.length_append, List.length_take]; omega
        obtain ⟨R, hRe⟩ : ∃ R, L ++ (ptsOf name).take k = R := ⟨_, rfl⟩
        rw [hRe] at hblk hown HST hRl
        have hk' : (k : Int) < 16 := by omega
        have HI := fun W => Lib.hid (itoa_any k (by omega) W)
        have hdl := dec_len2 (i := k) (by omega)
        have hc1 := catRun (a := Lib.decDigits k) (b := [35]) (by simp; omega)
        have hc2 := catRun (a := Lib.decDigits k ++ [35]) (b := name) (by simp; omega)
        rw [List.append_assoc, List.singleton_append] at hc2
        have HH := fun W => Lib.hid (hash_any (Lib.decDigits k ++ 35 :: name) W (by simp; omega))
        obtain ⟨hv, hhv⟩ : ∃ hv, hashN (Lib.decDigits k ++ 35 :: name) = hv := ⟨_, rfl⟩
        rw [hhv] at HH HST
        generalize Lib.decDigits k ++ 35 :: name = tx at hc2 HH
        generalize Lib.decDigits k ++ [35] = ty at hc1 hc2
        generalize Lib.decDigits k = dg at HI hc1
        have B3 := Lib.hid hblk
        have HO := Lib.hid hown
        have HM := Lib.hid hmap
        have HBW := Lib.hid hbw
        have HNT := Lib.hid (hown.ne_type hblk (by decide))
        have z2 := blk_cell (i := 2) hblk rfl
        have zf2 := blk_frozen (i := 2) hblk
        have zz := blk_lt hblk
        clear hblk hown hmap hbw hdl hhv
        go_wp2_with fail
        go_region_law ((first
          | (go_simp; go_at_call 43; refine (HI _).out.mono ?_; rintro e w1 ⟨rfl, rfl⟩; (try dsimp only))
          | (go_simp; go_at_call 34; refine (HH _).out.mono ?_; rintro e w1 ⟨rfl, rfl⟩; (try dsimp only))
          | (refine stepG_append (w0 := w0) elemP rfl (.tmp 67) (.tmp 76) rfl A' c' R (by exact rfl) (by exact (HO.out.alloc _).drew) (some ⟨_, 0, none⟩) 1 [(hv, name)] (by exact rfl) (by exact (SpG.built (enc := encP) (n := 2) elemP.len _ [(hv, name)] #[.int .u64 (hv : Int), .string ⟨name.toArray⟩] rfl 92).drew) (Nat.zero_lt_one) (Nat.le_trans (Nat.add_le_add_right hRl 1) (by decide)) (by exact bel_drew (bel_alloc HBW.out _)) ?_
             intro A5 c5 w5 hown5 hbw5 hg5
             have B5 := Lib.hid (blk_grown (blk_drew (blk_skip B3.out)) hg5 HNT.out)
             have z5 := blk_cell (i := 2) B5.out rfl
             have zf5 := blk_frozen (i := 2) B5.out
             have zz5 := blk_lt B5.out
             have HM5 := Lib.hid ((HM.out.below (bel_drew (bel_alloc (Below.refl _ _) _))).grown ((HO.out.alloc _).drew) hg5))))
        all_goals
          go_wp2_with fail
          go_roundw
          case rel => exact ⟨k + 1, A5, c5, by omega, by go_num, by rw [HST.out, List.length_append]; exact blk_set B5.out, by rw [HST.out]; exact hown5.setAt B5.out (by decide) _, HM5.out.setAt B5.out _, bel_set hbw5 hr _⟩
          case measure => simp [intOf]; omega
      · have hk16 : k = 16 := by omega
        subst hk16
        have h16 : (ptsOf name).take 16 = ptsOf name := List.take_of_length_le (by rw [ptsOf_len]; omega)
        rw [h16] at hblk hown
        have hRl : (L ++ ptsOf name).length = L.length + 16 := by rw [List.length_append, ptsOf_len]
        obtain ⟨R, hRe⟩ : ∃ R, L ++ ptsOf name = R := ⟨_, rfl⟩
        have HPE := Lib.hid hRe
        rw [hRe] at hblk hown hRl
        have z2 := blk_cell (i := 2) hblk rfl
        have B3 := Lib.hid hblk
        have HM := Lib.hid hmap
        have HBW := Lib.hid hbw
        have HO := Lib.hid hown
        have HNT := Lib.hid (hown.ne_type hblk (by decide))
        have HS := Lib.hid (sortPt_any (w0 := w0) hown.pt (by omega) (by omega))
        clear hblk hown hmap hbw hRe h16 hRl
        go_wp2_with (go_at_call 44; refine HS.out.mono ?_; rintro e w5 ⟨rfl, R', hp, hs, ho5, hg5⟩)
        go_ret
        have hlt' := World.ownsRow.lt HO.out
        exact ⟨rfl, some b, A', c', R', ⟨by rw [hp.length_eq]; exact blk_grown B3.out hg5 HNT.out, ho5.g, .inr ⟨b, rfl, h3, HM.out.grown HO.out hg5⟩⟩, by rw [HPE.out]; exact hp, hs, HBW.out.grown hg5 HBW.out.size (fun k hk => (hlt' k hk).1)⟩
end Go.Proofs.YtnlamjebgkgbaaaDoor
namespace Go.Proofs.YtnlamjebgkgbaaaDoor
open Go.RowKit Go.Shelf Go.Sort

theorem dec_inj {a b : Nat} (h : Lib.decDigits a = Lib.decDigits b) : a = b := by
  have h1 := numFrom_dec a
  have h2 := numFrom_dec b
  rw [h, h2] at h1
  injection h1 with h1
  omega
theorem nmL_inj {a b : Nat} (h : nmL a = nmL b) : a = b := by
  unfold nmL at h
  injection h with _ h
  exact dec_inj h
/-- The names of parents, from one on. -/
def namesL (f k : Nat) : List (List UInt8) := (List.range k).map fun i => nmL (f + i)
theorem namesL_succ (f k : Nat) : namesL f (k + 1) = namesL f k ++ [nmL (f + k)] := by unfold namesL; rw [List.range_succ, List.map_append]; rfl
theorem namesL_len (f k : Nat) : (namesL f k).length = k := by simp [namesL]
theorem namesL_new (f k : Nat) : nmL (f + k) ∉ namesL f k := by
  intro h
  obtain ⟨i, hi, e⟩ := List.mem_map.1 h
  have := nmL_inj e
  have := List.mem_range.1 hi
  omega
/-- All their points. -/
def allPts (f k : Nat) : List Pt := (namesL f k).flatMap ptsOf
theorem allPts_succ (f k : Nat) : allPts f (k + 1) = allPts f k ++ ptsOf (nmL (f + k)) := by unfold allPts; rw [namesL_succ, List.flatMap_append]; simp
theorem putM_new {α β : Type} [DecidableEq α] {M : List (α × β)} {k : α} {v : β} (h : k ∉ keysM M) : keysM (putM M k v) = keysM M ++ [k] ∧ (putM M k v).length = M.length + 1 := by
  induction M with
  | nil => simp [putM, keysM]
  | cons x r ih =>
    simp only [keysM, List.map_cons, List.mem_cons, not_or] at h
    have := ih h.2
    rw [putM, if_neg (fun e => h.1 e.symm)]
    simp only [keysM, List.map_cons, List.length_cons] at this ⊢
    exact ⟨by rw [this.1]; rfl, by rw [this.2]⟩
theorem allPts_len (f : Nat) : ∀ k, (allPts f k).length = 16 * k
  | 0 => rfl
  | k + 1 => by rw [allPts_succ, List.length_append, allPts_len f k, ptsOf_len]; omega
theorem RingOwn.below {w w' : World} {base r : Nat} {M : List (List UInt8 × Int)} {L : List Pt} {nm : Option Nat} {A : Option Addr} {c : Nat} (h : RingOwn w base r M L nm A c) (hb : Below w.heap.size w w') : RingOwn w' base r M L nm A c :=
  ⟨blk_keep hb h.blk, h.own.below hb, h.names.imp id fun ⟨b, h1, h2, h3⟩ => ⟨b, h1, h2, h3.below hb⟩⟩
theorem RingOwn.at_ {w : World} {base r : Nat} {M : List (List UInt8 × Int)} {L : List Pt} {nm : Option Nat} {A : Option Addr} {c : Nat} (h : RingOwn w base r M L nm A c) : RingAt w r M.length L nm A c :=
  ⟨h.blk, h.own.pt.spf, h.names.elim (fun ⟨h1, h2⟩ => .inl ⟨h1, by rw [h2]; rfl⟩) fun ⟨b, h1, _, h3⟩ => .inr ⟨b, h1, M, h3, rfl⟩⟩
/-- A tier as it is read. -/
structure TierAt (w : World) (base t : Nat) (n ch : Nat) (r d : Nat) (L : List Pt) (m : Nat) (nm : Option Nat) (A : Option Addr) (c : Nat) (D : List (Int × Bool)) : Prop where
  blk : w.heap[t]? = some (.cells #[.int .i64 n, .int .i64 ch, .pointer (some ⟨r, 0, none⟩), .map (some d)] 67 (0, 0))
  ring : RingAt w r m L nm A c
  down : MapAt inE Value.bool w d D
  bd : base ≤ d
  nd : nm ≠ some d
theorem ringNew_any (w : World) : Calls Tryd.prog 30 #[.int .i64 16] w fun e w' => e = .returned (.tuple #[.pointer (some ⟨w.heap.size, 0, none⟩), .int .i64 0]) ∧ w' = w.alloc (.cells #[.int .i64 16, .map none, .slice none 0 0] 95) := by
  go_enter Tryd.func30, Tryd.ntmps30
  go_wp2_with fail
  refine bodyPost_ret (by simp [results, Tryd.results30, go_sem]; try rfl) rfl ?_
  exact ⟨rfl, rfl⟩
def NewPost (w : World) (n ch : Nat) (e : Ending) (w' : World) : Prop :=
  ∃ t r d L nm A c, e = .returned (.tuple #[.pointer (some ⟨t, 0, none⟩), .int .i64 0]) ∧ TierAt w' w.heap.size t n ch r d L (n - ch) nm A c [] ∧ L.Perm (allPts ch (n - ch)) ∧ L.Pairwise ptLe ∧ Below w.heap.size w w'
set_option maxHeartbeats 4000000 in
set_option maxRecDepth 100000 in
theorem new_any (w : World) (n p : Nat) (hn : 1 ≤ n) (hn2 : n ≤ 64) (hp : p < n) (hp8 : p ≤ 8) :
    Calls Tryd.prog 17 #[.int .i64 n, .int .i64 p] w (NewPost w n (n - p)) := by
  obtain ⟨ch, hch⟩ : ∃ ch, n - p = ch := ⟨_, rfl⟩
  have i1 : (n : Int) - (p : Int) = (ch : Int) := by omega
  have j1 : ¬ (n : Int) < 1 := by omega
  have j2 : ¬ (64 : Int) < (n : Int) := by omega
  have j3 : ¬ (p : Int) < 0 := by omega
  have j4 : ¬ (n : Int) ≤ (p : Int) := by omega
  have hmm := @run_makeMap Tryd.prog
  have HRN := fun W => Lib.hid (ringNew_any W)
  rw [hch]
  go_enter Tryd.func17, Tryd.ntmps17
  go_wp2_with (go_at_call 30; refine (HRN _).out.mono ?_; rintro e w1 ⟨rfl, rfl⟩)
  obtain ⟨r, hr⟩ : ∃ r, w.heap.size + 1 + 1 = r := ⟨_, rfl⟩
  rw [hr]
  obtain ⟨t, ht⟩ : ∃ t, w.heap.size + 1 = t := ⟨_, rfl⟩
  rw [ht]
  obtain ⟨w2, hw2⟩ : ∃ w2, World.alloc (World.alloc w (.map #[] 0)) (.cells #[.int .i64 (n : Int), .int .i64 (ch : Int), .pointer (some ⟨r, 0, none⟩), .map (some w.heap.size)] 67) = w2 := ⟨_, rfl⟩
  rw [hw2]
  have hs2 : w2.heap.size = r := by rw [← hw2, ← hr]; simp
  have BT : Hid (w2.heap[t]? = some (.cells #[.int .i64 (n : Int), .int .i64 (ch : Int), .pointer (some ⟨r, 0, none⟩), .map (some w.heap.size)] 67 (0, 0))) := by
    simp only [Hid]; rw [← hw2, ← ht]; exact blk_new (by simp)
  have MD : Hid (MapAt inE Value.bool w2 w.heap.size []) := by
    simp only [Hid]; rw [← hw2]; exact (MapAt.new w).below (bel_alloc (Below.refl _ _) _)
  have HB2 : Hid (Below w.heap.size w w2) := by simp only [Hid]; rw [← hw2]; (repeat (first | exact Below.refl _ _ | refine bel_drewN ?_ _ | refine bel_drew ?_ | refine bel_alloc ?_ _ | refine bel_set ?_ (by simp) _))
  have HR0 : Hid (RingOwn (w2.alloc (.cells #[.int .i64 16, .map none, .slice none 0 0] 95)) w2.heap.size r [] [] none none 0) := ⟨blk_new hs2.symm, OwnG.nil _ _, .inl ⟨rfl, rfl⟩⟩
  have hs3 : r ≤ w2.heap.size ∧ w2.heap.size ≤ r := by omega
  have hch2 : n ≤ ch + p ∧ ch + p ≤ n := by omega
  clear hw2 HRN hmm j1 j2 j3 j4 i1 hs2 hr ht hch
  have x2 := blk_cell (i := 2) BT.out rfl
  have htz := blk_lt BT.out
  go_loopw [8, 9] (fun sp _ wr => ∃ (k q : Nat) (M : List (List UInt8 × Int)) (L : List Pt) (nm : Option Nat) (A : Option Addr) (c : Nat), k ≤ p ∧ q = ch + k ∧ sp = .int .i64 (q : Int) ∧ RingOwn wr w2.heap.size r M L nm A c ∧ keysM M = namesL ch k ∧ M.length = k ∧ L.Perm (allPts ch k) ∧ L.Pairwise ptLe ∧ Below w2.heap.size w2 wr) (fun sp _ _ => n - (intOf sp).toNat)
  case atStart => exact ⟨0, ch, [], [], none, none, 0, Nat.zero_le _, rfl, rfl, HR0.out, rfl, rfl, List.Perm.refl _, List.Pairwise.nil, bel_alloc (Below.refl _ _) _⟩
  case round =>
    clear HR0
    obtain ⟨k, q, M, L, nm, A, c, hk, hq, rfl, hro, hkm, hml, hpm, hso, hbw⟩ := hrel
    have HRO := Lib.hid hro
    have HBW := Lib.hid hbw
    have HPM := Lib.hid hpm
    have HSO := Lib.hid hso
    have HKM := Lib.hid hkm
    have x2r := cell_keep hbw x2
    clear hro hbw hpm hso hkm
    by_cases hlt : k < p
    · have hqn : (q : Int) < (n : Int) := by omega
      have hno : nmL q ∉ keysM M := by rw [HKM.out, hq]; exact namesL_new ch k
      have hll : L.length ≤ 5000 := by rw [HPM.out.length_eq, allPts_len]; omega
      have HN := fun W => Lib.hid (name_any q (by omega) W)
      have HA := fun W (h1 : RingOwn W w2.heap.size r M L nm A c) (h2 : Below w2.heap.size w2 W) => Lib.hid (add_any h1 (by omega) h2 (nmL q) (nmL_ok (by omega)) hno (by omega) hll)
      have HPN := Lib.hid (putM_new (v := (16 : Int)) hno)
      have HQ : Hid (q + 1 = ch + (k + 1)) := by simp only [Hid]; omega
      have HNS : Hid (namesL ch (k + 1) = namesL ch k ++ [nmL q]) := by simp only [Hid]; rw [hq]; exact namesL_succ ch k
      have HAS : Hid (allPts ch (k + 1) = allPts ch k ++ ptsOf (nmL q)) := by simp only [Hid]; rw [hq]; exact allPts_succ ch k
      have hmk : M.length ≤ k ∧ k ≤ M.length := by omega
      clear hno hll hml hq
      go_wp2_with fail
      go_region_held3 (fun w' => w'.cell? ⟨t, 2, none⟩ = some (.pointer (some ⟨r, 0, none⟩)))
        (first | exact x2r | exact x2s | fail)
        (first
          | (go_at_call 32; refine (HN _).out.mono ?_; rintro e w1 ⟨rfl, rfl⟩)
          | (go_at_call 31; refine (HA _ (by first | exact HRO.out | exact HRO.out.below (by (repeat (first | exact Below.refl _ _ | refine bel_drewN ?_ _ | refine bel_drew ?_ | refine bel_alloc ?_ _ | refine bel_set ?_ (by simp) _)))) (by repeat (first | exact HBW.out | refine bel_drew ?_))).out.mono ?_; rintro e w5 ⟨rfl, nm5, A5, c5, L5, hro5, hp5, hs5, hb5⟩; have x2s := cell_keep hb5 x2))
      all_goals
        go_wp2_with fail
        go_roundw
        case rel => exact ⟨k + 1, q + 1, _, L5, nm5, A5, c5, by omega, HQ.out, by go_num, hro5, by rw [HPN.out.1, HKM.out, HNS.out], by rw [HPN.out.2]; omega, by rw [HAS.out]; exact hp5.trans (HPM.out.append_right _), hs5, hb5⟩
        case measure => simp [intOf]; omega
    · have hkp : k = p := by omega
      have hqn : ¬ (q : Int) < (n : Int) := by omega
      have hnc : n - ch = k := by omega
      have HNC := Lib.hid hnc
      have hmk := Lib.hid hml
      clear hq hkp hnc hml
      go_wp2_with fail
      refine bodyPost_ret (by simp [results, Tryd.results17, go_sem]; try rfl) rfl ?_
      refine ⟨t, r, w.heap.size, L, nm, A, c, rfl, ⟨(HBW.out.block t htz).trans BT.out, ?_, MD.out.below HBW.out, Nat.le_refl _, ?_⟩, ?_, HSO.out, bel_chain HBW.out HB2.out⟩
      · rw [HNC.out, ← hmk.out]; exact HRO.out.at_
      · rcases HRO.out.names with ⟨h1, _⟩ | ⟨b, h1, h2, _⟩
        · rw [h1]; intro e; cases e
        · rw [h1]; intro e; injection e with e; have := MD.out.lt; omega
      · rw [HNC.out]; exact HPM.out
end Go.Proofs.YtnlamjebgkgbaaaDoor
namespace Go.Proofs.YtnlamjebgkgbaaaDoor
open Go.RowKit Go.Shelf Go.Sort

theorem TierAt.below {w w' : World} {base t n ch r d : Nat} {L : List Pt} {m : Nat} {nm : Option Nat} {A : Option Addr} {c : Nat} {D : List (Int × Bool)} (h : TierAt w base t n ch r d L m nm A c D) (hb : Below w.heap.size w w') : TierAt w' base t n ch r d L m nm A c D :=
  ⟨blk_keep hb h.blk, h.ring.below hb, h.down.below hb, h.bd, h.nd⟩
theorem cell_withObj {w : World} {g i d : Nat} {v : Value} {α β : Type} {enc : α → Value} {vf : β → Value} {M : List (α × β)} (hm : MapAt enc vf w d M) (h : w.cell? ⟨g, i, none⟩ = some v) (o : Obj) : (withObj w d o).cell? ⟨g, i, none⟩ = some v := by
  have hne : g ≠ d := by
    intro e; subst e
    obtain ⟨es, ck, h1, _⟩ := hm.at_
    simp [World.cell?, h1] at h
  rw [← h]
  unfold World.cell?
  rw [withObj_ne w o hne]
theorem SpPt.withObj {w : World} {d : Nat} {A : Option Addr} {L : List Pt} {α β : Type} {enc : α → Value} {vf : β → Value} {M : List (α × β)} (h : SpPt w A L) (hm : MapAt enc vf w d M) (o : Obj) : SpPt (withObj w d o) A L :=
  ⟨fun k hk => by
    obtain ⟨b, off, e, hl, h1, h2⟩ := h.at' k hk
    exact ⟨b, off, e, by rw [withObj_size]; exact hl, cell_withObj hm h1 o, cell_withObj hm h2 o⟩⟩
theorem MapAt.withOther {α β : Type} {enc : α → Value} {vf : β → Value} {M : List (α × β)} {w : World} {b d : Nat} (h : MapAt enc vf w b M) (hne : b ≠ d) (o : Obj) : MapAt enc vf (withObj w d o) b M := by
  obtain ⟨es, ck, h1, h2⟩ := h.at_
  exact ⟨es, ck, (withObj_ne w o hne).trans h1, h2⟩
/-- A tier behind a turn of its map. -/
theorem TierAt.turn {w : World} {base t n ch r d : Nat} {L : List Pt} {m : Nat} {nm : Option Nat} {A : Option Addr} {c : Nat} {D D' : List (Int × Bool)} (h : TierAt w base t n ch r d L m nm A c D) {o : Obj} (hm : MapAt inE Value.bool (withObj w d o) d D') : TierAt (withObj w d o) base t n ch r d L m nm A c D' :=
  ⟨blk_with h.blk (h.down.ne_cells h.blk), ⟨blk_with h.ring.blk (h.down.ne_cells h.ring.blk), h.ring.sp.withObj h.down o, by
    rcases h.ring.names with h1 | ⟨b, h1, M, h2, h3⟩
    · exact .inl h1
    · exact .inr ⟨b, h1, M, MapAt.withOther h2 (fun e => h.nd (by rw [h1, e])) o, h3⟩⟩, hm, h.bd, h.nd⟩
theorem parental_any {w : World} {base t n ch r d : Nat} {L : List Pt} {m : Nat} {nm : Option Nat} {A : Option Addr} {c : Nat} {D : List (Int × Bool)} (h : TierAt w base t n ch r d L m nm A c D) (q : Int) :
    Calls Tryd.prog 21 #[.pointer (some ⟨t, 0, none⟩), .int .i64 q] w fun e w' => e = .returned (.bool (decide ((ch : Int) ≤ q) && decide (q < (n : Int)))) ∧ w' = w := by
  have x0 := blk_cell (i := 0) h.blk rfl
  have x1 := blk_cell (i := 1) h.blk rfl
  clear h
  go_enter Tryd.func21, Tryd.ntmps21
  by_cases h1 : (ch : Int) ≤ q
  · by_cases h2 : q < (n : Int)
    · go_wp2_with fail
      go_ret
      exact ⟨by simp [h1, h2], rfl⟩
    · go_wp2_with fail
      go_ret
      exact ⟨by simp [h2], rfl⟩
  · go_wp2_with fail
    go_ret
    exact ⟨by rw [show decide ((ch : Int) ≤ q) = false from decide_eq_false (by omega)]; rfl, rfl⟩
/-- What goes down, or up, leaves. -/
def turnD (D : List (Int × Bool)) (q : Int) (dn : Bool) : List (Int × Bool) := if dn = true then putM D q true else delM D q
def DownPost (w : World) (base t n ch r d : Nat) (L : List Pt) (m : Nat) (nm : Option Nat) (A : Option Addr) (c : Nat) (D : List (Int × Bool)) (q : Int) (dn : Bool) (e : Ending) (w' : World) : Prop :=
  if (ch : Int) ≤ q ∧ q < (n : Int) then e = .returned (.int .i64 0) ∧ (∃ o, w' = withObj w d o) ∧ TierAt w' base t n ch r d L m nm A c (turnD D q dn) else e = .returned (.int .i64 1) ∧ w' = w
theorem down_any {w : World} {base t n ch r d : Nat} {L : List Pt} {m : Nat} {nm : Option Nat} {A : Option Addr} {c : Nat} {D : List (Int × Bool)} (h : TierAt w base t n ch r d L m nm A c D) (q : Int) (dn : Bool) :
    Calls Tryd.prog 10 #[.pointer (some ⟨t, 0, none⟩), .int .i64 q, .bool dn] w (DownPost w base t n ch r d L m nm A c D q dn) := by
  have HP := Lib.hid (parental_any h q)
  have HT := Lib.hid h
  have x3 := blk_cell (i := 3) h.blk rfl
  by_cases hin : (ch : Int) ≤ q ∧ q < (n : Int)
  · have hb : (decide ((ch : Int) ≤ q) && decide (q < (n : Int))) = true := by simp [hin.1, hin.2]
    rw [hb] at HP
    cases dn
    · obtain ⟨o, hr, hm⟩ := del_run (P := Tryd.prog) keyInt Tryd.underlying65 Tryd.underlying3 h.down q 0
      have HM := Lib.hid hm
      clear h hm hb
      go_enter Tryd.func10, Tryd.ntmps10
      go_wp2_with (go_at_call 21; refine HP.out.mono ?_; rintro e w1 ⟨rfl, rfl⟩)
      go_ret
      unfold DownPost
      rw [if_pos hin]
      exact ⟨rfl, ⟨o, rfl⟩, HT.out.turn HM.out⟩
    · obtain ⟨o, hr, hm⟩ := put_run (P := Tryd.prog) keyInt Tryd.underlying65 Tryd.underlying3 h.down q true
      have HM := Lib.hid hm
      clear h hm hb
      go_enter Tryd.func10, Tryd.ntmps10
      go_wp2_with (go_at_call 21; refine HP.out.mono ?_; rintro e w1 ⟨rfl, rfl⟩)
      go_ret
      unfold DownPost
      rw [if_pos hin]
      exact ⟨rfl, ⟨o, rfl⟩, HT.out.turn HM.out⟩
  · have hb : (decide ((ch : Int) ≤ q) && decide (q < (n : Int))) = false := by
      rw [Bool.eq_false_iff]; intro hh; simp at hh; exact hin hh
    rw [hb] at HP
    clear h hb
    go_enter Tryd.func10, Tryd.ntmps10
    go_wp2_with (go_at_call 21; refine HP.out.mono ?_; rintro e w1 ⟨rfl, rfl⟩)
    go_ret
    unfold DownPost
    rw [if_neg hin]
    exact ⟨rfl, rfl⟩
/-- Those that are up. -/
def upB (D : List (Int × Bool)) (q : Int) : Bool := !((lookM D q).getD false)
def upL (D : List (Int × Bool)) (ch : Nat) : Nat → List Int
  | 0 => []
  | k + 1 => upL D ch k ++ if upB D ((ch + k : Nat) : Int) = true then [((ch + k : Nat) : Int)] else []
theorem upL_len (D : List (Int × Bool)) (ch : Nat) : ∀ k, (upL D ch k).length ≤ k
  | 0 => Nat.le_refl _
  | k + 1 => by have := upL_len D ch k; unfold upL; rw [List.length_append]; split <;> simp <;> omega
theorem downB_run {w : World} {d : Nat} {D : List (Int × Bool)} (h : MapAt inE Value.bool w d D) (q : Int) (b : Bool) (hb : upB D q = b) : (Instr.lookup 65 (.map (some d)) (.int .i64 q) false).run Tryd.prog w = .ok (.bool (!b)) w := by
  have := look_run (P := Tryd.prog) keyInt Tryd.underlying65 Tryd.underlying3 (z := .bool false) (fun w => by simp [Tryd.zeroValue4]) h q false
  rw [this, ← hb]
  unfold upB
  cases lookM D q with
  | none => simp
  | some x => simp
/-- A slice of ints. -/
def RetInts (R : List Int) (w : World) (e : Ending) (w' : World) : Prop := ∃ A c, e = .returned (.slice A R.length c) ∧ SpG encI 1 w' A c R ∧ Below w.heap.size w w'
set_option maxHeartbeats 2000000 in
theorem parents_any {w : World} {base t n ch r d : Nat} {L : List Pt} {m : Nat} {nm : Option Nat} {A : Option Addr} {c : Nat} {D : List (Int × Bool)} (h : TierAt w base t n ch r d L m nm A c D) (hn : n ≤ 64) (hc : ch ≤ n) :
    Calls Tryd.prog 8 #[.pointer (some ⟨t, 0, none⟩)] w (RetInts (upL D ch (n - ch)) w) := by
  have HT := Lib.hid h
  have x1 := blk_cell (i := 1) h.blk rfl
  clear h
  obtain ⟨p, hp⟩ : ∃ p, n - ch = p := ⟨_, rfl⟩
  have hp2 : n ≤ ch + p ∧ ch + p ≤ n := by omega
  rw [hp]
  clear hp
  go_enter Tryd.func8, Tryd.ntmps8
  go_wp2_with fail
  go_loopw [3, 4] (fun so sp wr => ∃ (k q : Nat) (A' : Option Addr) (c' : Nat), k ≤ p ∧ q = ch + k ∧ sp = .int .i64 (q : Int) ∧ so = .slice A' (upL D ch k).length c' ∧ OwnG 3 encI 1 wr w.heap.size A' c' (upL D ch k) ∧ Below w.heap.size w wr) (fun _ sp _ => n - (intOf sp).toNat)
  case atStart => exact ⟨0, ch, none, 0, Nat.zero_le _, rfl, rfl, rfl, OwnG.nil _ _, Below.refl _ _⟩
  case round =>
    obtain ⟨k, q, A', c', hk, hq, rfl, rfl, hown, hb⟩ := hrel
    have HTr := Lib.hid (HT.out.below hb)
    have y0 := blk_cell (i := 0) HTr.out.blk rfl
    have y3 := blk_cell (i := 3) HTr.out.blk rfl
    have hll := upL_len D ch k
    have HQ : Hid (q + 1 = ch + (k + 1)) := by simp only [Hid]; omega
    have HST : Hid (upL D ch (k + 1) = upL D ch k ++ if upB D (q : Int) = true then [(q : Int)] else []) := by simp only [Hid]; rw [hq]; rfl
    obtain ⟨R, hR⟩ : ∃ R, upL D ch k = R := ⟨_, rfl⟩
    have HRe := Lib.hid hR
    rw [hR] at hown hll HST ⊢
    have HO := Lib.hid hown
    have HB := Lib.hid hb
    by_cases hlt : k < p
    · have hqn : (q : Int) < (n : Int) := by omega
      clear hq hown hb hR
      cases hup : upB D (q : Int)
      · have hlk := downB_run HTr.out.down (q : Int) false hup
        rw [hup, if_neg (by simp), List.append_nil] at HST
        clear hup
        go_wp2_with fail
        go_roundw
        case rel => exact ⟨k + 1, q + 1, A', c', by omega, HQ.out, by go_num, by rw [HST.out], by rw [HST.out]; exact HO.out, HB.out⟩
        case measure => simp [intOf]; omega
      · have hlk := downB_run HTr.out.down (q : Int) true hup
        rw [hup, if_pos rfl] at HST
        clear hup
        go_wp2_with (at_builtin; go_must (refine wplG_append (w0 := w) elemI rfl (.tmp 24) (.tmp 26) rfl A' c' R rfl (HO.out.alloc _) (some ⟨wr.heap.size, 0, none⟩) 1 [(q : Int)] rfl (SpG.built (enc := encI) (n := 1) elemI.len wr [(q : Int)] #[.int .i64 (q : Int)] rfl 3) (by simp) (by simp; omega) (bel_alloc HB.out _) ?_; intro A5 c5 w5 hown5 hbw5 hg5))
        go_roundw
        case rel => exact ⟨k + 1, q + 1, A5, c5, by omega, HQ.out, by go_num, by rw [HST.out, List.length_append]; rfl, by rw [HST.out]; exact hown5, hbw5⟩
        case measure => simp [intOf]; omega
    · have hkp : k = p := by omega
      have hqn : ¬ (q : Int) < (n : Int) := by omega
      have HKP := Lib.hid hkp
      clear hq hown hb hR hkp
      go_wp2_with fail
      go_ret
      rw [← HKP.out, HRe.out]
      exact ⟨A', c', rfl, HO.out.spg elemI.len, HB.out⟩
end Go.Proofs.YtnlamjebgkgbaaaDoor
