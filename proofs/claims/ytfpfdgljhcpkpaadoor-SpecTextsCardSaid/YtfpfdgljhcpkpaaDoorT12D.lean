/- Contracts of the texts of ranges: the program's and the document's. -/
import Derived.Test.YtfpfdgljhcpkpaaDoorN7
import Derived.Test.YtfpfdgljhcpkpaaDoorT4
import Derived.Test.YtfpfdgljhcpkpaaDoorB12
import Derived.Test.YtfpfdgljhcpkpaaDoorV1
import Derived.Test.YtfpfdgljhcpkpaaDoorLaidF
import Derived.Test.YtfpfdgljhcpkpaaDoorS2
import Derived.Test.YtfpfdgljhcpkpaaDoorF0
import Derived.Test.YtfpfdgljhcpkpaaDoorW3
import Derived.MapKept
namespace Go.Proofs.YtfpfdgljhcpkpaaDoor
open Go.RowKit

/-- A text, and the number of what is wrong. -/
def textV (L : List (Int × Int)) : List UInt8 × Int := if L.length = 0 then ([], 1) else if allR L = false then ([], 1) else if 64 < L.length then ([], 4) else (textQ L, 0)
theorem digN_one {n : Int} (h0 : 0 ≤ n) (h : n < 10) : digN n = [UInt8.ofNat (48 + n.toNat)] := by
  unfold digN; rw [Lib.decDigits, dif_pos (by omega)]
theorem digN_more {n : Int} (h : ¬ n < 10) : digN n = digN (n / 10) ++ [UInt8.ofNat (48 + (n % 10).toNat)] := by
  unfold digN
  rw [Lib.decDigits, dif_neg (by omega)]
  have e1 : (n / 10).toNat = n.toNat / 10 := by omega
  have e2 : (n % 10).toNat = n.toNat % 10 := by omega
  rw [e1, e2]
theorem itoa_dig {n : Int} (h0 : 0 ≤ n) : Lib.itoa n = digN n := by
  unfold Lib.itoa digN; rw [if_neg (by omega)]
set_option maxHeartbeats 4000000 in
set_option maxRecDepth 100000 in
theorem digits_any : ∀ (m : Nat) (n : Int) (w : World), n.toNat ≤ m → 0 ≤ n → n ≤ 9223372036854775807 →
    Calls Tryd.prog 72 #[.int .i64 n] w fun e w' => e = .returned (.string ⟨(digN n).toArray⟩) ∧ Below w.heap.size w w' := by
  intro m
  induction m with
  | zero =>
    intro n w hm h0 h1
    obtain rfl : n = 0 := by omega
    have HD : Hid (digN 0 = [48]) := by simp only [Hid]; rw [digN_one (by omega) (by omega)]; rfl
    have kc := fun W => conv_one W 48 48 rfl
    go_enter Tryd.func72, Tryd.ntmps72
    go_wp2_with fail
    go_ret
    rw [HD.out]
    exact ⟨rfl, bel_alloc (Below.refl _ _) _⟩
  | succ m ih =>
    intro n w hm h0 h1
    have hmod : 0 ≤ n % 10 ∧ n % 10 < 10 := by omega
    have hc : (48 : Int) + n % 10 = ((UInt8.ofNat (48 + (n % 10).toNat)).toNat : Int) := by rw [digt_toNat (by omega)]; omega
    obtain ⟨c, hcc⟩ : ∃ c, UInt8.ofNat (48 + (n % 10).toNat) = c := ⟨_, rfl⟩
    have hc' : (48 : Int) + n % 10 = (c.toNat : Int) := by rw [← hcc]; exact hc
    have kc := fun W => conv_one W c (c.toNat : Int) rfl
    have hcb : (c.toNat : Int) < 256 := by have := UInt8.toNat_lt c; omega
    by_cases h10 : n < 10
    · have HD : Hid (digN n = [c]) := by simp only [Hid]; rw [digN_one h0 h10, ← hcc, show n % 10 = n from by omega]
      clear hc hcc ih
      go_enter Tryd.func72, Tryd.ntmps72
      go_wp2_with fail
      go_ret
      rw [HD.out]
      exact ⟨rfl, bel_alloc (Below.refl _ _) _⟩
    · have HD : Hid (digN n = digN (n / 10) ++ [c]) := by simp only [Hid]; rw [digN_more h10, hcc]
      have hdl := digN_len' (n := n / 10) (by omega)
      have HI := fun W => Lib.hid (ih (n / 10) W (by omega) (by omega) (by omega))
      clear hc hcc ih
      go_enter Tryd.func72, Tryd.ntmps72
      go_wp2_with fail
      refine (HI _).out.mono ?_
      rintro e w1 ⟨rfl, hb1⟩
      have HB := Lib.hid hb1
      clear hb1 HI
      go_wp2_with fail
      go_ret
      rw [HD.out, ← cat_one]
      exact ⟨rfl, bel_chain HB.out (bel_alloc (Below.refl _ _) _)⟩
end Go.Proofs.YtfpfdgljhcpkpaaDoor
/- Contract of spec.Text. -/
namespace Go.Proofs.YtfpfdgljhcpkpaaDoor
open Go.RowKit

def TextPost (v : List UInt8 × Int) (w : World) (e : Ending) (w' : World) : Prop := e = .returned (.tuple #[.string ⟨v.1.toArray⟩, .int .i64 v.2]) ∧ Below w.heap.size w w'
theorem fmt_dig (n : Int) (h0 : 0 ≤ n) (h1 : n ≤ 999999999999999999) (w : World) (htab : Lib.TabIs Tryd.prog w "internal/strconv.uint64pow10" .u64 Lib.pow10Tab) :
    Calls Tryd.prog 77 #[.int .i64 n, .int .i64 10] w fun e w' => e = .returned (.string ⟨(digN n).toArray⟩) ∧ Below w.heap.size w w' := by
  have := fmt_any n (by omega) (by omega) w htab
  rw [itoa_dig h0] at this
  exact this
theorem sc_len (l : List UInt8) : (Lib.strCells ⟨l.toArray⟩).length = l.length := by rw [Lib.strCells_length]; exact ba_size l
theorem len_byte {bs : List Value} {n : Nat} (h : bs.length ≤ n) (v : Value) : (bs ++ [v]).length ≤ n + 1 := by simp; omega
theorem len_str {bs : List Value} {n : Nat} {l : List UInt8} (h : bs.length ≤ n) (hl : l.length ≤ 18) : (bs ++ Lib.strCells ⟨l.toArray⟩).length ≤ n + 18 := by rw [List.length_append, sc_len]; omega
theorem text_ret {v u : List UInt8 × Int} {w w' : World} {s : ByteArray} {n : Int} (h : v = u) (hs : s = ⟨u.1.toArray⟩) (hn : n = u.2) (hb : Below w.heap.size w w') : TextPost v w (.returned (.tuple #[.string s, .int .i64 n])) w' := by
  subst h hs hn; exact ⟨rfl, hb⟩
theorem join_next {L : List (Int × Int)} {k : Nat} (hk : k < L.length) {h : List UInt8} : Lib.byteCells (h ++ joinT textR (L.take (k + 1))) = if k = 0 then Lib.byteCells (h ++ joinT textR (L.take k)) ++ Lib.byteCells (textR L[k]) else Lib.byteCells (h ++ joinT textR (L.take k)) ++ .int .u8 44 :: Lib.byteCells (textR L[k]) := by
  rw [List.take_succ_eq_append_getElem hk, joinT_snoc]
  by_cases h0 : k = 0
  · subst h0
    simp [joinT, Lib.byteCells]
  · rw [if_neg h0, if_neg (by rw [List.length_take]; omega)]
    simp [Lib.byteCells]
set_option maxHeartbeats 16000000 in
set_option maxRecDepth 100000 in
theorem sText_any (A : Option Addr) (c : Nat) (L : List (Int × Int)) (w : World) (h : Sp w A c L) (hl : L.length ≤ 1000) (htab : Lib.TabIs Tryd.prog w "internal/strconv.uint64pow10" .u64 Lib.pow10Tab) :
    Calls Tryd.prog 40 #[.slice A L.length c] w (TextPost (textV L) w) := by
  have H := Lib.hid h
  have HT := Lib.hid htab
  clear h htab
  by_cases h0 : L.length = 0
  · have HV : Hid (textV L = ([], 1)) := by simp only [Hid]; unfold textV; rw [if_pos h0]
    have h0' : (L.length : Int) = 0 := by omega
    go_enter Tryd.func40, Tryd.ntmps40
    go_wp2_with fail
    go_ret2
    exact text_ret HV.out rfl rfl (Below.refl _ _)
  have h0' : ((L.length : Int) == 0) = false := by rw [beq_eq_false_iff_ne]; omega
  go_enter Tryd.func40, Tryd.ntmps40
  go_wp2_with fail
  go_loopw [5, 14] (fun _ i wr => ∃ k : Nat, k ≤ L.length ∧ i = .int .i64 k ∧ allR (L.take k) = true ∧ Below w.heap.size w wr) (fun _ i _ => L.length - (intOf i).toNat)
  case atStart => exact ⟨0, Nat.zero_le _, rfl, rfl, Below.refl _ _⟩
  case round =>
    obtain ⟨k, hk, rfl, hin, hbw⟩ := hrel
    have HI := Lib.hid hin
    have HB := Lib.hid hbw
    clear hin hbw
    by_cases hlt : k < L.length
    · obtain ⟨b, off, e, hb, c1, c2⟩ := (H.out.below HB.out).at_ hlt
      have HS := fun h2 => Lib.hid (allR_step hlt HI.out h2)
      have HN := fun h2 => Lib.hid (allR_no hlt h2)
      obtain ⟨⟨x1, x2⟩, hx⟩ : ∃ x, L[k] = x := ⟨_, rfl⟩
      rw [hx] at c1 c2 HS HN
      clear hx
      rw [e]
      have hR := fun W => Lib.hid (sright_any x1 x2 W)
      cases hok : rightR (x1, x2)
      · rw [hok] at hR
        have HV : Hid (textV L = ([], 1)) := by simp only [Hid]; unfold textV; rw [if_neg h0, if_pos (HN hok).out]
        clear HN HS hok
        go_wp2_with fail
        refine (hR _).out.mono ?_
        rintro e1 w3 ⟨rfl, rfl⟩
        clear hR
        go_wp2_with fail
        go_ret2
        exact text_ret HV.out rfl rfl (bel_alloc (bel_alloc HB.out _) _)
      · rw [hok] at hR
        have HF := HS hok
        clear HN HS hok
        go_wp2_with fail
        refine (hR _).out.mono ?_
        rintro e1 w3 ⟨rfl, rfl⟩
        clear hR
        go_wp2_with fail
        go_roundw
        case rel => exact ⟨k + 1, by omega, by go_num, HF.out, bel_alloc (bel_alloc HB.out _) _⟩
        case measure => simp [intOf]; omega
    · have hf := HI.out
      rw [take_all hlt] at hf
      have HF := Lib.hid hf
      clear hf HI
      by_cases hbig : 64 < L.length
      · have hb64 : decide ((64 : Int) < (L.length : Int)) = true := by simp; omega
        have HV : Hid (textV L = ([], 4)) := by simp only [Hid]; unfold textV; rw [if_neg h0, if_neg (by rw [HF.out]; simp), if_pos hbig]
        go_wp2_with fail
        go_ret2
        exact text_ret HV.out rfl rfl HB.out
      have hb64 : decide ((64 : Int) < (L.length : Int)) = false := by simp; omega
      have HV : Hid (textV L = (textQ L, 0)) := by simp only [Hid]; unfold textV; rw [if_neg h0, if_neg (by rw [HF.out]; simp), if_neg hbig]
      obtain ⟨w1, hw1⟩ : ∃ w1, wr = w1 := ⟨_, rfl⟩
      have HSP : Hid (Sp w1 A c L) := by simp only [Hid]; rw [← hw1]; exact H.out.below HB.out
      have HTAB : Hid (∀ W, Below w1.heap.size w1 W → Lib.TabIs Tryd.prog W "internal/strconv.uint64pow10" .u64 Lib.pow10Tab) := by
        intro W hW
        rw [← hw1] at hW
        exact tab_below HT.out (bel_chain hW HB.out)
      rw [hw1] at HB ⊢
      have HB1 := HB
      clear hw1 HB H HT
      have HFR := Lib.hid (Lib.fresh_isBuilder 137 5 w1)
      go_wp2_with fail
      refine (writeString_any w1.heap.size w1.heap.size [] ⟨#[98, 121, 116, 101, 115, 61]⟩ _ HFR.out (by decide) (by simp)).mono ?_
      rintro e1 w2 ⟨rfl, hbd2, hb2, -⟩
      have HBD2 := Lib.hid hbd2
      have HB2 : Hid (Below w1.heap.size w1 w2) := (bel_alloc (Below.refl _ _) _).trans hb2
      clear hbd2 hb2 HFR
      go_wp2_with fail
      go_loopw [7, 8, 28] (fun _ _ i wr => ∃ k : Nat, k ≤ L.length ∧ i = .int .i64 k ∧ Lib.IsBuilder 137 5 w1.heap.size w1.heap.size (Lib.byteCells ([98, 121, 116, 101, 115, 61] ++ joinT textR (L.take k))) wr ∧ Below w1.heap.size w1 wr) (fun _ _ i _ => L.length - (intOf i).toNat)
      case atStart => exact ⟨0, Nat.zero_le _, rfl, .inr HBD2.out, HB2.out⟩
      case round =>
        clear HBD2 HB2
        obtain ⟨k, hk, rfl, hbd, hbw⟩ := hrel
        have HB := Lib.hid hbw
        have HBD' := Lib.hid hbd
        have hszw : w1.heap.size < wr.heap.size := hbd.elim (fun h => h.lt) (fun h => h.lt)
        clear hbd hbw
        by_cases hlt : k < L.length
        rotate_left
        · have hbd := HBD'.out
          rw [take_all hlt] at hbd
          have HBD := Lib.hid hbd
          clear hbd HBD'
          go_wp2_with fail
          refine (Tryd.Builder_String_any w1.heap.size w1.heap.size (textQ L) _ HBD.out HB.out.size).mono ?_
          rintro e1 w4 ⟨rfl, hb4⟩
          have HB4 := Lib.hid hb4
          clear hb4
          go_wp2_with fail
          go_ret2
          exact text_ret HV.out rfl rfl (HB1.out.trans ((HB.out.trans HB4.out).mono HB1.out.size))
        obtain ⟨b, off, e, hb, c1, c2⟩ := (HSP.out.below HB.out).at_ hlt
        have hra := allR_at HF.out hlt
        have HJ := Lib.hid (join_next hlt (h := [98, 121, 116, 101, 115, 61]))
        have hjl := joinT_length textR (L.take k) (fun x hx => by have := (textR_len (List.all_eq_true.1 HF.out x (List.mem_of_mem_take hx))).2; omega)
        have hjl2 : (Lib.byteCells ([98, 121, 116, 101, 115, 61] ++ joinT textR (L.take k))).length ≤ 200000 := by
          rw [Lib.byteCells_length, List.length_append]; simp only [List.length_take] at hjl; simp; omega
        obtain ⟨⟨x1, x2⟩, hx⟩ : ∃ x, L[k] = x := ⟨_, rfl⟩
        rw [hx] at c1 c2 hra HJ
        rw [rightR_iff] at hra
        obtain ⟨r1, r2, r3⟩ := hra
        simp only at c1 c2 r1 r2 r3
        have hd1 := digN_len r1
        have hd2 := digN_len r2
        obtain ⟨bs, hbs⟩ : ∃ bs, Lib.byteCells ([98, 121, 116, 101, 115, 61] ++ joinT textR (L.take k)) = bs := ⟨_, rfl⟩
        have hBDo := HBD'.out
        rw [hbs] at hBDo HJ hjl2
        have HBD := Lib.hid hBDo
        clear hx hjl hbs hBDo HBD'
        rw [e]
        have H6 : (k = 0 ∧ 0 ≤ x1 ∧ 0 ≤ x2) ∨ (k = 0 ∧ 0 ≤ x1 ∧ ¬ 0 ≤ x2) ∨ (k = 0 ∧ ¬ 0 ≤ x1 ∧ 0 ≤ x2) ∨ (¬ k = 0 ∧ 0 ≤ x1 ∧ 0 ≤ x2) ∨ (¬ k = 0 ∧ 0 ≤ x1 ∧ ¬ 0 ≤ x2) ∨ (¬ k = 0 ∧ ¬ 0 ≤ x1 ∧ 0 ≤ x2) := by omega
        clear r3
        rcases H6 with ⟨hk0, hf, ht⟩ | ⟨hk0, hf, ht⟩ | ⟨hk0, hf, ht⟩ | ⟨hk0, hf, ht⟩ | ⟨hk0, hf, ht⟩ | ⟨hk0, hf, ht⟩
        · have HTK : Hid (Lib.byteCells ([98, 121, 116, 101, 115, 61] ++ joinT textR (L.take (k + 1))) = bs ++ Lib.strCells ⟨(digN x1).toArray⟩ ++ [.int .u8 45] ++ Lib.strCells ⟨(digN x2).toArray⟩) := by
            simp only [Hid]
            rw [HJ.out, if_pos hk0]
            simp [textR, hf, ht, Lib.byteCells, Lib.strCells]
          clear HJ
          subst hk0
          simp only [Nat.zero_mul, Nat.add_zero] at c1 c2
          go_wp2_with fail
          have HBD0 : Hid (Lib.IsBuilder 137 5 w1.heap.size w1.heap.size bs (wr.alloc (.cells #[.int .i64 x1, .int .i64 x2] 73))) := builder_below HBD.out (bel_alloc (Below.refl _ _) _)
          have HX0 : Hid ((wr.alloc (.cells #[.int .i64 x1, .int .i64 x2] 73)).heap[wr.heap.size]? = some (.cells #[.int .i64 x1, .int .i64 x2] 73)) := heap_alloc_new wr _
          have HB0 : Hid (Below w1.heap.size w1 (wr.alloc (.cells #[.int .i64 x1, .int .i64 x2] 73))) := bel_alloc HB.out _
          clear HBD
          have hl0 := hjl2
          refine (fmt_dig x1 (by omega) (by omega) _ (HTAB.out _ HB0.out)).mono ?_
          rintro e1 v1 ⟨rfl, hb1⟩
          have HX1 : Hid (v1.heap[wr.heap.size]? = some (.cells #[.int .i64 x1, .int .i64 x2] 73)) := blk_keep hb1 HX0.out
          have hbd1 := builder_below HBD0.out hb1
          have hl1 := hl0
          have HBD1 := Lib.hid hbd1
          have HB1 : Hid (Below w1.heap.size w1 v1) := bel_chain hb1 HB0.out
          have q1 : v1.cell? ⟨wr.heap.size, 0, none⟩ = some (.int .i64 x1) := blk_cell HX1.out rfl
          have q2 : v1.cell? ⟨wr.heap.size, 1, none⟩ = some (.int .i64 x2) := blk_cell HX1.out rfl
          have q3 : wr.heap.size < v1.heap.size := blk_lt HX1.out
          clear hbd1 hb1 HX0 HBD0 HB0
          go_wp2_with fail
          clear q1 q2 q3
          refine (writeString_any w1.heap.size w1.heap.size (bs) ⟨(digN x1).toArray⟩ _ HBD1.out (by have := hl1; have := ba_size (digN x1); omega) HB1.out.size).mono ?_
          rintro e2 v2 ⟨rfl, hbd2, hb2, ho2⟩
          have HX2 : Hid (v2.heap[wr.heap.size]? = some (.cells #[.int .i64 x1, .int .i64 x2] 73)) := ho2 _ _ HX1.out (by simp; omega) (by simp)
          have hl2 := len_str hl1 (hd1.2)
          have HBD2 : Hid (Lib.IsBuilder 137 5 w1.heap.size w1.heap.size (bs ++ Lib.strCells ⟨(digN x1).toArray⟩) v2) := .inr hbd2
          have HB2 : Hid (Below w1.heap.size w1 v2) := HB1.out.trans hb2
          have q1 : v2.cell? ⟨wr.heap.size, 0, none⟩ = some (.int .i64 x1) := blk_cell HX2.out rfl
          have q2 : v2.cell? ⟨wr.heap.size, 1, none⟩ = some (.int .i64 x2) := blk_cell HX2.out rfl
          have q3 : wr.heap.size < v2.heap.size := blk_lt HX2.out
          clear hbd2 hb2 ho2 HX1 HBD1 HB1
          go_wp2_with fail
          clear q1 q2 q3
          refine (writeByte_any w1.heap.size w1.heap.size (bs ++ Lib.strCells ⟨(digN x1).toArray⟩) 45 _ HBD2.out (by have := hl2; omega) HB2.out.size).mono ?_
          rintro e3 v3 ⟨rfl, hbd3, hb3, ho3⟩
          have HX3 : Hid (v3.heap[wr.heap.size]? = some (.cells #[.int .i64 x1, .int .i64 x2] 73)) := ho3 _ _ HX2.out (by simp; omega) (by simp)
          have hl3 := len_byte hl2 (.int .u8 45)
          have HBD3 : Hid (Lib.IsBuilder 137 5 w1.heap.size w1.heap.size (bs ++ Lib.strCells ⟨(digN x1).toArray⟩ ++ [.int .u8 45]) v3) := .inr hbd3
          have HB3 : Hid (Below w1.heap.size w1 v3) := HB2.out.trans hb3
          have q1 : v3.cell? ⟨wr.heap.size, 0, none⟩ = some (.int .i64 x1) := blk_cell HX3.out rfl
          have q2 : v3.cell? ⟨wr.heap.size, 1, none⟩ = some (.int .i64 x2) := blk_cell HX3.out rfl
          have q3 : wr.heap.size < v3.heap.size := blk_lt HX3.out
          clear hbd3 hb3 ho3 HX2 HBD2 HB2
          go_wp2_with fail
          clear q1 q2 q3
          refine (fmt_dig x2 (by omega) (by omega) _ (HTAB.out _ HB3.out)).mono ?_
          rintro e4 v4 ⟨rfl, hb4⟩
          have HX4 : Hid (v4.heap[wr.heap.size]? = some (.cells #[.int .i64 x1, .int .i64 x2] 73)) := blk_keep hb4 HX3.out
          have hbd4 := builder_below HBD3.out hb4
          have hl4 := hl3
          have HBD4 := Lib.hid hbd4
          have HB4 : Hid (Below w1.heap.size w1 v4) := bel_chain hb4 HB3.out
          have q1 : v4.cell? ⟨wr.heap.size, 0, none⟩ = some (.int .i64 x1) := blk_cell HX4.out rfl
          have q2 : v4.cell? ⟨wr.heap.size, 1, none⟩ = some (.int .i64 x2) := blk_cell HX4.out rfl
          have q3 : wr.heap.size < v4.heap.size := blk_lt HX4.out
          clear hbd4 hb4 HX3 HBD3 HB3
          go_wp2_with fail
          clear q1 q2 q3
          refine (writeString_any w1.heap.size w1.heap.size (bs ++ Lib.strCells ⟨(digN x1).toArray⟩ ++ [.int .u8 45]) ⟨(digN x2).toArray⟩ _ HBD4.out (by have := hl4; have := ba_size (digN x2); omega) HB4.out.size).mono ?_
          rintro e5 v5 ⟨rfl, hbd5, hb5, ho5⟩
          have HX5 : Hid (v5.heap[wr.heap.size]? = some (.cells #[.int .i64 x1, .int .i64 x2] 73)) := ho5 _ _ HX4.out (by simp; omega) (by simp)
          have hl5 := len_str hl4 (hd2.2)
          have HBD5 : Hid (Lib.IsBuilder 137 5 w1.heap.size w1.heap.size (bs ++ Lib.strCells ⟨(digN x1).toArray⟩ ++ [.int .u8 45] ++ Lib.strCells ⟨(digN x2).toArray⟩) v5) := .inr hbd5
          have HB5 : Hid (Below w1.heap.size w1 v5) := HB4.out.trans hb5
          have q1 : v5.cell? ⟨wr.heap.size, 0, none⟩ = some (.int .i64 x1) := blk_cell HX5.out rfl
          have q2 : v5.cell? ⟨wr.heap.size, 1, none⟩ = some (.int .i64 x2) := blk_cell HX5.out rfl
          have q3 : wr.heap.size < v5.heap.size := blk_lt HX5.out
          clear hbd5 hb5 ho5 HX4 HBD4 HB4
          go_wp2_with fail
          clear q1 q2 q3
          go_roundw
          case rel => exact ⟨0 + 1, by omega, by go_num, by rw [HTK.out]; exact HBD5.out, HB5.out⟩
          case measure => simp [intOf]; omega
        · have HTK : Hid (Lib.byteCells ([98, 121, 116, 101, 115, 61] ++ joinT textR (L.take (k + 1))) = bs ++ Lib.strCells ⟨(digN x1).toArray⟩ ++ [.int .u8 45]) := by
            simp only [Hid]
            rw [HJ.out, if_pos hk0]
            simp [textR, hf, ht, Lib.byteCells, Lib.strCells]
          clear HJ
          subst hk0
          simp only [Nat.zero_mul, Nat.add_zero] at c1 c2
          go_wp2_with fail
          have HBD0 : Hid (Lib.IsBuilder 137 5 w1.heap.size w1.heap.size bs (wr.alloc (.cells #[.int .i64 x1, .int .i64 x2] 73))) := builder_below HBD.out (bel_alloc (Below.refl _ _) _)
          have HX0 : Hid ((wr.alloc (.cells #[.int .i64 x1, .int .i64 x2] 73)).heap[wr.heap.size]? = some (.cells #[.int .i64 x1, .int .i64 x2] 73)) := heap_alloc_new wr _
          have HB0 : Hid (Below w1.heap.size w1 (wr.alloc (.cells #[.int .i64 x1, .int .i64 x2] 73))) := bel_alloc HB.out _
          clear HBD
          have hl0 := hjl2
          refine (fmt_dig x1 (by omega) (by omega) _ (HTAB.out _ HB0.out)).mono ?_
          rintro e1 v1 ⟨rfl, hb1⟩
          have HX1 : Hid (v1.heap[wr.heap.size]? = some (.cells #[.int .i64 x1, .int .i64 x2] 73)) := blk_keep hb1 HX0.out
          have hbd1 := builder_below HBD0.out hb1
          have hl1 := hl0
          have HBD1 := Lib.hid hbd1
          have HB1 : Hid (Below w1.heap.size w1 v1) := bel_chain hb1 HB0.out
          have q1 : v1.cell? ⟨wr.heap.size, 0, none⟩ = some (.int .i64 x1) := blk_cell HX1.out rfl
          have q2 : v1.cell? ⟨wr.heap.size, 1, none⟩ = some (.int .i64 x2) := blk_cell HX1.out rfl
          have q3 : wr.heap.size < v1.heap.size := blk_lt HX1.out
          clear hbd1 hb1 HX0 HBD0 HB0
          go_wp2_with fail
          clear q1 q2 q3
          refine (writeString_any w1.heap.size w1.heap.size (bs) ⟨(digN x1).toArray⟩ _ HBD1.out (by have := hl1; have := ba_size (digN x1); omega) HB1.out.size).mono ?_
          rintro e2 v2 ⟨rfl, hbd2, hb2, ho2⟩
          have HX2 : Hid (v2.heap[wr.heap.size]? = some (.cells #[.int .i64 x1, .int .i64 x2] 73)) := ho2 _ _ HX1.out (by simp; omega) (by simp)
          have hl2 := len_str hl1 (hd1.2)
          have HBD2 : Hid (Lib.IsBuilder 137 5 w1.heap.size w1.heap.size (bs ++ Lib.strCells ⟨(digN x1).toArray⟩) v2) := .inr hbd2
          have HB2 : Hid (Below w1.heap.size w1 v2) := HB1.out.trans hb2
          have q1 : v2.cell? ⟨wr.heap.size, 0, none⟩ = some (.int .i64 x1) := blk_cell HX2.out rfl
          have q2 : v2.cell? ⟨wr.heap.size, 1, none⟩ = some (.int .i64 x2) := blk_cell HX2.out rfl
          have q3 : wr.heap.size < v2.heap.size := blk_lt HX2.out
          clear hbd2 hb2 ho2 HX1 HBD1 HB1
          go_wp2_with fail
          clear q1 q2 q3
          refine (writeByte_any w1.heap.size w1.heap.size (bs ++ Lib.strCells ⟨(digN x1).toArray⟩) 45 _ HBD2.out (by have := hl2; omega) HB2.out.size).mono ?_
          rintro e3 v3 ⟨rfl, hbd3, hb3, ho3⟩
          have HX3 : Hid (v3.heap[wr.heap.size]? = some (.cells #[.int .i64 x1, .int .i64 x2] 73)) := ho3 _ _ HX2.out (by simp; omega) (by simp)
          have hl3 := len_byte hl2 (.int .u8 45)
          have HBD3 : Hid (Lib.IsBuilder 137 5 w1.heap.size w1.heap.size (bs ++ Lib.strCells ⟨(digN x1).toArray⟩ ++ [.int .u8 45]) v3) := .inr hbd3
          have HB3 : Hid (Below w1.heap.size w1 v3) := HB2.out.trans hb3
          have q1 : v3.cell? ⟨wr.heap.size, 0, none⟩ = some (.int .i64 x1) := blk_cell HX3.out rfl
          have q2 : v3.cell? ⟨wr.heap.size, 1, none⟩ = some (.int .i64 x2) := blk_cell HX3.out rfl
          have q3 : wr.heap.size < v3.heap.size := blk_lt HX3.out
          clear hbd3 hb3 ho3 HX2 HBD2 HB2
          go_wp2_with fail
          clear q1 q2 q3
          go_roundw
          case rel => exact ⟨0 + 1, by omega, by go_num, by rw [HTK.out]; exact HBD3.out, HB3.out⟩
          case measure => simp [intOf]; omega
        · have HTK : Hid (Lib.byteCells ([98, 121, 116, 101, 115, 61] ++ joinT textR (L.take (k + 1))) = bs ++ [.int .u8 45] ++ Lib.strCells ⟨(digN x2).toArray⟩) := by
            simp only [Hid]
            rw [HJ.out, if_pos hk0]
            simp [textR, hf, ht, Lib.byteCells, Lib.strCells]
          clear HJ
          subst hk0
          simp only [Nat.zero_mul, Nat.add_zero] at c1 c2
          go_wp2_with fail
          have HBD0 : Hid (Lib.IsBuilder 137 5 w1.heap.size w1.heap.size bs (wr.alloc (.cells #[.int .i64 x1, .int .i64 x2] 73))) := builder_below HBD.out (bel_alloc (Below.refl _ _) _)
          have HX0 : Hid ((wr.alloc (.cells #[.int .i64 x1, .int .i64 x2] 73)).heap[wr.heap.size]? = some (.cells #[.int .i64 x1, .int .i64 x2] 73)) := heap_alloc_new wr _
          have HB0 : Hid (Below w1.heap.size w1 (wr.alloc (.cells #[.int .i64 x1, .int .i64 x2] 73))) := bel_alloc HB.out _
          clear HBD
          have hl0 := hjl2
          refine (writeByte_any w1.heap.size w1.heap.size (bs) 45 _ HBD0.out (by have := hl0; omega) HB0.out.size).mono ?_
          rintro e1 v1 ⟨rfl, hbd1, hb1, ho1⟩
          have HX1 : Hid (v1.heap[wr.heap.size]? = some (.cells #[.int .i64 x1, .int .i64 x2] 73)) := ho1 _ _ HX0.out (by simp; omega) (by simp)
          have hl1 := len_byte hl0 (.int .u8 45)
          have HBD1 : Hid (Lib.IsBuilder 137 5 w1.heap.size w1.heap.size (bs ++ [.int .u8 45]) v1) := .inr hbd1
          have HB1 : Hid (Below w1.heap.size w1 v1) := HB0.out.trans hb1
          have q1 : v1.cell? ⟨wr.heap.size, 0, none⟩ = some (.int .i64 x1) := blk_cell HX1.out rfl
          have q2 : v1.cell? ⟨wr.heap.size, 1, none⟩ = some (.int .i64 x2) := blk_cell HX1.out rfl
          have q3 : wr.heap.size < v1.heap.size := blk_lt HX1.out
          clear hbd1 hb1 ho1 HX0 HBD0 HB0
          go_wp2_with fail
          clear q1 q2 q3
          refine (fmt_dig x2 (by omega) (by omega) _ (HTAB.out _ HB1.out)).mono ?_
          rintro e2 v2 ⟨rfl, hb2⟩
          have HX2 : Hid (v2.heap[wr.heap.size]? = some (.cells #[.int .i64 x1, .int .i64 x2] 73)) := blk_keep hb2 HX1.out
          have hbd2 := builder_below HBD1.out hb2
          have hl2 := hl1
          have HBD2 := Lib.hid hbd2
          have HB2 : Hid (Below w1.heap.size w1 v2) := bel_chain hb2 HB1.out
          have q1 : v2.cell? ⟨wr.heap.size, 0, none⟩ = some (.int .i64 x1) := blk_cell HX2.out rfl
          have q2 : v2.cell? ⟨wr.heap.size, 1, none⟩ = some (.int .i64 x2) := blk_cell HX2.out rfl
          have q3 : wr.heap.size < v2.heap.size := blk_lt HX2.out
          clear hbd2 hb2 HX1 HBD1 HB1
          go_wp2_with fail
          clear q1 q2 q3
          refine (writeString_any w1.heap.size w1.heap.size (bs ++ [.int .u8 45]) ⟨(digN x2).toArray⟩ _ HBD2.out (by have := hl2; have := ba_size (digN x2); omega) HB2.out.size).mono ?_
          rintro e3 v3 ⟨rfl, hbd3, hb3, ho3⟩
          have HX3 : Hid (v3.heap[wr.heap.size]? = some (.cells #[.int .i64 x1, .int .i64 x2] 73)) := ho3 _ _ HX2.out (by simp; omega) (by simp)
          have hl3 := len_str hl2 (hd2.2)
          have HBD3 : Hid (Lib.IsBuilder 137 5 w1.heap.size w1.heap.size (bs ++ [.int .u8 45] ++ Lib.strCells ⟨(digN x2).toArray⟩) v3) := .inr hbd3
          have HB3 : Hid (Below w1.heap.size w1 v3) := HB2.out.trans hb3
          have q1 : v3.cell? ⟨wr.heap.size, 0, none⟩ = some (.int .i64 x1) := blk_cell HX3.out rfl
          have q2 : v3.cell? ⟨wr.heap.size, 1, none⟩ = some (.int .i64 x2) := blk_cell HX3.out rfl
          have q3 : wr.heap.size < v3.heap.size := blk_lt HX3.out
          clear hbd3 hb3 ho3 HX2 HBD2 HB2
          go_wp2_with fail
          clear q1 q2 q3
          go_roundw
          case rel => exact ⟨0 + 1, by omega, by go_num, by rw [HTK.out]; exact HBD3.out, HB3.out⟩
          case measure => simp [intOf]; omega
        · have HTK : Hid (Lib.byteCells ([98, 121, 116, 101, 115, 61] ++ joinT textR (L.take (k + 1))) = bs ++ [.int .u8 44] ++ Lib.strCells ⟨(digN x1).toArray⟩ ++ [.int .u8 45] ++ Lib.strCells ⟨(digN x2).toArray⟩) := by
            simp only [Hid]
            rw [HJ.out, if_neg hk0]
            simp [textR, hf, ht, Lib.byteCells, Lib.strCells]
          clear HJ
          go_wp2_with fail
          have HBD0 : Hid (Lib.IsBuilder 137 5 w1.heap.size w1.heap.size bs (wr.alloc (.cells #[.int .i64 x1, .int .i64 x2] 73))) := builder_below HBD.out (bel_alloc (Below.refl _ _) _)
          have HX0 : Hid ((wr.alloc (.cells #[.int .i64 x1, .int .i64 x2] 73)).heap[wr.heap.size]? = some (.cells #[.int .i64 x1, .int .i64 x2] 73)) := heap_alloc_new wr _
          have HB0 : Hid (Below w1.heap.size w1 (wr.alloc (.cells #[.int .i64 x1, .int .i64 x2] 73))) := bel_alloc HB.out _
          clear HBD
          have hl0 := hjl2
          refine (writeByte_any w1.heap.size w1.heap.size (bs) 44 _ HBD0.out (by have := hl0; omega) HB0.out.size).mono ?_
          rintro e1 v1 ⟨rfl, hbd1, hb1, ho1⟩
          have HX1 : Hid (v1.heap[wr.heap.size]? = some (.cells #[.int .i64 x1, .int .i64 x2] 73)) := ho1 _ _ HX0.out (by simp; omega) (by simp)
          have hl1 := len_byte hl0 (.int .u8 44)
          have HBD1 : Hid (Lib.IsBuilder 137 5 w1.heap.size w1.heap.size (bs ++ [.int .u8 44]) v1) := .inr hbd1
          have HB1 : Hid (Below w1.heap.size w1 v1) := HB0.out.trans hb1
          have q1 : v1.cell? ⟨wr.heap.size, 0, none⟩ = some (.int .i64 x1) := blk_cell HX1.out rfl
          have q2 : v1.cell? ⟨wr.heap.size, 1, none⟩ = some (.int .i64 x2) := blk_cell HX1.out rfl
          have q3 : wr.heap.size < v1.heap.size := blk_lt HX1.out
          clear hbd1 hb1 ho1 HX0 HBD0 HB0
          go_wp2_with fail
          clear q1 q2 q3
          refine (fmt_dig x1 (by omega) (by omega) _ (HTAB.out _ HB1.out)).mono ?_
          rintro e2 v2 ⟨rfl, hb2⟩
          have HX2 : Hid (v2.heap[wr.heap.size]? = some (.cells #[.int .i64 x1, .int .i64 x2] 73)) := blk_keep hb2 HX1.out
          have hbd2 := builder_below HBD1.out hb2
          have hl2 := hl1
          have HBD2 := Lib.hid hbd2
          have HB2 : Hid (Below w1.heap.size w1 v2) := bel_chain hb2 HB1.out
          have q1 : v2.cell? ⟨wr.heap.size, 0, none⟩ = some (.int .i64 x1) := blk_cell HX2.out rfl
          have q2 : v2.cell? ⟨wr.heap.size, 1, none⟩ = some (.int .i64 x2) := blk_cell HX2.out rfl
          have q3 : wr.heap.size < v2.heap.size := blk_lt HX2.out
          clear hbd2 hb2 HX1 HBD1 HB1
          go_wp2_with fail
          clear q1 q2 q3
          refine (writeString_any w1.heap.size w1.heap.size (bs ++ [.int .u8 44]) ⟨(digN x1).toArray⟩ _ HBD2.out (by have := hl2; have := ba_size (digN x1); omega) HB2.out.size).mono ?_
          rintro e3 v3 ⟨rfl, hbd3, hb3, ho3⟩
          have HX3 : Hid (v3.heap[wr.heap.size]? = some (.cells #[.int .i64 x1, .int .i64 x2] 73)) := ho3 _ _ HX2.out (by simp; omega) (by simp)
          have hl3 := len_str hl2 (hd1.2)
          have HBD3 : Hid (Lib.IsBuilder 137 5 w1.heap.size w1.heap.size (bs ++ [.int .u8 44] ++ Lib.strCells ⟨(digN x1).toArray⟩) v3) := .inr hbd3
          have HB3 : Hid (Below w1.heap.size w1 v3) := HB2.out.trans hb3
          have q1 : v3.cell? ⟨wr.heap.size, 0, none⟩ = some (.int .i64 x1) := blk_cell HX3.out rfl
          have q2 : v3.cell? ⟨wr.heap.size, 1, none⟩ = some (.int .i64 x2) := blk_cell HX3.out rfl
          have q3 : wr.heap.size < v3.heap.size := blk_lt HX3.out
          clear hbd3 hb3 ho3 HX2 HBD2 HB2
          go_wp2_with fail
          clear q1 q2 q3
          refine (writeByte_any w1.heap.size w1.heap.size (bs ++ [.int .u8 44] ++ Lib.strCells ⟨(digN x1).toArray⟩) 45 _ HBD3.out (by have := hl3; omega) HB3.out.size).mono ?_
          rintro e4 v4 ⟨rfl, hbd4, hb4, ho4⟩
          have HX4 : Hid (v4.heap[wr.heap.size]? = some (.cells #[.int .i64 x1, .int .i64 x2] 73)) := ho4 _ _ HX3.out (by simp; omega) (by simp)
          have hl4 := len_byte hl3 (.int .u8 45)
          have HBD4 : Hid (Lib.IsBuilder 137 5 w1.heap.size w1.heap.size (bs ++ [.int .u8 44] ++ Lib.strCells ⟨(digN x1).toArray⟩ ++ [.int .u8 45]) v4) := .inr hbd4
          have HB4 : Hid (Below w1.heap.size w1 v4) := HB3.out.trans hb4
          have q1 : v4.cell? ⟨wr.heap.size, 0, none⟩ = some (.int .i64 x1) := blk_cell HX4.out rfl
          have q2 : v4.cell? ⟨wr.heap.size, 1, none⟩ = some (.int .i64 x2) := blk_cell HX4.out rfl
          have q3 : wr.heap.size < v4.heap.size := blk_lt HX4.out
          clear hbd4 hb4 ho4 HX3 HBD3 HB3
          go_wp2_with fail
          clear q1 q2 q3
          refine (fmt_dig x2 (by omega) (by omega) _ (HTAB.out _ HB4.out)).mono ?_
          rintro e5 v5 ⟨rfl, hb5⟩
          have HX5 : Hid (v5.heap[wr.heap.size]? = some (.cells #[.int .i64 x1, .int .i64 x2] 73)) := blk_keep hb5 HX4.out
          have hbd5 := builder_below HBD4.out hb5
          have hl5 := hl4
          have HBD5 := Lib.hid hbd5
          have HB5 : Hid (Below w1.heap.size w1 v5) := bel_chain hb5 HB4.out
          have q1 : v5.cell? ⟨wr.heap.size, 0, none⟩ = some (.int .i64 x1) := blk_cell HX5.out rfl
          have q2 : v5.cell? ⟨wr.heap.size, 1, none⟩ = some (.int .i64 x2) := blk_cell HX5.out rfl
          have q3 : wr.heap.size < v5.heap.size := blk_lt HX5.out
          clear hbd5 hb5 HX4 HBD4 HB4
          go_wp2_with fail
          clear q1 q2 q3
          refine (writeString_any w1.heap.size w1.heap.size (bs ++ [.int .u8 44] ++ Lib.strCells ⟨(digN x1).toArray⟩ ++ [.int .u8 45]) ⟨(digN x2).toArray⟩ _ HBD5.out (by have := hl5; have := ba_size (digN x2); omega) HB5.out.size).mono ?_
          rintro e6 v6 ⟨rfl, hbd6, hb6, ho6⟩
          have HX6 : Hid (v6.heap[wr.heap.size]? = some (.cells #[.int .i64 x1, .int .i64 x2] 73)) := ho6 _ _ HX5.out (by simp; omega) (by simp)
          have hl6 := len_str hl5 (hd2.2)
          have HBD6 : Hid (Lib.IsBuilder 137 5 w1.heap.size w1.heap.size (bs ++ [.int .u8 44] ++ Lib.strCells ⟨(digN x1).toArray⟩ ++ [.int .u8 45] ++ Lib.strCells ⟨(digN x2).toArray⟩) v6) := .inr hbd6
          have HB6 : Hid (Below w1.heap.size w1 v6) := HB5.out.trans hb6
          have q1 : v6.cell? ⟨wr.heap.size, 0, none⟩ = some (.int .i64 x1) := blk_cell HX6.out rfl
          have q2 : v6.cell? ⟨wr.heap.size, 1, none⟩ = some (.int .i64 x2) := blk_cell HX6.out rfl
          have q3 : wr.heap.size < v6.heap.size := blk_lt HX6.out
          clear hbd6 hb6 ho6 HX5 HBD5 HB5
          go_wp2_with fail
          clear q1 q2 q3
          go_roundw
          case rel => exact ⟨k + 1, by omega, by go_num, by rw [HTK.out]; exact HBD6.out, HB6.out⟩
          case measure => simp [intOf]; omega
        · have HTK : Hid (Lib.byteCells ([98, 121, 116, 101, 115, 61] ++ joinT textR (L.take (k + 1))) = bs ++ [.int .u8 44] ++ Lib.strCells ⟨(digN x1).toArray⟩ ++ [.int .u8 45]) := by
            simp only [Hid]
            rw [HJ.out, if_neg hk0]
            simp [textR, hf, ht, Lib.byteCells, Lib.strCells]
          clear HJ
          go_wp2_with fail
          have HBD0 : Hid (Lib.IsBuilder 137 5 w1.heap.size w1.heap.size bs (wr.alloc (.cells #[.int .i64 x1, .int .i64 x2] 73))) := builder_below HBD.out (bel_alloc (Below.refl _ _) _)
          have HX0 : Hid ((wr.alloc (.cells #[.int .i64 x1, .int .i64 x2] 73)).heap[wr.heap.size]? = some (.cells #[.int .i64 x1, .int .i64 x2] 73)) := heap_alloc_new wr _
          have HB0 : Hid (Below w1.heap.size w1 (wr.alloc (.cells #[.int .i64 x1, .int .i64 x2] 73))) := bel_alloc HB.out _
          clear HBD
          have hl0 := hjl2
          refine (writeByte_any w1.heap.size w1.heap.size (bs) 44 _ HBD0.out (by have := hl0; omega) HB0.out.size).mono ?_
          rintro e1 v1 ⟨rfl, hbd1, hb1, ho1⟩
          have HX1 : Hid (v1.heap[wr.heap.size]? = some (.cells #[.int .i64 x1, .int .i64 x2] 73)) := ho1 _ _ HX0.out (by simp; omega) (by simp)
          have hl1 := len_byte hl0 (.int .u8 44)
          have HBD1 : Hid (Lib.IsBuilder 137 5 w1.heap.size w1.heap.size (bs ++ [.int .u8 44]) v1) := .inr hbd1
          have HB1 : Hid (Below w1.heap.size w1 v1) := HB0.out.trans hb1
          have q1 : v1.cell? ⟨wr.heap.size, 0, none⟩ = some (.int .i64 x1) := blk_cell HX1.out rfl
          have q2 : v1.cell? ⟨wr.heap.size, 1, none⟩ = some (.int .i64 x2) := blk_cell HX1.out rfl
          have q3 : wr.heap.size < v1.heap.size := blk_lt HX1.out
          clear hbd1 hb1 ho1 HX0 HBD0 HB0
          go_wp2_with fail
          clear q1 q2 q3
          refine (fmt_dig x1 (by omega) (by omega) _ (HTAB.out _ HB1.out)).mono ?_
          rintro e2 v2 ⟨rfl, hb2⟩
          have HX2 : Hid (v2.heap[wr.heap.size]? = some (.cells #[.int .i64 x1, .int .i64 x2] 73)) := blk_keep hb2 HX1.out
          have hbd2 := builder_below HBD1.out hb2
          have hl2 := hl1
          have HBD2 := Lib.hid hbd2
          have HB2 : Hid (Below w1.heap.size w1 v2) := bel_chain hb2 HB1.out
          have q1 : v2.cell? ⟨wr.heap.size, 0, none⟩ = some (.int .i64 x1) := blk_cell HX2.out rfl
          have q2 : v2.cell? ⟨wr.heap.size, 1, none⟩ = some (.int .i64 x2) := blk_cell HX2.out rfl
          have q3 : wr.heap.size < v2.heap.size := blk_lt HX2.out
          clear hbd2 hb2 HX1 HBD1 HB1
          go_wp2_with fail
          clear q1 q2 q3
          refine (writeString_any w1.heap.size w1.heap.size (bs ++ [.int .u8 44]) ⟨(digN x1).toArray⟩ _ HBD2.out (by have := hl2; have := ba_size (digN x1); omega) HB2.out.size).mono ?_
          rintro e3 v3 ⟨rfl, hbd3, hb3, ho3⟩
          have HX3 : Hid (v3.heap[wr.heap.size]? = some (.cells #[.int .i64 x1, .int .i64 x2] 73)) := ho3 _ _ HX2.out (by simp; omega) (by simp)
          have hl3 := len_str hl2 (hd1.2)
          have HBD3 : Hid (Lib.IsBuilder 137 5 w1.heap.size w1.heap.size (bs ++ [.int .u8 44] ++ Lib.strCells ⟨(digN x1).toArray⟩) v3) := .inr hbd3
          have HB3 : Hid (Below w1.heap.size w1 v3) := HB2.out.trans hb3
          have q1 : v3.cell? ⟨wr.heap.size, 0, none⟩ = some (.int .i64 x1) := blk_cell HX3.out rfl
          have q2 : v3.cell? ⟨wr.heap.size, 1, none⟩ = some (.int .i64 x2) := blk_cell HX3.out rfl
          have q3 : wr.heap.size < v3.heap.size := blk_lt HX3.out
          clear hbd3 hb3 ho3 HX2 HBD2 HB2
          go_wp2_with fail
          clear q1 q2 q3
          refine (writeByte_any w1.heap.size w1.heap.size (bs ++ [.int .u8 44] ++ Lib.strCells ⟨(digN x1).toArray⟩) 45 _ HBD3.out (by have := hl3; omega) HB3.out.size).mono ?_
          rintro e4 v4 ⟨rfl, hbd4, hb4, ho4⟩
          have HX4 : Hid (v4.heap[wr.heap.size]? = some (.cells #[.int .i64 x1, .int .i64 x2] 73)) := ho4 _ _ HX3.out (by simp; omega) (by simp)
          have hl4 := len_byte hl3 (.int .u8 45)
          have HBD4 : Hid (Lib.IsBuilder 137 5 w1.heap.size w1.heap.size (bs ++ [.int .u8 44] ++ Lib.strCells ⟨(digN x1).toArray⟩ ++ [.int .u8 45]) v4) := .inr hbd4
          have HB4 : Hid (Below w1.heap.size w1 v4) := HB3.out.trans hb4
          have q1 : v4.cell? ⟨wr.heap.size, 0, none⟩ = some (.int .i64 x1) := blk_cell HX4.out rfl
          have q2 : v4.cell? ⟨wr.heap.size, 1, none⟩ = some (.int .i64 x2) := blk_cell HX4.out rfl
          have q3 : wr.heap.size < v4.heap.size := blk_lt HX4.out
          clear hbd4 hb4 ho4 HX3 HBD3 HB3
          go_wp2_with fail
          clear q1 q2 q3
          go_roundw
          case rel => exact ⟨k + 1, by omega, by go_num, by rw [HTK.out]; exact HBD4.out, HB4.out⟩
          case measure => simp [intOf]; omega
        · have HTK : Hid (Lib.byteCells ([98, 121, 116, 101, 115, 61] ++ joinT textR (L.take (k + 1))) = bs ++ [.int .u8 44] ++ [.int .u8 45] ++ Lib.strCells ⟨(digN x2).toArray⟩) := by
            simp only [Hid]
            rw [HJ.out, if_neg hk0]
            simp [textR, hf, ht, Lib.byteCells, Lib.strCells]
          clear HJ
          go_wp2_with fail
          have HBD0 : Hid (Lib.IsBuilder 137 5 w1.heap.size w1.heap.size bs (wr.alloc (.cells #[.int .i64 x1, .int .i64 x2] 73))) := builder_below HBD.out (bel_alloc (Below.refl _ _) _)
          have HX0 : Hid ((wr.alloc (.cells #[.int .i64 x1, .int .i64 x2] 73)).heap[wr.heap.size]? = some (.cells #[.int .i64 x1, .int .i64 x2] 73)) := heap_alloc_new wr _
          have HB0 : Hid (Below w1.heap.size w1 (wr.alloc (.cells #[.int .i64 x1, .int .i64 x2] 73))) := bel_alloc HB.out _
          clear HBD
          have hl0 := hjl2
          refine (writeByte_any w1.heap.size w1.heap.size (bs) 44 _ HBD0.out (by have := hl0; omega) HB0.out.size).mono ?_
          rintro e1 v1 ⟨rfl, hbd1, hb1, ho1⟩
          have HX1 : Hid (v1.heap[wr.heap.size]? = some (.cells #[.int .i64 x1, .int .i64 x2] 73)) := ho1 _ _ HX0.out (by simp; omega) (by simp)
          have hl1 := len_byte hl0 (.int .u8 44)
          have HBD1 : Hid (Lib.IsBuilder 137 5 w1.heap.size w1.heap.size (bs ++ [.int .u8 44]) v1) := .inr hbd1
          have HB1 : Hid (Below w1.heap.size w1 v1) := HB0.out.trans hb1
          have q1 : v1.cell? ⟨wr.heap.size, 0, none⟩ = some (.int .i64 x1) := blk_cell HX1.out rfl
          have q2 : v1.cell? ⟨wr.heap.size, 1, none⟩ = some (.int .i64 x2) := blk_cell HX1.out rfl
          have q3 : wr.heap.size < v1.heap.size := blk_lt HX1.out
          clear hbd1 hb1 ho1 HX0 HBD0 HB0
          go_wp2_with fail
          clear q1 q2 q3
          refine (writeByte_any w1.heap.size w1.heap.size (bs ++ [.int .u8 44]) 45 _ HBD1.out (by have := hl1; omega) HB1.out.size).mono ?_
          rintro e2 v2 ⟨rfl, hbd2, hb2, ho2⟩
          have HX2 : Hid (v2.heap[wr.heap.size]? = some (.cells #[.int .i64 x1, .int .i64 x2] 73)) := ho2 _ _ HX1.out (by simp; omega) (by simp)
          have hl2 := len_byte hl1 (.int .u8 45)
          have HBD2 : Hid (Lib.IsBuilder 137 5 w1.heap.size w1.heap.size (bs ++ [.int .u8 44] ++ [.int .u8 45]) v2) := .inr hbd2
          have HB2 : Hid (Below w1.heap.size w1 v2) := HB1.out.trans hb2
          have q1 : v2.cell? ⟨wr.heap.size, 0, none⟩ = some (.int .i64 x1) := blk_cell HX2.out rfl
          have q2 : v2.cell? ⟨wr.heap.size, 1, none⟩ = some (.int .i64 x2) := blk_cell HX2.out rfl
          have q3 : wr.heap.size < v2.heap.size := blk_lt HX2.out
          clear hbd2 hb2 ho2 HX1 HBD1 HB1
          go_wp2_with fail
          clear q1 q2 q3
          refine (fmt_dig x2 (by omega) (by omega) _ (HTAB.out _ HB2.out)).mono ?_
          rintro e3 v3 ⟨rfl, hb3⟩
          have HX3 : Hid (v3.heap[wr.heap.size]? = some (.cells #[.int .i64 x1, .int .i64 x2] 73)) := blk_keep hb3 HX2.out
          have hbd3 := builder_below HBD2.out hb3
          have hl3 := hl2
          have HBD3 := Lib.hid hbd3
          have HB3 : Hid (Below w1.heap.size w1 v3) := bel_chain hb3 HB2.out
          have q1 : v3.cell? ⟨wr.heap.size, 0, none⟩ = some (.int .i64 x1) := blk_cell HX3.out rfl
          have q2 : v3.cell? ⟨wr.heap.size, 1, none⟩ = some (.int .i64 x2) := blk_cell HX3.out rfl
          have q3 : wr.heap.size < v3.heap.size := blk_lt HX3.out
          clear hbd3 hb3 HX2 HBD2 HB2
          go_wp2_with fail
          clear q1 q2 q3
          refine (writeString_any w1.heap.size w1.heap.size (bs ++ [.int .u8 44] ++ [.int .u8 45]) ⟨(digN x2).toArray⟩ _ HBD3.out (by have := hl3; have := ba_size (digN x2); omega) HB3.out.size).mono ?_
          rintro e4 v4 ⟨rfl, hbd4, hb4, ho4⟩
          have HX4 : Hid (v4.heap[wr.heap.size]? = some (.cells #[.int .i64 x1, .int .i64 x2] 73)) := ho4 _ _ HX3.out (by simp; omega) (by simp)
          have hl4 := len_str hl3 (hd2.2)
          have HBD4 : Hid (Lib.IsBuilder 137 5 w1.heap.size w1.heap.size (bs ++ [.int .u8 44] ++ [.int .u8 45] ++ Lib.strCells ⟨(digN x2).toArray⟩) v4) := .inr hbd4
          have HB4 : Hid (Below w1.heap.size w1 v4) := HB3.out.trans hb4
          have q1 : v4.cell? ⟨wr.heap.size, 0, none⟩ = some (.int .i64 x1) := blk_cell HX4.out rfl
          have q2 : v4.cell? ⟨wr.heap.size, 1, none⟩ = some (.int .i64 x2) := blk_cell HX4.out rfl
          have q3 : wr.heap.size < v4.heap.size := blk_lt HX4.out
          clear hbd4 hb4 ho4 HX3 HBD3 HB3
          go_wp2_with fail
          clear q1 q2 q3
          go_roundw
          case rel => exact ⟨k + 1, by omega, by go_num, by rw [HTK.out]; exact HBD4.out, HB4.out⟩
          case measure => simp [intOf]; omega
end Go.Proofs.YtfpfdgljhcpkpaaDoor
/- Contract of the document's Text. -/
namespace Go.Proofs.YtfpfdgljhcpkpaaDoor
open Go.RowKit

theorem add_run {a b : ByteArray} (h : a.size + b.size ≤ 1000000) : ∀ W, (Op.stringOp .add a b).run Tryd.prog W = .ok (.string (a ++ b)) W := fun W => run_string_add_sum W _ _ (by omega)
theorem str_next {L : List (Int × Int)} {k : Nat} (hk : k < L.length) {h : List UInt8} : h ++ joinT textR (L.take (k + 1)) = if k = 0 then (h ++ joinT textR (L.take k)) ++ textR L[k] else (h ++ joinT textR (L.take k)) ++ 44 :: textR L[k] := by
  rw [List.take_succ_eq_append_getElem hk, joinT_snoc]
  by_cases h0 : k = 0
  · subst h0
    simp [joinT]
  · rw [if_neg h0, if_neg (by rw [List.length_take]; omega)]
    simp
set_option maxHeartbeats 16000000 in
set_option maxRecDepth 100000 in
theorem r4Text_any (A : Option Addr) (c : Nat) (L : List (Int × Int)) (w : World) (h : Sp w A c L) (hl : L.length ≤ 1000) :
    Calls Tryd.prog 41 #[.slice A L.length c] w (TextPost (textV L) w) := by
  have H := Lib.hid h
  clear h
  by_cases h0 : L.length = 0
  · have HV : Hid (textV L = ([], 1)) := by simp only [Hid]; unfold textV; rw [if_pos h0]
    have h0' : (L.length : Int) = 0 := by omega
    go_enter Tryd.func41, Tryd.ntmps41
    go_wp2_with fail
    go_ret2
    exact text_ret HV.out rfl rfl (Below.refl _ _)
  have h0' : ((L.length : Int) == 0) = false := by rw [beq_eq_false_iff_ne]; omega
  go_enter Tryd.func41, Tryd.ntmps41
  go_wp2_with fail
  go_loopw [4, 5, 6, 12] (fun s _ _ i wr => ∃ k : Nat, k ≤ L.length ∧ i = .int .i64 k ∧ s = .string ⟨([98, 121, 116, 101, 115, 61] ++ joinT textR (L.take k)).toArray⟩ ∧ allR (L.take k) = true ∧ Below w.heap.size w wr) (fun _ _ _ i _ => L.length - (intOf i).toNat)
  case atStart => exact ⟨0, Nat.zero_le _, rfl, rfl, rfl, Below.refl _ _⟩
  case round =>
    obtain ⟨k, hk, rfl, rfl, hin, hbw⟩ := hrel
    have HI := Lib.hid hin
    have HB := Lib.hid hbw
    clear hin hbw
    by_cases hlt : k < L.length
    rotate_left
    · have hf := HI.out
      rw [take_all hlt] at hf ⊢
      have HF := Lib.hid hf
      clear hf HI
      by_cases hbig : 64 < L.length
      · have hb64 : decide ((64 : Int) < (L.length : Int)) = true := by simp; omega
        have HV : Hid (textV L = ([], 4)) := by simp only [Hid]; unfold textV; rw [if_neg h0, if_neg (by rw [HF.out]; simp), if_pos hbig]
        go_wp2_with fail
        go_ret2
        exact text_ret HV.out rfl rfl HB.out
      · have hb64 : decide ((64 : Int) < (L.length : Int)) = false := by simp; omega
        have HV : Hid (textV L = (textQ L, 0)) := by simp only [Hid]; unfold textV; rw [if_neg h0, if_neg (by rw [HF.out]; simp), if_neg hbig]
        go_wp2_with fail
        go_ret2
        exact text_ret HV.out rfl rfl HB.out
    obtain ⟨b, off, e, hb, c1, c2⟩ := (H.out.below HB.out).at_ hlt
    have HS := fun h2 => Lib.hid (allR_step hlt HI.out h2)
    have HN := fun h2 => Lib.hid (allR_no hlt h2)
    have HJ := Lib.hid (str_next hlt (h := [98, 121, 116, 101, 115, 61]))
    have hjl := joinT_length textR (L.take k) (fun x hx => by have := (textR_len (List.all_eq_true.1 HI.out x hx)).2; omega)
    have hjl2 : ([98, 121, 116, 101, 115, 61] ++ joinT textR (L.take k)).length ≤ 200000 := by
      rw [List.length_append]; simp only [List.length_take] at hjl; simp; omega
    obtain ⟨⟨x1, x2⟩, hx⟩ : ∃ x, L[k] = x := ⟨_, rfl⟩
    rw [hx] at c1 c2 HS HN HJ
    obtain ⟨sl, hsl⟩ : ∃ sl, [98, 121, 116, 101, 115, 61] ++ joinT textR (L.take k) = sl := ⟨_, rfl⟩
    rw [hsl] at HJ hjl2 ⊢
    clear hx hjl hsl HI
    rw [e]
    have hR := fun W => Lib.hid (r4right_any x1 x2 W)
    cases hok : rightR (x1, x2)
    · rw [hok] at hR
      have HV : Hid (textV L = ([], 1)) := by simp only [Hid]; unfold textV; rw [if_neg h0, if_pos (HN hok).out]
      clear HN HS hok HJ
      go_wp2_with fail
      refine (hR _).out.mono ?_
      rintro e1 w3 ⟨rfl, rfl⟩
      clear hR
      go_wp2_with fail
      go_ret2
      exact text_ret HV.out rfl rfl (bel_alloc (bel_alloc HB.out _) _)
    rw [hok] at hR
    have HF := HS hok
    rw [rightR_iff] at hok
    obtain ⟨r1, r2, r3⟩ := hok
    simp only at c1 c2 r1 r2 r3
    have hd1 := digN_len r1
    have hd2 := digN_len r2
    clear HN HS
    have H6 : (k = 0 ∧ 0 ≤ x1 ∧ 0 ≤ x2) ∨ (k = 0 ∧ 0 ≤ x1 ∧ ¬ 0 ≤ x2) ∨ (k = 0 ∧ ¬ 0 ≤ x1 ∧ 0 ≤ x2) ∨ (¬ k = 0 ∧ 0 ≤ x1 ∧ 0 ≤ x2) ∨ (¬ k = 0 ∧ 0 ≤ x1 ∧ ¬ 0 ≤ x2) ∨ (¬ k = 0 ∧ ¬ 0 ≤ x1 ∧ 0 ≤ x2) := by omega
    clear r3
    go_wp2_with fail
    refine (hR _).out.mono ?_
    rintro e1 w3 ⟨rfl, hw3⟩
    have HB3 : Hid (Below w.heap.size w w3) := by simp only [Hid]; rw [← hw3]; exact bel_alloc (bel_alloc HB.out _) _
    have HX3 : Hid (w3.heap[wr.heap.size]? = some (.cells #[.int .i64 x1, .int .i64 x2] 73)) := by simp only [Hid]; rw [← hw3]; exact blk_skip (heap_alloc_new wr _)
    clear hw3 hR c1 c2 HB
    rcases H6 with ⟨hk0, hf, ht⟩ | ⟨hk0, hf, ht⟩ | ⟨hk0, hf, ht⟩ | ⟨hk0, hf, ht⟩ | ⟨hk0, hf, ht⟩ | ⟨hk0, hf, ht⟩
    · have HTK : Hid ((⟨([98, 121, 116, 101, 115, 61] ++ joinT textR (L.take (k + 1))).toArray⟩ : ByteArray) = (((⟨sl.toArray⟩ ++ ⟨(digN x1).toArray⟩) ++ ⟨#[45]⟩) ++ ⟨(digN x2).toArray⟩)) := by
        simp only [Hid]
        rw [HJ.out, if_pos hk0]
        apply ByteArray.ext
        have hf2 : 0 ≤ x1 := by omega
        have ht2 : 0 ≤ x2 := by omega
        simp only [textR, if_pos hf2, if_pos ht2]
        simp
      clear HJ
      have hA1 := add_run (a := ⟨sl.toArray⟩) (b := ⟨(digN x1).toArray⟩) (by have e0 := ba_size sl; have e1 := ba_size (digN x1); have e2 := ba_size (digN x2); have e3 : (⟨#[45]⟩ : ByteArray).size = 1 := rfl; have e4 : (⟨#[44]⟩ : ByteArray).size = 1 := rfl; first | omega | (simp only [ByteArray.size_append]; omega))
      have hA2 := add_run (a := (⟨sl.toArray⟩ ++ ⟨(digN x1).toArray⟩)) (b := ⟨#[45]⟩) (by have e0 := ba_size sl; have e1 := ba_size (digN x1); have e2 := ba_size (digN x2); have e3 : (⟨#[45]⟩ : ByteArray).size = 1 := rfl; have e4 : (⟨#[44]⟩ : ByteArray).size = 1 := rfl; first | omega | (simp only [ByteArray.size_append]; omega))
      have hA3 := add_run (a := ((⟨sl.toArray⟩ ++ ⟨(digN x1).toArray⟩) ++ ⟨#[45]⟩)) (b := ⟨(digN x2).toArray⟩) (by have e0 := ba_size sl; have e1 := ba_size (digN x1); have e2 := ba_size (digN x2); have e3 : (⟨#[45]⟩ : ByteArray).size = 1 := rfl; have e4 : (⟨#[44]⟩ : ByteArray).size = 1 := rfl; first | omega | (simp only [ByteArray.size_append]; omega))
      have q1 : w3.cell? ⟨wr.heap.size, 0, none⟩ = some (.int .i64 x1) := blk_cell HX3.out rfl
      have q2 : w3.cell? ⟨wr.heap.size, 1, none⟩ = some (.int .i64 x2) := blk_cell HX3.out rfl
      have q3 : wr.heap.size < w3.heap.size := blk_lt HX3.out
      go_wp2_with fail
      refine (digits_any x1.toNat x1 _ (Nat.le_refl _) (by omega) (by omega)).mono ?_
      rintro e4 w4 ⟨rfl, hb4⟩
      have HX4 : Hid (w4.heap[wr.heap.size]? = some (.cells #[.int .i64 x1, .int .i64 x2] 73)) := blk_keep hb4 HX3.out
      have HB4 : Hid (Below w.heap.size w w4) := bel_chain hb4 HB3.out
      clear q1 q2 q3 hb4 HX3 HB3
      have q1 : w4.cell? ⟨wr.heap.size, 0, none⟩ = some (.int .i64 x1) := blk_cell HX4.out rfl
      have q2 : w4.cell? ⟨wr.heap.size, 1, none⟩ = some (.int .i64 x2) := blk_cell HX4.out rfl
      have q3 : wr.heap.size < w4.heap.size := blk_lt HX4.out
      go_wp2_with fail
      refine (digits_any x2.toNat x2 _ (Nat.le_refl _) (by omega) (by omega)).mono ?_
      rintro e5 w5 ⟨rfl, hb5⟩
      have HX5 : Hid (w5.heap[wr.heap.size]? = some (.cells #[.int .i64 x1, .int .i64 x2] 73)) := blk_keep hb5 HX4.out
      have HB5 : Hid (Below w.heap.size w w5) := bel_chain hb5 HB4.out
      clear q1 q2 q3 hb5 HX4 HB4
      have q1 : w5.cell? ⟨wr.heap.size, 0, none⟩ = some (.int .i64 x1) := blk_cell HX5.out rfl
      have q2 : w5.cell? ⟨wr.heap.size, 1, none⟩ = some (.int .i64 x2) := blk_cell HX5.out rfl
      have q3 : wr.heap.size < w5.heap.size := blk_lt HX5.out
      go_wp2_with fail
      go_roundw
      case rel => exact ⟨k + 1, by omega, by go_num, by rw [HTK.out], HF.out, HB5.out⟩
      case measure => simp [intOf]; omega
    · have HTK : Hid ((⟨([98, 121, 116, 101, 115, 61] ++ joinT textR (L.take (k + 1))).toArray⟩ : ByteArray) = ((⟨sl.toArray⟩ ++ ⟨(digN x1).toArray⟩) ++ ⟨#[45]⟩)) := by
        simp only [Hid]
        rw [HJ.out, if_pos hk0]
        apply ByteArray.ext
        have hf2 : 0 ≤ x1 := by omega
        have ht2 : ¬ 0 ≤ x2 := by omega
        simp only [textR, if_pos hf2, if_neg ht2]
        simp
      clear HJ
      have hA1 := add_run (a := ⟨sl.toArray⟩) (b := ⟨(digN x1).toArray⟩) (by have e0 := ba_size sl; have e1 := ba_size (digN x1); have e2 := ba_size (digN x2); have e3 : (⟨#[45]⟩ : ByteArray).size = 1 := rfl; have e4 : (⟨#[44]⟩ : ByteArray).size = 1 := rfl; first | omega | (simp only [ByteArray.size_append]; omega))
      have hA2 := add_run (a := (⟨sl.toArray⟩ ++ ⟨(digN x1).toArray⟩)) (b := ⟨#[45]⟩) (by have e0 := ba_size sl; have e1 := ba_size (digN x1); have e2 := ba_size (digN x2); have e3 : (⟨#[45]⟩ : ByteArray).size = 1 := rfl; have e4 : (⟨#[44]⟩ : ByteArray).size = 1 := rfl; first | omega | (simp only [ByteArray.size_append]; omega))
      have q1 : w3.cell? ⟨wr.heap.size, 0, none⟩ = some (.int .i64 x1) := blk_cell HX3.out rfl
      have q2 : w3.cell? ⟨wr.heap.size, 1, none⟩ = some (.int .i64 x2) := blk_cell HX3.out rfl
      have q3 : wr.heap.size < w3.heap.size := blk_lt HX3.out
      go_wp2_with fail
      refine (digits_any x1.toNat x1 _ (Nat.le_refl _) (by omega) (by omega)).mono ?_
      rintro e4 w4 ⟨rfl, hb4⟩
      have HX4 : Hid (w4.heap[wr.heap.size]? = some (.cells #[.int .i64 x1, .int .i64 x2] 73)) := blk_keep hb4 HX3.out
      have HB4 : Hid (Below w.heap.size w w4) := bel_chain hb4 HB3.out
      clear q1 q2 q3 hb4 HX3 HB3
      have q1 : w4.cell? ⟨wr.heap.size, 0, none⟩ = some (.int .i64 x1) := blk_cell HX4.out rfl
      have q2 : w4.cell? ⟨wr.heap.size, 1, none⟩ = some (.int .i64 x2) := blk_cell HX4.out rfl
      have q3 : wr.heap.size < w4.heap.size := blk_lt HX4.out
      go_wp2_with fail
      go_roundw
      case rel => exact ⟨k + 1, by omega, by go_num, by rw [HTK.out], HF.out, HB4.out⟩
      case measure => simp [intOf]; omega
    · have HTK : Hid ((⟨([98, 121, 116, 101, 115, 61] ++ joinT textR (L.take (k + 1))).toArray⟩ : ByteArray) = ((⟨sl.toArray⟩ ++ ⟨#[45]⟩) ++ ⟨(digN x2).toArray⟩)) := by
        simp only [Hid]
        rw [HJ.out, if_pos hk0]
        apply ByteArray.ext
        have hf2 : ¬ 0 ≤ x1 := by omega
        have ht2 : 0 ≤ x2 := by omega
        simp only [textR, if_neg hf2, if_pos ht2]
        simp
      clear HJ
      have hA1 := add_run (a := ⟨sl.toArray⟩) (b := ⟨#[45]⟩) (by have e0 := ba_size sl; have e1 := ba_size (digN x1); have e2 := ba_size (digN x2); have e3 : (⟨#[45]⟩ : ByteArray).size = 1 := rfl; have e4 : (⟨#[44]⟩ : ByteArray).size = 1 := rfl; first | omega | (simp only [ByteArray.size_append]; omega))
      have hA2 := add_run (a := (⟨sl.toArray⟩ ++ ⟨#[45]⟩)) (b := ⟨(digN x2).toArray⟩) (by have e0 := ba_size sl; have e1 := ba_size (digN x1); have e2 := ba_size (digN x2); have e3 : (⟨#[45]⟩ : ByteArray).size = 1 := rfl; have e4 : (⟨#[44]⟩ : ByteArray).size = 1 := rfl; first | omega | (simp only [ByteArray.size_append]; omega))
      have q1 : w3.cell? ⟨wr.heap.size, 0, none⟩ = some (.int .i64 x1) := blk_cell HX3.out rfl
      have q2 : w3.cell? ⟨wr.heap.size, 1, none⟩ = some (.int .i64 x2) := blk_cell HX3.out rfl
      have q3 : wr.heap.size < w3.heap.size := blk_lt HX3.out
      go_wp2_with fail
      refine (digits_any x2.toNat x2 _ (Nat.le_refl _) (by omega) (by omega)).mono ?_
      rintro e4 w4 ⟨rfl, hb4⟩
      have HX4 : Hid (w4.heap[wr.heap.size]? = some (.cells #[.int .i64 x1, .int .i64 x2] 73)) := blk_keep hb4 HX3.out
      have HB4 : Hid (Below w.heap.size w w4) := bel_chain hb4 HB3.out
      clear q1 q2 q3 hb4 HX3 HB3
      have q1 : w4.cell? ⟨wr.heap.size, 0, none⟩ = some (.int .i64 x1) := blk_cell HX4.out rfl
      have q2 : w4.cell? ⟨wr.heap.size, 1, none⟩ = some (.int .i64 x2) := blk_cell HX4.out rfl
      have q3 : wr.heap.size < w4.heap.size := blk_lt HX4.out
      go_wp2_with fail
      go_roundw
      case rel => exact ⟨k + 1, by omega, by go_num, by rw [HTK.out], HF.out, HB4.out⟩
      case measure => simp [intOf]; omega
    · have HTK : Hid ((⟨([98, 121, 116, 101, 115, 61] ++ joinT textR (L.take (k + 1))).toArray⟩ : ByteArray) = ((((⟨sl.toArray⟩ ++ ⟨#[44]⟩) ++ ⟨(digN x1).toArray⟩) ++ ⟨#[45]⟩) ++ ⟨(digN x2).toArray⟩)) := by
        simp only [Hid]
        rw [HJ.out, if_neg hk0]
        apply ByteArray.ext
        have hf2 : 0 ≤ x1 := by omega
        have ht2 : 0 ≤ x2 := by omega
        simp only [textR, if_pos hf2, if_pos ht2]
        simp
      clear HJ
      have hA1 := add_run (a := ⟨sl.toArray⟩) (b := ⟨#[44]⟩) (by have e0 := ba_size sl; have e1 := ba_size (digN x1); have e2 := ba_size (digN x2); have e3 : (⟨#[45]⟩ : ByteArray).size = 1 := rfl; have e4 : (⟨#[44]⟩ : ByteArray).size = 1 := rfl; first | omega | (simp only [ByteArray.size_append]; omega))
      have hA2 := add_run (a := (⟨sl.toArray⟩ ++ ⟨#[44]⟩)) (b := ⟨(digN x1).toArray⟩) (by have e0 := ba_size sl; have e1 := ba_size (digN x1); have e2 := ba_size (digN x2); have e3 : (⟨#[45]⟩ : ByteArray).size = 1 := rfl; have e4 : (⟨#[44]⟩ : ByteArray).size = 1 := rfl; first | omega | (simp only [ByteArray.size_append]; omega))
      have hA3 := add_run (a := ((⟨sl.toArray⟩ ++ ⟨#[44]⟩) ++ ⟨(digN x1).toArray⟩)) (b := ⟨#[45]⟩) (by have e0 := ba_size sl; have e1 := ba_size (digN x1); have e2 := ba_size (digN x2); have e3 : (⟨#[45]⟩ : ByteArray).size = 1 := rfl; have e4 : (⟨#[44]⟩ : ByteArray).size = 1 := rfl; first | omega | (simp only [ByteArray.size_append]; omega))
      have hA4 := add_run (a := (((⟨sl.toArray⟩ ++ ⟨#[44]⟩) ++ ⟨(digN x1).toArray⟩) ++ ⟨#[45]⟩)) (b := ⟨(digN x2).toArray⟩) (by have e0 := ba_size sl; have e1 := ba_size (digN x1); have e2 := ba_size (digN x2); have e3 : (⟨#[45]⟩ : ByteArray).size = 1 := rfl; have e4 : (⟨#[44]⟩ : ByteArray).size = 1 := rfl; first | omega | (simp only [ByteArray.size_append]; omega))
      have q1 : w3.cell? ⟨wr.heap.size, 0, none⟩ = some (.int .i64 x1) := blk_cell HX3.out rfl
      have q2 : w3.cell? ⟨wr.heap.size, 1, none⟩ = some (.int .i64 x2) := blk_cell HX3.out rfl
      have q3 : wr.heap.size < w3.heap.size := blk_lt HX3.out
      go_wp2_with fail
      refine (digits_any x1.toNat x1 _ (Nat.le_refl _) (by omega) (by omega)).mono ?_
      rintro e4 w4 ⟨rfl, hb4⟩
      have HX4 : Hid (w4.heap[wr.heap.size]? = some (.cells #[.int .i64 x1, .int .i64 x2] 73)) := blk_keep hb4 HX3.out
      have HB4 : Hid (Below w.heap.size w w4) := bel_chain hb4 HB3.out
      clear q1 q2 q3 hb4 HX3 HB3
      have q1 : w4.cell? ⟨wr.heap.size, 0, none⟩ = some (.int .i64 x1) := blk_cell HX4.out rfl
      have q2 : w4.cell? ⟨wr.heap.size, 1, none⟩ = some (.int .i64 x2) := blk_cell HX4.out rfl
      have q3 : wr.heap.size < w4.heap.size := blk_lt HX4.out
      go_wp2_with fail
      refine (digits_any x2.toNat x2 _ (Nat.le_refl _) (by omega) (by omega)).mono ?_
      rintro e5 w5 ⟨rfl, hb5⟩
      have HX5 : Hid (w5.heap[wr.heap.size]? = some (.cells #[.int .i64 x1, .int .i64 x2] 73)) := blk_keep hb5 HX4.out
      have HB5 : Hid (Below w.heap.size w w5) := bel_chain hb5 HB4.out
      clear q1 q2 q3 hb5 HX4 HB4
      have q1 : w5.cell? ⟨wr.heap.size, 0, none⟩ = some (.int .i64 x1) := blk_cell HX5.out rfl
      have q2 : w5.cell? ⟨wr.heap.size, 1, none⟩ = some (.int .i64 x2) := blk_cell HX5.out rfl
      have q3 : wr.heap.size < w5.heap.size := blk_lt HX5.out
      go_wp2_with fail
      go_roundw
      case rel => exact ⟨k + 1, by omega, by go_num, by rw [HTK.out], HF.out, HB5.out⟩
      case measure => simp [intOf]; omega
    · have HTK : Hid ((⟨([98, 121, 116, 101, 115, 61] ++ joinT textR (L.take (k + 1))).toArray⟩ : ByteArray) = (((⟨sl.toArray⟩ ++ ⟨#[44]⟩) ++ ⟨(digN x1).toArray⟩) ++ ⟨#[45]⟩)) := by
        simp only [Hid]
        rw [HJ.out, if_neg hk0]
        apply ByteArray.ext
        have hf2 : 0 ≤ x1 := by omega
        have ht2 : ¬ 0 ≤ x2 := by omega
        simp only [textR, if_pos hf2, if_neg ht2]
        simp
      clear HJ
      have hA1 := add_run (a := ⟨sl.toArray⟩) (b := ⟨#[44]⟩) (by have e0 := ba_size sl; have e1 := ba_size (digN x1); have e2 := ba_size (digN x2); have e3 : (⟨#[45]⟩ : ByteArray).size = 1 := rfl; have e4 : (⟨#[44]⟩ : ByteArray).size = 1 := rfl; first | omega | (simp only [ByteArray.size_append]; omega))
      have hA2 := add_run (a := (⟨sl.toArray⟩ ++ ⟨#[44]⟩)) (b := ⟨(digN x1).toArray⟩) (by have e0 := ba_size sl; have e1 := ba_size (digN x1); have e2 := ba_size (digN x2); have e3 : (⟨#[45]⟩ : ByteArray).size = 1 := rfl; have e4 : (⟨#[44]⟩ : ByteArray).size = 1 := rfl; first | omega | (simp only [ByteArray.size_append]; omega))
      have hA3 := add_run (a := ((⟨sl.toArray⟩ ++ ⟨#[44]⟩) ++ ⟨(digN x1).toArray⟩)) (b := ⟨#[45]⟩) (by have e0 := ba_size sl; have e1 := ba_size (digN x1); have e2 := ba_size (digN x2); have e3 : (⟨#[45]⟩ : ByteArray).size = 1 := rfl; have e4 : (⟨#[44]⟩ : ByteArray).size = 1 := rfl; first | omega | (simp only [ByteArray.size_append]; omega))
      have q1 : w3.cell? ⟨wr.heap.size, 0, none⟩ = some (.int .i64 x1) := blk_cell HX3.out rfl
      have q2 : w3.cell? ⟨wr.heap.size, 1, none⟩ = some (.int .i64 x2) := blk_cell HX3.out rfl
      have q3 : wr.heap.size < w3.heap.size := blk_lt HX3.out
      go_wp2_with fail
      refine (digits_any x1.toNat x1 _ (Nat.le_refl _) (by omega) (by omega)).mono ?_
      rintro e4 w4 ⟨rfl, hb4⟩
      have HX4 : Hid (w4.heap[wr.heap.size]? = some (.cells #[.int .i64 x1, .int .i64 x2] 73)) := blk_keep hb4 HX3.out
      have HB4 : Hid (Below w.heap.size w w4) := bel_chain hb4 HB3.out
      clear q1 q2 q3 hb4 HX3 HB3
      have q1 : w4.cell? ⟨wr.heap.size, 0, none⟩ = some (.int .i64 x1) := blk_cell HX4.out rfl
      have q2 : w4.cell? ⟨wr.heap.size, 1, none⟩ = some (.int .i64 x2) := blk_cell HX4.out rfl
      have q3 : wr.heap.size < w4.heap.size := blk_lt HX4.out
      go_wp2_with fail
      go_roundw
      case rel => exact ⟨k + 1, by omega, by go_num, by rw [HTK.out], HF.out, HB4.out⟩
      case measure => simp [intOf]; omega
    · have HTK : Hid ((⟨([98, 121, 116, 101, 115, 61] ++ joinT textR (L.take (k + 1))).toArray⟩ : ByteArray) = (((⟨sl.toArray⟩ ++ ⟨#[44]⟩) ++ ⟨#[45]⟩) ++ ⟨(digN x2).toArray⟩)) := by
        simp only [Hid]
        rw [HJ.out, if_neg hk0]
        apply ByteArray.ext
        have hf2 : ¬ 0 ≤ x1 := by omega
        have ht2 : 0 ≤ x2 := by omega
        simp only [textR, if_neg hf2, if_pos ht2]
        simp
      clear HJ
      have hA1 := add_run (a := ⟨sl.toArray⟩) (b := ⟨#[44]⟩) (by have e0 := ba_size sl; have e1 := ba_size (digN x1); have e2 := ba_size (digN x2); have e3 : (⟨#[45]⟩ : ByteArray).size = 1 := rfl; have e4 : (⟨#[44]⟩ : ByteArray).size = 1 := rfl; first | omega | (simp only [ByteArray.size_append]; omega))
      have hA2 := add_run (a := (⟨sl.toArray⟩ ++ ⟨#[44]⟩)) (b := ⟨#[45]⟩) (by have e0 := ba_size sl; have e1 := ba_size (digN x1); have e2 := ba_size (digN x2); have e3 : (⟨#[45]⟩ : ByteArray).size = 1 := rfl; have e4 : (⟨#[44]⟩ : ByteArray).size = 1 := rfl; first | omega | (simp only [ByteArray.size_append]; omega))
      have hA3 := add_run (a := ((⟨sl.toArray⟩ ++ ⟨#[44]⟩) ++ ⟨#[45]⟩)) (b := ⟨(digN x2).toArray⟩) (by have e0 := ba_size sl; have e1 := ba_size (digN x1); have e2 := ba_size (digN x2); have e3 : (⟨#[45]⟩ : ByteArray).size = 1 := rfl; have e4 : (⟨#[44]⟩ : ByteArray).size = 1 := rfl; first | omega | (simp only [ByteArray.size_append]; omega))
      have q1 : w3.cell? ⟨wr.heap.size, 0, none⟩ = some (.int .i64 x1) := blk_cell HX3.out rfl
      have q2 : w3.cell? ⟨wr.heap.size, 1, none⟩ = some (.int .i64 x2) := blk_cell HX3.out rfl
      have q3 : wr.heap.size < w3.heap.size := blk_lt HX3.out
      go_wp2_with fail
      refine (digits_any x2.toNat x2 _ (Nat.le_refl _) (by omega) (by omega)).mono ?_
      rintro e4 w4 ⟨rfl, hb4⟩
      have HX4 : Hid (w4.heap[wr.heap.size]? = some (.cells #[.int .i64 x1, .int .i64 x2] 73)) := blk_keep hb4 HX3.out
      have HB4 : Hid (Below w.heap.size w w4) := bel_chain hb4 HB3.out
      clear q1 q2 q3 hb4 HX3 HB3
      have q1 : w4.cell? ⟨wr.heap.size, 0, none⟩ = some (.int .i64 x1) := blk_cell HX4.out rfl
      have q2 : w4.cell? ⟨wr.heap.size, 1, none⟩ = some (.int .i64 x2) := blk_cell HX4.out rfl
      have q3 : wr.heap.size < w4.heap.size := blk_lt HX4.out
      go_wp2_with fail
      go_roundw
      case rel => exact ⟨k + 1, by omega, by go_num, by rw [HTK.out], HF.out, HB4.out⟩
      case measure => simp [intOf]; omega
end Go.Proofs.YtfpfdgljhcpkpaaDoor
/- The walk of SpecTexts. -/
namespace Go.Proofs.YtfpfdgljhcpkpaaDoor
open Go.RowKit

theorem textV_cases (L : List (Int × Int)) : ((textV L).2 ≠ 0 ∧ (textV L).1.length ≤ 100000) ∨ ((textV L).2 = 0 ∧ parseL (textV L).1 = (L, 0) ∧ (textV L).1.length ≤ 100000) := by
  unfold textV
  by_cases h0 : L.length = 0
  · rw [if_pos h0]; exact .inl ⟨by decide, by simp⟩
  rw [if_neg h0]
  cases hR : allR L with
  | false => rw [if_pos rfl]; exact .inl ⟨by decide, by simp⟩
  | true =>
    rw [if_neg (by simp)]
    by_cases h1 : 64 < L.length
    · rw [if_pos h1]; exact .inl ⟨by decide, by simp⟩
    · rw [if_neg h1]
      refine .inr ⟨rfl, parse_text hR (by omega) (by omega), ?_⟩
      have := textQ_len hR
      simp only; omega
set_option maxHeartbeats 8000000 in
set_option maxRecDepth 100000 in
theorem specTexts_any (A : Option Addr) (c : Nat) (L : List (Int × Int)) (w : World) (h : Sp w A c L) (hl : L.length ≤ 9223372036854775807) (htab : Lib.TabIs Tryd.prog w "internal/strconv.uint64pow10" .u64 Lib.pow10Tab) :
    Calls Tryd.prog 8 #[.slice A L.length c] w fun e w' => e = .returned (.bool true) ∧ Below w.heap.size w w' := by
  have H0 := Lib.hid h
  have HT := Lib.hid htab
  clear h htab
  by_cases hbig : 100 < L.length
  · have hb : decide ((100 : Int) < (L.length : Int)) = true := by simp; omega
    go_enter Tryd.func8, Tryd.ntmps8
    go_wp2_with fail
    refine (aw04_end w _ (Below.refl _ _)).mono ?_
    rintro e1 w1 ⟨rfl, hb1⟩
    go_wp2_with fail
    go_ret
    exact ⟨rfl, hb1⟩
  have hb : decide ((100 : Int) < (L.length : Int)) = false := by simp; omega
  have H1 := Lib.hid (sText_any A c L w H0.out (by omega) HT.out)
  have H2 := fun W hW => Lib.hid (r4Text_any A c L W hW (by omega))
  have hcs := textV_cases L
  obtain ⟨⟨V, q⟩, hV⟩ : ∃ p, textV L = p := ⟨_, rfl⟩
  rw [hV] at H1 H2 hcs
  simp only at hcs
  clear hV HT
  have hne : ((⟨V.toArray⟩ : ByteArray) != ⟨V.toArray⟩) = false := by
    show (!((⟨V.toArray⟩ : ByteArray) == ⟨V.toArray⟩)) = false
    rw [(Go.MapKept.bytes_beq _ _).2 rfl]; rfl
  have hne2 : (q != q) = false := by simp
  have HC := Lib.hid hcs
  clear hcs
  go_enter Tryd.func8, Tryd.ntmps8
  go_wp2_with fail
  refine H1.out.mono ?_
  rintro e1 w1 ⟨rfl, hb1⟩
  have HB1 := Lib.hid hb1
  have S1 := Lib.hid (H0.out.below hb1)
  clear hb1 H1 H0
  go_wp2_with fail
  refine (H2 _ S1.out).out.mono ?_
  rintro e2 w2 ⟨rfl, hb2⟩
  have HB2 := Lib.hid (bel_chain hb2 HB1.out)
  have S2 := Lib.hid (S1.out.below hb2)
  clear hb2 H2 HB1 S1
  go_wp2_with fail
  go_loopw [8, 35] (fun _ i wr => ∃ k : Nat, k ≤ L.length ∧ i = .int .i64 k ∧ Below w2.heap.size w2 wr) (fun _ i _ => L.length - (intOf i).toNat)
  case atStart => exact ⟨0, Nat.zero_le _, rfl, Below.refl _ _⟩
  case round =>
    obtain ⟨k, hk, rfl, hbw⟩ := hrel
    have HW := Lib.hid hbw
    clear hbw
    by_cases hlt : k < L.length
    · obtain ⟨b, off, e, hb', k1, k2⟩ := (S2.out.below HW.out).at_ hlt
      obtain ⟨⟨x1, x2⟩, hx⟩ : ∃ x, L[k] = x := ⟨_, rfl⟩
      rw [hx] at k1 k2
      simp only at k1 k2
      have hR1 := fun W => Lib.hid (sright_any x1 x2 W)
      have hR2 := fun W => Lib.hid (r4right_any x1 x2 W)
      obtain ⟨t, ht⟩ : ∃ t, rightR (x1, x2) = t := ⟨_, rfl⟩
      rw [ht] at hR1 hR2
      have htt : (t != t) = false := by simp
      rw [e]
      clear hx ht
      go_wp2_with fail
      go_region_with ((first
        | (go_at_call 42; refine (hR1 _).out.mono ?_; rintro e5 w5 ⟨rfl, rfl⟩)
        | (go_at_call 43; refine (hR2 _).out.mono ?_; rintro e5 w5 ⟨rfl, rfl⟩)))
      all_goals
        go_wp2_with fail
        go_roundw
        case rel => exact ⟨k + 1, by omega, by go_num, by repeat (first | exact HW.out | refine bel_alloc ?_ _ | refine bel_drew ?_)⟩
        case measure => simp [intOf]; omega
    · rcases HC.out with ⟨hq, hVl⟩ | ⟨hq, hp, hVl⟩
      · have hq' : (q != 0) = true := by simpa using hq
        have HBE : Hid (Below w.heap.size w wr) := bel_chain HW.out HB2.out
        clear HC hq HW HB2 S2
        go_wp2_with fail
        refine (aw04_end w _ HBE.out).mono ?_
        rintro e1 w3 ⟨rfl, hb3⟩
        go_wp2_with fail
        go_ret
        exact ⟨rfl, hb3⟩
      · have hq' : (q != 0) = false := by simpa using hq
        have HP := fun W => Lib.hid (sParse_any V W hVl)
        rw [hp] at HP
        have S3 := Lib.hid (S2.out.below HW.out)
        have HBE : Hid (Below w.heap.size w wr) := bel_chain HW.out HB2.out
        clear HC hq HW HB2 S2 hp
        go_wp2_with fail
        refine (HP _).out.mono ?_
        rintro e4 w4 ⟨A4, c4, rfl, hs4, hb4⟩
        have HS4 := Lib.hid hs4
        have S4 := Lib.hid (S3.out.below hb4)
        have HB4 := Lib.hid (bel_chain hb4 HBE.out)
        clear hs4 hb4 HP HBE S3
        simp only
        go_wp2_with fail
        refine (r4same_any A4 c4 L A c L _ HS4.out S4.out (by omega)).mono ?_
        rintro e5 w5 ⟨rfl, n5, rfl⟩
        rw [decide_eq_true (rfl : L = L)]
        have HB5 : Hid (Below w.heap.size w (w4.drewN n5)) := bel_drewN HB4.out _
        clear HB4 HS4 S4
        generalize w4.drewN n5 = w5 at *
        go_wp2_with fail
        refine (aw04_end w _ HB5.out).mono ?_
        rintro e6 w6 ⟨rfl, hb6⟩
        go_wp2_with fail
        go_ret
        exact ⟨rfl, hb6⟩
end Go.Proofs.YtfpfdgljhcpkpaaDoor
