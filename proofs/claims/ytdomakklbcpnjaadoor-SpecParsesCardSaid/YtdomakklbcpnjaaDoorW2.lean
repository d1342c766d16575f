/- The iterator of strings.SplitSeq at ",": what it serves. -/
import Derived.Test.YtdomakklbcpnjaaDoorW1
import Derived.Test.YtdomakklbcpnjaaDoorS7
namespace Go.Proofs.YtdomakklbcpnjaaDoor
open Go Go.RowKit
attribute [local go_sem] Oper.semAt_some

/-- The three boxes that the iterator has captured lie as they lay. -/
def KeepsBoxes (bs : Nat) (W W' : World) : Prop := ∀ b, bs ≤ b → b < bs + 3 → W'.heap[b]? = W.heap[b]?
theorem KeepsBoxes.refl (bs : Nat) (W : World) : KeepsBoxes bs W W := fun _ _ _ => rfl
theorem KeepsBoxes.trans {bs : Nat} {A B C : World} (h : KeepsBoxes bs A B) (k : KeepsBoxes bs B C) : KeepsBoxes bs A C := fun b h1 h2 => (k b h1 h2).trans (h b h1 h2)
theorem KeepsBoxes.put {bs : Nat} {W : World} {l : Nat} (hl : bs + 3 ≤ l) (o : Obj) : KeepsBoxes bs W (W.putObj l o) := fun b _ h2 => World.putObj_heap_other (by omega)
/-- The boxes: the rest of the text, the comma, how much of the comma is told. -/
structure SplitAt (bs : Nat) (rest : List UInt8) (W : World) : Prop where
  s : W.heap[bs]? = some (.cells #[.string ⟨rest.toArray⟩] 9 (0, 0))
  sep : W.heap[bs + 1]? = some (.cells #[.string ⟨#[44]⟩] 9 (0, 0))
  save : W.heap[bs + 2]? = some (.cells #[.int .i64 0] 3 (0, 0))
theorem SplitAt.keep {bs : Nat} {rest : List UInt8} {W W' : World} (h : SplitAt bs rest W) (k : KeepsBoxes bs W W') : SplitAt bs rest W' :=
  ⟨(k _ (by omega) (by omega)).trans h.s, (k _ (by omega) (by omega)).trans h.sep, (k _ (by omega) (by omega)).trans h.save⟩
theorem SplitAt.next {bs : Nat} {rest : List UInt8} {W : World} (h : SplitAt bs rest W) (r : List UInt8) : SplitAt bs r (W.setCell ⟨bs, 0, none⟩ (.string ⟨r.toArray⟩)) :=
  ⟨by simp [World.setCell, Array.getElem?_modify, h.s], (Below.heap_setCell W _ _ _ (by simp)).trans h.sep, (Below.heap_setCell W _ _ _ (by simp)).trans h.save⟩
theorem splitSeq_any (s : ByteArray) (w : World) :
    Calls Tryd.prog 77 #[.string s, .string ⟨#[44]⟩] w fun e w' => e = .returned (.func (.func 155) #[] #[.pointer (some ⟨w.heap.size + 1, 0, none⟩), .pointer (some ⟨w.heap.size, 0, none⟩), .pointer (some ⟨w.heap.size + 2, 0, none⟩)]) ∧ ((w.alloc (.cells #[.string s] 9)).alloc (.cells #[.string ⟨#[44]⟩] 9)).alloc (.cells #[.int .i64 0] 3) = w' := by
  go_enter Tryd.func77, Tryd.ntmps77
  go_wp2
  go_ret
  exact ⟨rfl, rfl⟩
def restLen (bs : Nat) (W : World) : Nat := match W.cell? ⟨bs, 0, none⟩ with
  | some (Value.string s) => s.size
  | _ => 0
theorem SplitAt.cell {bs : Nat} {rest : List UInt8} {W : World} (h : SplitAt bs rest W) : W.cell? ⟨bs, 0, none⟩ = some (.string ⟨rest.toArray⟩) := Lib.cell_of_heap h.s 0
theorem SplitAt.len {bs : Nat} {rest : List UInt8} {W : World} (h : SplitAt bs rest W) : restLen bs W = rest.length := by
  unfold restLen; rw [h.cell]; exact ba_size rest
set_option maxHeartbeats 2000000 in
set_option maxRecDepth 100000 in
theorem split_serves (n bs : Nat) (l : List UInt8) (hl : l.length ≤ 100000) (I : List (List UInt8) → World → Prop) (Ix : Code → List (List UInt8) → World → Prop)
    (hset : ∀ pre W v, I pre W → I pre (W.setCell ⟨bs, 0, none⟩ v)) (hdr : ∀ pre W, I pre W → I pre W.drew) (W : World) (hb : SplitAt bs l W) :
    Serves Fence.wide n Tryd.prog 155 #[.pointer (some ⟨bs + 1, 0, none⟩), .pointer (some ⟨bs, 0, none⟩), .pointer (some ⟨bs + 2, 0, none⟩)] (fun x : List UInt8 => #[.string ⟨x.toArray⟩]) (fun x => x.length ≤ 100000) (KeepsBoxes bs) I Ix (fun xs => xs = splitC l) W := by
  intro lp B Bx hB hY h0 hB0
  have HB := Lib.hid hb
  clear hb
  refine callsIn_of_wp Tryd.func155 rfl trivial ?_
  simp only [Tryd.ntmps155, List.size_toArray, List.length_cons, List.length_nil, Nat.reduceAdd, Nat.reduceSub, Array.replicate_succ, Array.replicate_zero, List.push_toArray, List.append_toArray, List.nil_append, List.cons_append]
  have c1 : W.cell? ⟨bs + 1, 0, none⟩ = some (.string ⟨#[44]⟩) := Lib.cell_of_heap HB.out.sep 0
  gi_wp2
  clear c1
  gi_loopw [7, 8] (fun _ _ wr => ∃ (pre : List (List UInt8)) (rest : List UInt8), pre ++ splitC rest = splitC l ∧ I pre wr ∧ B wr ∧ SplitAt bs rest wr ∧ rest.length ≤ 100000) (fun _ _ wr => restLen bs wr)
  case atStart => exact ⟨[], l, rfl, h0, hB0, HB.out, hl⟩
  case round =>
    clear h0 hB0 HB
    obtain ⟨pre, rest, hpre, hi, hb, hsp, hrl⟩ := hrel
    have HP := Lib.hid hpre
    have HSP := Lib.hid hsp
    have c0 := hsp.cell
    have c1 : wr.cell? ⟨bs + 1, 0, none⟩ = some (.string ⟨#[44]⟩) := Lib.cell_of_heap hsp.sep 0
    have c2 : wr.cell? ⟨bs + 2, 0, none⟩ = some (.int .i64 0) := Lib.cell_of_heap hsp.save 0
    clear hpre hsp
    have hI := fun W => Tryd.strings_Index_one ⟨rest.toArray⟩ 44 W
    simp only at hI
    rcases index_cases 44 rest with ⟨h1, h2⟩ | ⟨k, h1, h2, h3, h4⟩
    · rw [h1] at hI
      have HI := fun W => Lib.hid (hI W)
      have HS : Hid (splitC rest = [rest]) := splitC_none h2
      clear h1 h2 hI
      obtain ⟨fn, tmps, assign, body, hy, hR⟩ := hY pre rest wr hrl hi hb
      gi_wp2_with fail
      refine ⟨trivial, (fun h => by cases h), ?_⟩
      refine (callsIn_wide.2 (HI _).out).mono ?_
      rintro e w' ⟨rfl, rfl⟩
      gi_wp2_with fail
      refine ⟨(fun h => by cases h), hR.mono ?_⟩
      rintro e W3 (⟨rfl, hI3, hB3, hk3⟩ | ⟨rfl, c, hx3, hbx3⟩)
      · gi_wp2
        refine bodyPost_end (v := .tuple #[]) (by simp [results, Tryd.results155, go_sem]) rfl ?_
        exact ⟨⟨_, rfl⟩, .inl ⟨pre ++ [rest], by rw [← HP.out, HS.out], hI3, hB3⟩⟩
      · gi_wp2
        refine bodyPost_end (v := .tuple #[]) (by simp [results, Tryd.results155, go_sem]) rfl ?_
        exact ⟨⟨_, rfl⟩, .inr ⟨_, c, ⟨[], by rw [← HP.out, HS.out]; simp⟩, hx3, hbx3⟩⟩
    · rw [h1] at hI
      have HI := fun W => Lib.hid (hI W)
      have HS : Hid (splitC rest = rest.take k :: splitC (rest.drop (k + 1))) := by
        have h5 := splitC_some (a := rest.take k) (b := rest.drop (k + 1)) h4
        rw [← h3] at h5
        exact h5
      have hz : (⟨rest.toArray⟩ : ByteArray).size = rest.length := ba_size rest
      have HZ := Lib.hid hz
      obtain ⟨z, hze⟩ : ∃ z, z = (⟨rest.toArray⟩ : ByteArray).size := ⟨_, rfl⟩
      clear h1 h3 h4 hI
      obtain ⟨fn, tmps, assign, body, hy, hR⟩ := hY pre (rest.take k) wr (by simp; omega) hi hb
      have hkz : k < z := by rw [hze]; have := HZ.out; omega
      have hk0 : (0 : Int) ≤ (k : Int) := by omega
      have hk1 : (k : Int) ≤ ((⟨rest.toArray⟩ : ByteArray).size : Int) := by rw [← hze]; omega
      have hk3 : (k : Int) + 1 ≤ ((⟨rest.toArray⟩ : ByteArray).size : Int) := by rw [← hze]; omega
      have et : (⟨rest.toArray⟩ : ByteArray).extract 0 k = ⟨(rest.take k).toArray⟩ := ex_take ⟨rest.toArray⟩ k
      have ed : (⟨rest.toArray⟩ : ByteArray).extract (k + 1) rest.length = ⟨(rest.drop (k + 1)).toArray⟩ := by have := ex_drop ⟨rest.toArray⟩ (k + 1); rwa [ba_size] at this
      have HZE := Lib.hid hze
      clear hze
      gi_wp2_with fail
      refine ⟨trivial, (fun h => by cases h), ?_⟩
      refine (callsIn_wide.2 (HI _).out).mono ?_
      rintro e w' ⟨rfl, rfl⟩
      gi_wp2_with fail
      refine ⟨(fun h => by cases h), hR.mono ?_⟩
      rintro e W3 (⟨rfl, hI3, hB3, hk3'⟩ | ⟨rfl, c, hx3, hbx3⟩)
      · have HSP3 := Lib.hid (HSP.out.keep hk3')
        have d0 := HSP3.out.cell
        have d1 : W3.cell? ⟨bs + 1, 0, none⟩ = some (.string ⟨#[44]⟩) := Lib.cell_of_heap HSP3.out.sep 0
        have df : W3.frozen? ⟨bs, 0, none⟩ = false := Lib.frozen_of_heap HSP3.out.s 0
        clear hk3' c0 c1 c2
        gi_wp2_with fail
        go_roundw
        case rel =>
          have HN := HSP3.out.next (rest.drop (k + 1))
          refine ⟨pre ++ [rest.take k], rest.drop (k + 1), by rw [← HP.out, HS.out]; simp, hset _ _ _ hI3, hB _ _ (KeepsOthers.setCell _ _ _) hB3, HN, by simp; omega⟩
        case measure =>
          rw [(HSP3.out.next (rest.drop (k + 1))).len, HSP.out.len]; simp; omega
      · gi_wp2_with fail
        refine bodyPost_ret (results_none rfl _ _ _) rfl ?_
        exact ⟨⟨_, rfl⟩, .inr ⟨_, c, ⟨splitC (rest.drop (k + 1)), by rw [← HP.out, HS.out]; simp⟩, hx3, hbx3⟩⟩
end Go.Proofs.YtdomakklbcpnjaaDoor
