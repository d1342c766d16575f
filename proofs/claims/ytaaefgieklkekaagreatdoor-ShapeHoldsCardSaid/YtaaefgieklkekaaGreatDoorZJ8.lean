/- What the walks of ShapeBare and ShapeSeeds share. -/
import Derived.Test.YtaaefgieklkekaaGreatDoorZI27
import Derived.Test.YtaaefgieklkekaaGreatDoorZQ3
namespace Go.Proofs.YtaaefgieklkekaaGreatDoor
open Go.RowKit

/-- What is asked, cell by cell. -/
def askC (r : ReqL) (m : MetaL) (KA : Option Addr) (kc : Nat) (o : Int) (g : CfgL) (seed : Int) : Array Value := #[.bool r.hd, .string r.ob, .slice r.A r.L.length r.c, .slice r.A1 r.n1 r.c1, .slice r.A2 r.n2 r.c2, .bool r.am, .bool r.an, .int .i64 r.si, .int .i64 r.un, .string r.rt, .bool r.rw, .string ⟨m.tag.toArray⟩, .bool m.weak, .int .i64 m.mo, .int .i64 m.len, .int .i64 m.hv, .int .i64 m.fresh, .int .i64 m.wh, .int .i64 m.er, .slice KA m.keys.length kc, .string ⟨m.ten.toArray⟩, .bool m.keep, .int .i64 o, .int .i64 g.j0, .int .i64 g.j1, .int .i64 g.j2, .int .i64 g.cs, .int .i64 g.j4, .int .i64 g.j5, .int .i64 g.j6, .int .i64 g.j7, .int .i64 g.j8, .int .i64 g.j9, .int .i64 seed]
def zeroAsk : Array Value := #[.bool false, .string ⟨#[]⟩, .slice none 0 0, .slice none 0 0, .slice none 0 0, .bool false, .bool false, .int .i64 0, .int .i64 0, .string ⟨#[]⟩, .bool false, .string ⟨#[]⟩, .bool false, .int .i64 0, .int .i64 0, .int .i64 0, .int .i64 0, .int .i64 0, .int .i64 0, .slice none 0 0, .string ⟨#[]⟩, .bool false, .int .i64 0, .int .i64 0, .int .i64 0, .int .i64 0, .int .i64 0, .int .i64 0, .int .i64 0, .int .i64 0, .int .i64 0, .int .i64 0, .int .i64 0, .int .i64 0]
def zeroAns : Array Value := #[.int .i64 0, .slice none 0 0, .slice none 0 0, .int .i64 0]
theorem askSize : (Tryz.prog.info? 36).map (·.size) = some 34 := by kernel_rfl
theorem ansSize : (Tryz.prog.info? 43).map (·.size) = some 4 := by kernel_rfl
theorem fineC_any (r : ReqL) (m : MetaL) (KA : Option Addr) (kc : Nat) (o : Int) (g : CfgL) (seed : Int) (w : World) (hsp : Sp w r.A r.c r.L) (hks : SpG encT 1 w KA kc m.keys) :
    Calls Tryz.prog 10 #[.agg (askC r m KA kc o g seed)] w (ImpPost (FineP r m o) w) := fine_any r m KA kc o g seed w hsp hks
/-- It holds an answer that may be told. -/
def GA (r : ReqL) (m : MetaL) (o cs seed : Int) (v : Value) (w : World) : Prop :=
  ∃ a A c B d, AnsP r m o cs seed a ∧ v = .agg #[.int .i64 a.st, .slice A a.fs.length c, .slice B a.ps.length d, .int .i64 a.sz] ∧ SpT 78 encFd 2 w A c a.fs ∧ SpT 65 encPt 3 w B d a.ps
theorem GA.mono {r : ReqL} {m : MetaL} {o cs seed : Int} (v : Value) (w w' : World) (h : GA r m o cs seed v w) (hb : Below w.heap.size w w') : GA r m o cs seed v w' := by
  obtain ⟨a, A, c, B, d, h1, h2, h3, h4⟩ := h
  exact ⟨a, A, c, B, d, h1, h2, h3.below hb, h4.below hb⟩
theorem toldC_any (r : ReqL) (m : MetaL) (KA : Option Addr) (kc : Nat) (o : Int) (g : CfgL) (seed : Int) (w : World) (hsp : Sp w r.A r.c r.L) (hks : SpG encT 1 w KA kc m.keys) (hf : FineP r m o) (hcs : (Lit.int .i64 g.cs).wf = true) (hseed : -9223372036854775808 ≤ seed ∧ seed ≤ 9223372036854775807) (henv : Env w) :
    Calls Tryz.prog 12 #[.agg (askC r m KA kc o g seed)] w fun e w' => ∃ v, e = .returned v ∧ GA r m o g.cs seed v w' ∧ Below w.heap.size w w' := by
  refine (told_any r m KA kc o g seed w hsp hks hf hcs hseed henv).mono ?_
  intro e w' h
  obtain ⟨a, hP, A, c, k, B, d, j, rfl, rfl, rfl, h1, h2, h3⟩ := shape_told h
  exact ⟨_, rfl, ⟨a, A, c, B, d, hP, rfl, h1, h2⟩, h3⟩
/-- What each operation of a head gives: what is said, or a new block. -/
def FG (gs : List (Value → World → Prop)) (base : Nat) (T : TypeId) (Z : Array Value) (j : Nat) (v : Value) (w : World) : Prop :=
  match gs[j]? with
  | some g => g v w
  | none => ∃ b, base ≤ b ∧ v = .pointer (some ⟨b, 0, none⟩) ∧ w.heap[b]? = some (.cells Z T (0, 0))
theorem FG.mono {gs : List (Value → World → Prop)} {base : Nat} {T : TypeId} {Z : Array Value} (hg : ∀ g ∈ gs, ∀ v w w', g v w → Below w.heap.size w w' → g v w') (j : Nat) (v : Value) (w w' : World) (h : FG gs base T Z j v w) (hb : Below w.heap.size w w') : FG gs base T Z j v w' := by
  unfold FG at *
  cases hj : gs[j]? with
  | some g => rw [hj] at h; exact hg g (List.mem_of_getElem? hj) _ _ _ h hb
  | none =>
    rw [hj] at h
    obtain ⟨b, h1, h2, h3⟩ := h
    exact ⟨b, h1, h2, blk_keep hb h3⟩
theorem FG.lt {gs : List (Value → World → Prop)} {base : Nat} {T : TypeId} {Z : Array Value} (k : Nat) (v : Value) (w : World) (hk : decide (gs.length ≤ k) = true) (h : FG gs base T Z k v w) : ∃ b, v = .pointer (some ⟨b, 0, none⟩) ∧ b < w.heap.size := by
  unfold FG at h
  rw [List.getElem?_eq_none_iff.2 (of_decide_eq_true hk)] at h
  obtain ⟨b, _, h2, h3⟩ := h
  exact ⟨b, h2, blk_lt h3⟩
section
variable {Q : Exit → Act → World → Prop}
end
end Go.Proofs.YtaaefgieklkekaaGreatDoor
