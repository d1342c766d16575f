/- Contract of mandolineref48.SameRequest, where both requests are the same. -/
import Derived.Test.YtmbcnfgeobbldaaW3
import Derived.Deep.QuietTactic
import Derived.BigQuiet
namespace Go.Proofs.Ytmbcnfgeobbldaa
open Go.RowKit

theorem bel_drewN {w W : World} (h : Below w.heap.size w W) (n : Nat) : Below w.heap.size w (W.drewN n) := ⟨h.os, h.tape, h.output, h.size, h.block⟩

set_option maxHeartbeats 4000000 in
set_option maxRecDepth 100000 in
theorem same000 (o : ByteArray) (s u : Int) (w : World) :
    Calls Try.prog 8 #[.agg #[.bool false, .string o, .slice none 0 0, .slice none 0 0, .slice none 0 0, .bool false, .bool false, .int .i64 s, .int .i64 u, .string ⟨#[]⟩, .bool false], .agg #[.bool false, .string o, .slice none 0 0, .slice none 0 0, .slice none 0 0, .bool false, .bool false, .int .i64 s, .int .i64 u, .string ⟨#[]⟩, .bool false]] w fun e w' => e = .returned (.bool true) ∧ Below w.heap.size w w' := by
  go_enter Try.func8, Try.ntmps8
  go_wp2
  go_loopw [5, 54] (fun _ i wr => ∃ k q : Nat, k ≤ 0 ∧ i = .int .i64 k ∧ wr = ((w.alloc (.cells #[.bool false, .string o, .slice none 0 0, .slice none 0 0, .slice none 0 0, .bool false, .bool false, .int .i64 s, .int .i64 u, .string ⟨#[]⟩, .bool false] 35)).alloc (.cells #[.bool false, .string o, .slice none 0 0, .slice none 0 0, .slice none 0 0, .bool false, .bool false, .int .i64 s, .int .i64 u, .string ⟨#[]⟩, .bool false] 35)).drewN q) (fun _ i _ => 0 - (intOf i).toNat)
  case atStart => exact ⟨0, 0, by omega, rfl, rfl⟩
  case round =>
    obtain ⟨k, q1, hk, rfl, rfl⟩ := hrel
    obtain rfl : k = 0 := by omega
    go_wp2
    go_loopw [6, 73] (fun _ i wr => ∃ k q : Nat, k ≤ 0 ∧ i = .int .i64 k ∧ wr = ((w.alloc (.cells #[.bool false, .string o, .slice none 0 0, .slice none 0 0, .slice none 0 0, .bool false, .bool false, .int .i64 s, .int .i64 u, .string ⟨#[]⟩, .bool false] 35)).alloc (.cells #[.bool false, .string o, .slice none 0 0, .slice none 0 0, .slice none 0 0, .bool false, .bool false, .int .i64 s, .int .i64 u, .string ⟨#[]⟩, .bool false] 35)).drewN q) (fun _ i _ => 0 - (intOf i).toNat)
    case atStart => exact ⟨0, q1, by omega, rfl, rfl⟩
    case round =>
      obtain ⟨k, q2, hk, rfl, rfl⟩ := hrel
      obtain rfl : k = 0 := by omega
      go_wp2
      go_loopw [7, 94] (fun _ i wr => ∃ k q : Nat, k ≤ 0 ∧ i = .int .i64 k ∧ wr = ((w.alloc (.cells #[.bool false, .string o, .slice none 0 0, .slice none 0 0, .slice none 0 0, .bool false, .bool false, .int .i64 s, .int .i64 u, .string ⟨#[]⟩, .bool false] 35)).alloc (.cells #[.bool false, .string o, .slice none 0 0, .slice none 0 0, .slice none 0 0, .bool false, .bool false, .int .i64 s, .int .i64 u, .string ⟨#[]⟩, .bool false] 35)).drewN q) (fun _ i _ => 0 - (intOf i).toNat)
      case atStart => exact ⟨0, q2, by omega, rfl, rfl⟩
      case round =>
        obtain ⟨k, q3, hk, rfl, rfl⟩ := hrel
        obtain rfl : k = 0 := by omega
        go_wp2
        go_ret
        refine ⟨rfl, ?_⟩
        repeat (first | exact Below.refl _ _ | refine bel_drewN ?_ _ | refine bel_drew ?_ | refine bel_alloc ?_ _)

set_option maxHeartbeats 4000000 in
set_option maxRecDepth 100000 in
theorem same001 (o : ByteArray) (s u : Int) (nt : ByteArray) (nw : Bool) (n1 n2 : Nat) (w : World) (hn1 : n1 < w.heap.size) (hn1a : w.cell? ⟨n1, 0, none⟩ = some (.string nt)) (hn1b : w.cell? ⟨n1, 1, none⟩ = some (.bool nw)) (hn2 : n2 < w.heap.size) (hn2a : w.cell? ⟨n2, 0, none⟩ = some (.string nt)) (hn2b : w.cell? ⟨n2, 1, none⟩ = some (.bool nw)) :
    Calls Try.prog 8 #[.agg #[.bool false, .string o, .slice none 0 0, .slice none 0 0, .slice (some ⟨n1, 0, none⟩) 1 1, .bool false, .bool false, .int .i64 s, .int .i64 u, .string ⟨#[]⟩, .bool false], .agg #[.bool false, .string o, .slice none 0 0, .slice none 0 0, .slice (some ⟨n2, 0, none⟩) 1 1, .bool false, .bool false, .int .i64 s, .int .i64 u, .string ⟨#[]⟩, .bool false]] w fun e w' => e = .returned (.bool true) ∧ Below w.heap.size w w' := by
  go_enter Try.func8, Try.ntmps8
  go_wp2
  go_loopw [5, 54] (fun _ i wr => ∃ k q : Nat, k ≤ 0 ∧ i = .int .i64 k ∧ wr = ((w.alloc (.cells #[.bool false, .string o, .slice none 0 0, .slice none 0 0, .slice (some ⟨n1, 0, none⟩) 1 1, .bool false, .bool false, .int .i64 s, .int .i64 u, .string ⟨#[]⟩, .bool false] 35)).alloc (.cells #[.bool false, .string o, .slice none 0 0, .slice none 0 0, .slice (some ⟨n2, 0, none⟩) 1 1, .bool false, .bool false, .int .i64 s, .int .i64 u, .string ⟨#[]⟩, .bool false] 35)).drewN q) (fun _ i _ => 0 - (intOf i).toNat)
  case atStart => exact ⟨0, 0, by omega, rfl, rfl⟩
  case round =>
    obtain ⟨k, q1, hk, rfl, rfl⟩ := hrel
    obtain rfl : k = 0 := by omega
    go_wp2
    go_loopw [6, 73] (fun _ i wr => ∃ k q : Nat, k ≤ 0 ∧ i = .int .i64 k ∧ wr = ((w.alloc (.cells #[.bool false, .string o, .slice none 0 0, .slice none 0 0, .slice (some ⟨n1, 0, none⟩) 1 1, .bool false, .bool false, .int .i64 s, .int .i64 u, .string ⟨#[]⟩, .bool false] 35)).alloc (.cells #[.bool false, .string o, .slice none 0 0, .slice none 0 0, .slice (some ⟨n2, 0, none⟩) 1 1, .bool false, .bool false, .int .i64 s, .int .i64 u, .string ⟨#[]⟩, .bool false] 35)).drewN q) (fun _ i _ => 0 - (intOf i).toNat)
    case atStart => exact ⟨0, q1, by omega, rfl, rfl⟩
    case round =>
      obtain ⟨k, q2, hk, rfl, rfl⟩ := hrel
      obtain rfl : k = 0 := by omega
      go_wp2
      go_loopw [7, 94] (fun _ i wr => ∃ k q : Nat, k ≤ 1 ∧ i = .int .i64 k ∧ wr = ((w.alloc (.cells #[.bool false, .string o, .slice none 0 0, .slice none 0 0, .slice (some ⟨n1, 0, none⟩) 1 1, .bool false, .bool false, .int .i64 s, .int .i64 u, .string ⟨#[]⟩, .bool false] 35)).alloc (.cells #[.bool false, .string o, .slice none 0 0, .slice none 0 0, .slice (some ⟨n2, 0, none⟩) 1 1, .bool false, .bool false, .int .i64 s, .int .i64 u, .string ⟨#[]⟩, .bool false] 35)).drewN q) (fun _ i _ => 1 - (intOf i).toNat)
      case atStart => exact ⟨0, q2, by omega, rfl, rfl⟩
      case round =>
        obtain ⟨k, q3, hk, rfl, rfl⟩ := hrel
        by_cases hlt : k < 1
        · obtain rfl : k = 0 := by omega
          go_wp2_with fail
          go_quiet (fail)
          go_wp2_with fail
          go_roundw
          case rel => exact ⟨1, _, by omega, rfl, rfl⟩
          case measure => simp [intOf]
        obtain rfl : k = 1 := by omega
        go_wp2
        go_ret
        refine ⟨rfl, ?_⟩
        repeat (first | exact Below.refl _ _ | refine bel_drewN ?_ _ | refine bel_drew ?_ | refine bel_alloc ?_ _)

set_option maxHeartbeats 4000000 in
set_option maxRecDepth 100000 in
theorem same010 (o : ByteArray) (s u : Int) (mt : ByteArray) (mw : Bool) (m1 m2 : Nat) (w : World) (hm1 : m1 < w.heap.size) (hm1a : w.cell? ⟨m1, 0, none⟩ = some (.string mt)) (hm1b : w.cell? ⟨m1, 1, none⟩ = some (.bool mw)) (hm2 : m2 < w.heap.size) (hm2a : w.cell? ⟨m2, 0, none⟩ = some (.string mt)) (hm2b : w.cell? ⟨m2, 1, none⟩ = some (.bool mw)) :
    Calls Try.prog 8 #[.agg #[.bool false, .string o, .slice none 0 0, .slice (some ⟨m1, 0, none⟩) 1 1, .slice none 0 0, .bool false, .bool false, .int .i64 s, .int .i64 u, .string ⟨#[]⟩, .bool false], .agg #[.bool false, .string o, .slice none 0 0, .slice (some ⟨m2, 0, none⟩) 1 1, .slice none 0 0, .bool false, .bool false, .int .i64 s, .int .i64 u, .string ⟨#[]⟩, .bool false]] w fun e w' => e = .returned (.bool true) ∧ Below w.heap.size w w' := by
  go_enter Try.func8, Try.ntmps8
  go_wp2
  go_loopw [5, 54] (fun _ i wr => ∃ k q : Nat, k ≤ 0 ∧ i = .int .i64 k ∧ wr = ((w.alloc (.cells #[.bool false, .string o, .slice none 0 0, .slice (some ⟨m1, 0, none⟩) 1 1, .slice none 0 0, .bool false, .bool false, .int .i64 s, .int .i64 u, .string ⟨#[]⟩, .bool false] 35)).alloc (.cells #[.bool false, .string o, .slice none 0 0, .slice (some ⟨m2, 0, none⟩) 1 1, .slice none 0 0, .bool false, .bool false, .int .i64 s, .int .i64 u, .string ⟨#[]⟩, .bool false] 35)).drewN q) (fun _ i _ => 0 - (intOf i).toNat)
  case atStart => exact ⟨0, 0, by omega, rfl, rfl⟩
  case round =>
    obtain ⟨k, q1, hk, rfl, rfl⟩ := hrel
    obtain rfl : k = 0 := by omega
    go_wp2
    go_loopw [6, 73] (fun _ i wr => ∃ k q : Nat, k ≤ 1 ∧ i = .int .i64 k ∧ wr = ((w.alloc (.cells #[.bool false, .string o, .slice none 0 0, .slice (some ⟨m1, 0, none⟩) 1 1, .slice none 0 0, .bool false, .bool false, .int .i64 s, .int .i64 u, .string ⟨#[]⟩, .bool false] 35)).alloc (.cells #[.bool false, .string o, .slice none 0 0, .slice (some ⟨m2, 0, none⟩) 1 1, .slice none 0 0, .bool false, .bool false, .int .i64 s, .int .i64 u, .string ⟨#[]⟩, .bool false] 35)).drewN q) (fun _ i _ => 1 - (intOf i).toNat)
    case atStart => exact ⟨0, q1, by omega, rfl, rfl⟩
    case round =>
      obtain ⟨k, q2, hk, rfl, rfl⟩ := hrel
      by_cases hlt : k < 1
      · obtain rfl : k = 0 := by omega
        go_wp2_with fail
        go_quiet (fail)
        go_wp2_with fail
        go_roundw
        case rel => exact ⟨1, _, by omega, rfl, rfl⟩
        case measure => simp [intOf]
      obtain rfl : k = 1 := by omega
      go_wp2
      go_loopw [7, 94] (fun _ i wr => ∃ k q : Nat, k ≤ 0 ∧ i = .int .i64 k ∧ wr = ((w.alloc (.cells #[.bool false, .string o, .slice none 0 0, .slice (some ⟨m1, 0, none⟩) 1 1, .slice none 0 0, .bool false, .bool false, .int .i64 s, .int .i64 u, .string ⟨#[]⟩, .bool false] 35)).alloc (.cells #[.bool false, .string o, .slice none 0 0, .slice (some ⟨m2, 0, none⟩) 1 1, .slice none 0 0, .bool false, .bool false, .int .i64 s, .int .i64 u, .string ⟨#[]⟩, .bool false] 35)).drewN q) (fun _ i _ => 0 - (intOf i).toNat)
      case atStart => exact ⟨0, q2, by omega, rfl, rfl⟩
      case round =>
        obtain ⟨k, q3, hk, rfl, rfl⟩ := hrel
        obtain rfl : k = 0 := by omega
        go_wp2
        go_ret
        refine ⟨rfl, ?_⟩
        repeat (first | exact Below.refl _ _ | refine bel_drewN ?_ _ | refine bel_drew ?_ | refine bel_alloc ?_ _)

set_option maxHeartbeats 4000000 in
set_option maxRecDepth 100000 in
theorem same011 (o : ByteArray) (s u : Int) (mt : ByteArray) (mw : Bool) (nt : ByteArray) (nw : Bool) (m1 m2 n1 n2 : Nat) (w : World) (hm1 : m1 < w.heap.size) (hm1a : w.cell? ⟨m1, 0, none⟩ = some (.string mt)) (hm1b : w.cell? ⟨m1, 1, none⟩ = some (.bool mw)) (hm2 : m2 < w.heap.size) (hm2a : w.cell? ⟨m2, 0, none⟩ = some (.string mt)) (hm2b : w.cell? ⟨m2, 1, none⟩ = some (.bool mw)) (hn1 : n1 < w.heap.size) (hn1a : w.cell? ⟨n1, 0, none⟩ = some (.string nt)) (hn1b : w.cell? ⟨n1, 1, none⟩ = some (.bool nw)) (hn2 : n2 < w.heap.size) (hn2a : w.cell? ⟨n2, 0, none⟩ = some (.string nt)) (hn2b : w.cell? ⟨n2, 1, none⟩ = some (.bool nw)) :
    Calls Try.prog 8 #[.agg #[.bool false, .string o, .slice none 0 0, .slice (some ⟨m1, 0, none⟩) 1 1, .slice (some ⟨n1, 0, none⟩) 1 1, .bool false, .bool false, .int .i64 s, .int .i64 u, .string ⟨#[]⟩, .bool false], .agg #[.bool false, .string o, .slice none 0 0, .slice (some ⟨m2, 0, none⟩) 1 1, .slice (some ⟨n2, 0, none⟩) 1 1, .bool false, .bool false, .int .i64 s, .int .i64 u, .string ⟨#[]⟩, .bool false]] w fun e w' => e = .returned (.bool true) ∧ Below w.heap.size w w' := by
  go_enter Try.func8, Try.ntmps8
  go_wp2
  go_loopw [5, 54] (fun _ i wr => ∃ k q : Nat, k ≤ 0 ∧ i = .int .i64 k ∧ wr = ((w.alloc (.cells #[.bool false, .string o, .slice none 0 0, .slice (some ⟨m1, 0, none⟩) 1 1, .slice (some ⟨n1, 0, none⟩) 1 1, .bool false, .bool false, .int .i64 s, .int .i64 u, .string ⟨#[]⟩, .bool false] 35)).alloc (.cells #[.bool false, .string o, .slice none 0 0, .slice (some ⟨m2, 0, none⟩) 1 1, .slice (some ⟨n2, 0, none⟩) 1 1, .bool false, .bool false, .int .i64 s, .int .i64 u, .string ⟨#[]⟩, .bool false] 35)).drewN q) (fun _ i _ => 0 - (intOf i).toNat)
  case atStart => exact ⟨0, 0, by omega, rfl, rfl⟩
  case round =>
    obtain ⟨k, q1, hk, rfl, rfl⟩ := hrel
    obtain rfl : k = 0 := by omega
    go_wp2
    go_loopw [6, 73] (fun _ i wr => ∃ k q : Nat, k ≤ 1 ∧ i = .int .i64 k ∧ wr = ((w.alloc (.cells #[.bool false, .string o, .slice none 0 0, .slice (some ⟨m1, 0, none⟩) 1 1, .slice (some ⟨n1, 0, none⟩) 1 1, .bool false, .bool false, .int .i64 s, .int .i64 u, .string ⟨#[]⟩, .bool false] 35)).alloc (.cells #[.bool false, .string o, .slice none 0 0, .slice (some ⟨m2, 0, none⟩) 1 1, .slice (some ⟨n2, 0, none⟩) 1 1, .bool false, .bool false, .int .i64 s, .int .i64 u, .string ⟨#[]⟩, .bool false] 35)).drewN q) (fun _ i _ => 1 - (intOf i).toNat)
    case atStart => exact ⟨0, q1, by omega, rfl, rfl⟩
    case round =>
      obtain ⟨k, q2, hk, rfl, rfl⟩ := hrel
      by_cases hlt : k < 1
      · obtain rfl : k = 0 := by omega
        go_wp2_with fail
        go_quiet (fail)
        go_wp2_with fail
        go_roundw
        case rel => exact ⟨1, _, by omega, rfl, rfl⟩
        case measure => simp [intOf]
      obtain rfl : k = 1 := by omega
      go_wp2
      go_loopw [7, 94] (fun _ i wr => ∃ k q : Nat, k ≤ 1 ∧ i = .int .i64 k ∧ wr = ((w.alloc (.cells #[.bool false, .string o, .slice none 0 0, .slice (some ⟨m1, 0, none⟩) 1 1, .slice (some ⟨n1, 0, none⟩) 1 1, .bool false, .bool false, .int .i64 s, .int .i64 u, .string ⟨#[]⟩, .bool false] 35)).alloc (.cells #[.bool false, .string o, .slice none 0 0, .slice (some ⟨m2, 0, none⟩) 1 1, .slice (some ⟨n2, 0, none⟩) 1 1, .bool false, .bool false, .int .i64 s, .int .i64 u, .string ⟨#[]⟩, .bool false] 35)).drewN q) (fun _ i _ => 1 - (intOf i).toNat)
      case atStart => exact ⟨0, q2, by omega, rfl, rfl⟩
      case round =>
        obtain ⟨k, q3, hk, rfl, rfl⟩ := hrel
        by_cases hlt : k < 1
        · obtain rfl : k = 0 := by omega
          go_wp2_with fail
          go_quiet (fail)
          go_wp2_with fail
          go_roundw
          case rel => exact ⟨1, _, by omega, rfl, rfl⟩
          case measure => simp [intOf]
        obtain rfl : k = 1 := by omega
        go_wp2
        go_ret
        refine ⟨rfl, ?_⟩
        repeat (first | exact Below.refl _ _ | refine bel_drewN ?_ _ | refine bel_drew ?_ | refine bel_alloc ?_ _)

set_option maxHeartbeats 4000000 in
set_option maxRecDepth 100000 in
theorem same100 (o : ByteArray) (s u : Int) (fa fb : Int) (s1 s2 : Nat) (w : World) (hs1 : s1 < w.heap.size) (hs1a : w.cell? ⟨s1, 0, none⟩ = some (.int .i64 fa)) (hs1b : w.cell? ⟨s1, 1, none⟩ = some (.int .i64 fb)) (hs2 : s2 < w.heap.size) (hs2a : w.cell? ⟨s2, 0, none⟩ = some (.int .i64 fa)) (hs2b : w.cell? ⟨s2, 1, none⟩ = some (.int .i64 fb)) :
    Calls Try.prog 8 #[.agg #[.bool false, .string o, .slice (some ⟨s1, 0, none⟩) 1 1, .slice none 0 0, .slice none 0 0, .bool false, .bool false, .int .i64 s, .int .i64 u, .string ⟨#[]⟩, .bool false], .agg #[.bool false, .string o, .slice (some ⟨s2, 0, none⟩) 1 1, .slice none 0 0, .slice none 0 0, .bool false, .bool false, .int .i64 s, .int .i64 u, .string ⟨#[]⟩, .bool false]] w fun e w' => e = .returned (.bool true) ∧ Below w.heap.size w w' := by
  go_enter Try.func8, Try.ntmps8
  go_wp2
  go_loopw [5, 54] (fun _ i wr => ∃ k q : Nat, k ≤ 1 ∧ i = .int .i64 k ∧ wr = ((w.alloc (.cells #[.bool false, .string o, .slice (some ⟨s1, 0, none⟩) 1 1, .slice none 0 0, .slice none 0 0, .bool false, .bool false, .int .i64 s, .int .i64 u, .string ⟨#[]⟩, .bool false] 35)).alloc (.cells #[.bool false, .string o, .slice (some ⟨s2, 0, none⟩) 1 1, .slice none 0 0, .slice none 0 0, .bool false, .bool false, .int .i64 s, .int .i64 u, .string ⟨#[]⟩, .bool false] 35)).drewN q) (fun _ i _ => 1 - (intOf i).toNat)
  case atStart => exact ⟨0, 0, by omega, rfl, rfl⟩
  case round =>
    obtain ⟨k, q1, hk, rfl, rfl⟩ := hrel
    by_cases hlt : k < 1
    · obtain rfl : k = 0 := by omega
      go_wp2_with fail
      go_quiet (fail)
      go_wp2_with fail
      go_roundw
      case rel => exact ⟨1, _, by omega, rfl, rfl⟩
      case measure => simp [intOf]
    obtain rfl : k = 1 := by omega
    go_wp2
    go_loopw [6, 73] (fun _ i wr => ∃ k q : Nat, k ≤ 0 ∧ i = .int .i64 k ∧ wr = ((w.alloc (.cells #[.bool false, .string o, .slice (some ⟨s1, 0, none⟩) 1 1, .slice none 0 0, .slice none 0 0, .bool false, .bool false, .int .i64 s, .int .i64 u, .string ⟨#[]⟩, .bool false] 35)).alloc (.cells #[.bool false, .string o, .slice (some ⟨s2, 0, none⟩) 1 1, .slice none 0 0, .slice none 0 0, .bool false, .bool false, .int .i64 s, .int .i64 u, .string ⟨#[]⟩, .bool false] 35)).drewN q) (fun _ i _ => 0 - (intOf i).toNat)
    case atStart => exact ⟨0, q1, by omega, rfl, rfl⟩
    case round =>
      obtain ⟨k, q2, hk, rfl, rfl⟩ := hrel
      obtain rfl : k = 0 := by omega
      go_wp2
      go_loopw [7, 94] (fun _ i wr => ∃ k q : Nat, k ≤ 0 ∧ i = .int .i64 k ∧ wr = ((w.alloc (.cells #[.bool false, .string o, .slice (some ⟨s1, 0, none⟩) 1 1, .slice none 0 0, .slice none 0 0, .bool false, .bool false, .int .i64 s, .int .i64 u, .string ⟨#[]⟩, .bool false] 35)).alloc (.cells #[.bool false, .string o, .slice (some ⟨s2, 0, none⟩) 1 1, .slice none 0 0, .slice none 0 0, .bool false, .bool false, .int .i64 s, .int .i64 u, .string ⟨#[]⟩, .bool false] 35)).drewN q) (fun _ i _ => 0 - (intOf i).toNat)
      case atStart => exact ⟨0, q2, by omega, rfl, rfl⟩
      case round =>
        obtain ⟨k, q3, hk, rfl, rfl⟩ := hrel
        obtain rfl : k = 0 := by omega
        go_wp2
        go_ret
        refine ⟨rfl, ?_⟩
        repeat (first | exact Below.refl _ _ | refine bel_drewN ?_ _ | refine bel_drew ?_ | refine bel_alloc ?_ _)

set_option maxHeartbeats 4000000 in
set_option maxRecDepth 100000 in
theorem same101 (o : ByteArray) (s u : Int) (fa fb : Int) (nt : ByteArray) (nw : Bool) (s1 s2 n1 n2 : Nat) (w : World) (hs1 : s1 < w.heap.size) (hs1a : w.cell? ⟨s1, 0, none⟩ = some (.int .i64 fa)) (hs1b : w.cell? ⟨s1, 1, none⟩ = some (.int .i64 fb)) (hs2 : s2 < w.heap.size) (hs2a : w.cell? ⟨s2, 0, none⟩ = some (.int .i64 fa)) (hs2b : w.cell? ⟨s2, 1, none⟩ = some (.int .i64 fb)) (hn1 : n1 < w.heap.size) (hn1a : w.cell? ⟨n1, 0, none⟩ = some (.string nt)) (hn1b : w.cell? ⟨n1, 1, none⟩ = some (.bool nw)) (hn2 : n2 < w.heap.size) (hn2a : w.cell? ⟨n2, 0, none⟩ = some (.string nt)) (hn2b : w.cell? ⟨n2, 1, none⟩ = some (.bool nw)) :
    Calls Try.prog 8 #[.agg #[.bool false, .string o, .slice (some ⟨s1, 0, none⟩) 1 1, .slice none 0 0, .slice (some ⟨n1, 0, none⟩) 1 1, .bool false, .bool false, .int .i64 s, .int .i64 u, .string ⟨#[]⟩, .bool false], .agg #[.bool false, .string o, .slice (some ⟨s2, 0, none⟩) 1 1, .slice none 0 0, .slice (some ⟨n2, 0, none⟩) 1 1, .bool false, .bool false, .int .i64 s, .int .i64 u, .string ⟨#[]⟩, .bool false]] w fun e w' => e = .returned (.bool true) ∧ Below w.heap.size w w' := by
  go_enter Try.func8, Try.ntmps8
  go_wp2
  go_loopw [5, 54] (fun _ i wr => ∃ k q : Nat, k ≤ 1 ∧ i = .int .i64 k ∧ wr = ((w.alloc (.cells #[.bool false, .string o, .slice (some ⟨s1, 0, none⟩) 1 1, .slice none 0 0, .slice (some ⟨n1, 0, none⟩) 1 1, .bool false, .bool false, .int .i64 s, .int .i64 u, .string ⟨#[]⟩, .bool false] 35)).alloc (.cells #[.bool false, .string o, .slice (some ⟨s2, 0, none⟩) 1 1, .slice none 0 0, .slice (some ⟨n2, 0, none⟩) 1 1, .bool false, .bool false, .int .i64 s, .int .i64 u, .string ⟨#[]⟩, .bool false] 35)).drewN q) (fun _ i _ => 1 - (intOf i).toNat)
  case atStart => exact ⟨0, 0, by omega, rfl, rfl⟩
  case round =>
    obtain ⟨k, q1, hk, rfl, rfl⟩ := hrel
    by_cases hlt : k < 1
    · obtain rfl : k = 0 := by omega
      go_wp2_with fail
      go_quiet (fail)
      go_wp2_with fail
      go_roundw
      case rel => exact ⟨1, _, by omega, rfl, rfl⟩
      case measure => simp [intOf]
    obtain rfl : k = 1 := by omega
    go_wp2
    go_loopw [6, 73] (fun _ i wr => ∃ k q : Nat, k ≤ 0 ∧ i = .int .i64 k ∧ wr = ((w.alloc (.cells #[.bool false, .string o, .slice (some ⟨s1, 0, none⟩) 1 1, .slice none 0 0, .slice (some ⟨n1, 0, none⟩) 1 1, .bool false, .bool false, .int .i64 s, .int .i64 u, .string ⟨#[]⟩, .bool false] 35)).alloc (.cells #[.bool false, .string o, .slice (some ⟨s2, 0, none⟩) 1 1, .slice none 0 0, .slice (some ⟨n2, 0, none⟩) 1 1, .bool false, .bool false, .int .i64 s, .int .i64 u, .string ⟨#[]⟩, .bool false] 35)).drewN q) (fun _ i _ => 0 - (intOf i).toNat)
    case atStart => exact ⟨0, q1, by omega, rfl, rfl⟩
    case round =>
      obtain ⟨k, q2, hk, rfl, rfl⟩ := hrel
      obtain rfl : k = 0 := by omega
      go_wp2
      go_loopw [7, 94] (fun _ i wr => ∃ k q : Nat, k ≤ 1 ∧ i = .int .i64 k ∧ wr = ((w.alloc (.cells #[.bool false, .string o, .slice (some ⟨s1, 0, none⟩) 1 1, .slice none 0 0, .slice (some ⟨n1, 0, none⟩) 1 1, .bool false, .bool false, .int .i64 s, .int .i64 u, .string ⟨#[]⟩, .bool false] 35)).alloc (.cells #[.bool false, .string o, .slice (some ⟨s2, 0, none⟩) 1 1, .slice none 0 0, .slice (some ⟨n2, 0, none⟩) 1 1, .bool false, .bool false, .int .i64 s, .int .i64 u, .string ⟨#[]⟩, .bool false] 35)).drewN q) (fun _ i _ => 1 - (intOf i).toNat)
      case atStart => exact ⟨0, q2, by omega, rfl, rfl⟩
      case round =>
        obtain ⟨k, q3, hk, rfl, rfl⟩ := hrel
        by_cases hlt : k < 1
        · obtain rfl : k = 0 := by omega
          go_wp2_with fail
          go_quiet (fail)
          go_wp2_with fail
          go_roundw
          case rel => exact ⟨1, _, by omega, rfl, rfl⟩
          case measure => simp [intOf]
        obtain rfl : k = 1 := by omega
        go_wp2
        go_ret
        refine ⟨rfl, ?_⟩
        repeat (first | exact Below.refl _ _ | refine bel_drewN ?_ _ | refine bel_drew ?_ | refine bel_alloc ?_ _)

set_option maxHeartbeats 4000000 in
set_option maxRecDepth 100000 in
theorem same110 (o : ByteArray) (s u : Int) (fa fb : Int) (mt : ByteArray) (mw : Bool) (s1 s2 m1 m2 : Nat) (w : World) (hs1 : s1 < w.heap.size) (hs1a : w.cell? ⟨s1, 0, none⟩ = some (.int .i64 fa)) (hs1b : w.cell? ⟨s1, 1, none⟩ = some (.int .i64 fb)) (hs2 : s2 < w.heap.size) (hs2a : w.cell? ⟨s2, 0, none⟩ = some (.int .i64 fa)) (hs2b : w.cell? ⟨s2, 1, none⟩ = some (.int .i64 fb)) (hm1 : m1 < w.heap.size) (hm1a : w.cell? ⟨m1, 0, none⟩ = some (.string mt)) (hm1b : w.cell? ⟨m1, 1, none⟩ = some (.bool mw)) (hm2 : m2 < w.heap.size) (hm2a : w.cell? ⟨m2, 0, none⟩ = some (.string mt)) (hm2b : w.cell? ⟨m2, 1, none⟩ = some (.bool mw)) :
    Calls Try.prog 8 #[.agg #[.bool false, .string o, .slice (some ⟨s1, 0, none⟩) 1 1, .slice (some ⟨m1, 0, none⟩) 1 1, .slice none 0 0, .bool false, .bool false, .int .i64 s, .int .i64 u, .string ⟨#[]⟩, .bool false], .agg #[.bool false, .string o, .slice (some ⟨s2, 0, none⟩) 1 1, .slice (some ⟨m2, 0, none⟩) 1 1, .slice none 0 0, .bool false, .bool false, .int .i64 s, .int .i64 u, .string ⟨#[]⟩, .bool false]] w fun e w' => e = .returned (.bool true) ∧ Below w.heap.size w w' := by
  go_enter Try.func8, Try.ntmps8
  go_wp2
  go_loopw [5, 54] (fun _ i wr => ∃ k q : Nat, k ≤ 1 ∧ i = .int .i64 k ∧ wr = ((w.alloc (.cells #[.bool false, .string o, .slice (some ⟨s1, 0, none⟩) 1 1, .slice (some ⟨m1, 0, none⟩) 1 1, .slice none 0 0, .bool false, .bool false, .int .i64 s, .int .i64 u, .string ⟨#[]⟩, .bool false] 35)).alloc (.cells #[.bool false, .string o, .slice (some ⟨s2, 0, none⟩) 1 1, .slice (some ⟨m2, 0, none⟩) 1 1, .slice none 0 0, .bool false, .bool false, .int .i64 s, .int .i64 u, .string ⟨#[]⟩, .bool false] 35)).drewN q) (fun _ i _ => 1 - (intOf i).toNat)
  case atStart => exact ⟨0, 0, by omega, rfl, rfl⟩
  case round =>
    obtain ⟨k, q1, hk, rfl, rfl⟩ := hrel
    by_cases hlt : k < 1
    · obtain rfl : k = 0 := by omega
      go_wp2_with fail
      go_quiet (fail)
      go_wp2_with fail
      go_roundw
      case rel => exact ⟨1, _, by omega, rfl, rfl⟩
      case measure => simp [intOf]
    obtain rfl : k = 1 := by omega
    go_wp2
    go_loopw [6, 73] (fun _ i wr => ∃ k q : Nat, k ≤ 1 ∧ i = .int .i64 k ∧ wr = ((w.alloc (.cells #[.bool false, .string o, .slice (some ⟨s1, 0, none⟩) 1 1, .slice (some ⟨m1, 0, none⟩) 1 1, .slice none 0 0, .bool false, .bool false, .int .i64 s, .int .i64 u, .string ⟨#[]⟩, .bool false] 35)).alloc (.cells #[.bool false, .string o, .slice (some ⟨s2, 0, none⟩) 1 1, .slice (some ⟨m2, 0, none⟩) 1 1, .slice none 0 0, .bool false, .bool false, .int .i64 s, .int .i64 u, .string ⟨#[]⟩, .bool false] 35)).drewN q) (fun _ i _ => 1 - (intOf i).toNat)
    case atStart => exact ⟨0, q1, by omega, rfl, rfl⟩
    case round =>
      obtain ⟨k, q2, hk, rfl, rfl⟩ := hrel
      by_cases hlt : k < 1
      · obtain rfl : k = 0 := by omega
        go_wp2_with fail
        go_quiet (fail)
        go_wp2_with fail
        go_roundw
        case rel => exact ⟨1, _, by omega, rfl, rfl⟩
        case measure => simp [intOf]
      obtain rfl : k = 1 := by omega
      go_wp2
      go_loopw [7, 94] (fun _ i wr => ∃ k q : Nat, k ≤ 0 ∧ i = .int .i64 k ∧ wr = ((w.alloc (.cells #[.bool false, .string o, .slice (some ⟨s1, 0, none⟩) 1 1, .slice (some ⟨m1, 0, none⟩) 1 1, .slice none 0 0, .bool false, .bool false, .int .i64 s, .int .i64 u, .string ⟨#[]⟩, .bool false] 35)).alloc (.cells #[.bool false, .string o, .slice (some ⟨s2, 0, none⟩) 1 1, .slice (some ⟨m2, 0, none⟩) 1 1, .slice none 0 0, .bool false, .bool false, .int .i64 s, .int .i64 u, .string ⟨#[]⟩, .bool false] 35)).drewN q) (fun _ i _ => 0 - (intOf i).toNat)
      case atStart => exact ⟨0, q2, by omega, rfl, rfl⟩
      case round =>
        obtain ⟨k, q3, hk, rfl, rfl⟩ := hrel
        obtain rfl : k = 0 := by omega
        go_wp2
        go_ret
        refine ⟨rfl, ?_⟩
        repeat (first | exact Below.refl _ _ | refine bel_drewN ?_ _ | refine bel_drew ?_ | refine bel_alloc ?_ _)

set_option maxHeartbeats 4000000 in
set_option maxRecDepth 100000 in
theorem same111 (o : ByteArray) (s u : Int) (fa fb : Int) (mt : ByteArray) (mw : Bool) (nt : ByteArray) (nw : Bool) (s1 s2 m1 m2 n1 n2 : Nat) (w : World) (hs1 : s1 < w.heap.size) (hs1a : w.cell? ⟨s1, 0, none⟩ = some (.int .i64 fa)) (hs1b : w.cell? ⟨s1, 1, none⟩ = some (.int .i64 fb)) (hs2 : s2 < w.heap.size) (hs2a : w.cell? ⟨s2, 0, none⟩ = some (.int .i64 fa)) (hs2b : w.cell? ⟨s2, 1, none⟩ = some (.int .i64 fb)) (hm1 : m1 < w.heap.size) (hm1a : w.cell? ⟨m1, 0, none⟩ = some (.string mt)) (hm1b : w.cell? ⟨m1, 1, none⟩ = some (.bool mw)) (hm2 : m2 < w.heap.size) (hm2a : w.cell? ⟨m2, 0, none⟩ = some (.string mt)) (hm2b : w.cell? ⟨m2, 1, none⟩ = some (.bool mw)) (hn1 : n1 < w.heap.size) (hn1a : w.cell? ⟨n1, 0, none⟩ = some (.string nt)) (hn1b : w.cell? ⟨n1, 1, none⟩ = some (.bool nw)) (hn2 : n2 < w.heap.size) (hn2a : w.cell? ⟨n2, 0, none⟩ = some (.string nt)) (hn2b : w.cell? ⟨n2, 1, none⟩ = some (.bool nw)) :
    Calls Try.prog 8 #[.agg #[.bool false, .string o, .slice (some ⟨s1, 0, none⟩) 1 1, .slice (some ⟨m1, 0, none⟩) 1 1, .slice (some ⟨n1, 0, none⟩) 1 1, .bool false, .bool false, .int .i64 s, .int .i64 u, .string ⟨#[]⟩, .bool false], .agg #[.bool false, .string o, .slice (some ⟨s2, 0, none⟩) 1 1, .slice (some ⟨m2, 0, none⟩) 1 1, .slice (some ⟨n2, 0, none⟩) 1 1, .bool false, .bool false, .int .i64 s, .int .i64 u, .string ⟨#[]⟩, .bool false]] w fun e w' => e = .returned (.bool true) ∧ Below w.heap.size w w' := by
  go_enter Try.func8, Try.ntmps8
  go_wp2
  go_loopw [5, 54] (fun _ i wr => ∃ k q : Nat, k ≤ 1 ∧ i = .int .i64 k ∧ wr = ((w.alloc (.cells #[.bool false, .string o, .slice (some ⟨s1, 0, none⟩) 1 1, .slice (some ⟨m1, 0, none⟩) 1 1, .slice (some ⟨n1, 0, none⟩) 1 1, .bool false, .bool false, .int .i64 s, .int .i64 u, .string ⟨#[]⟩, .bool false] 35)).alloc (.cells #[.bool false, .string o, .slice (some ⟨s2, 0, none⟩) 1 1, .slice (some ⟨m2, 0, none⟩) 1 1, .slice (some ⟨n2, 0, none⟩) 1 1, .bool false, .bool false, .int .i64 s, .int .i64 u, .string ⟨#[]⟩, .bool false] 35)).drewN q) (fun _ i _ => 1 - (intOf i).toNat)
  case atStart => exact ⟨0, 0, by omega, rfl, rfl⟩
  case round =>
    obtain ⟨k, q1, hk, rfl, rfl⟩ := hrel
    by_cases hlt : k < 1
    · obtain rfl : k = 0 := by omega
      go_wp2_with fail
      go_quiet (fail)
      go_wp2_with fail
      go_roundw
      case rel => exact ⟨1, _, by omega, rfl, rfl⟩
      case measure => simp [intOf]
    obtain rfl : k = 1 := by omega
    go_wp2
    go_loopw [6, 73] (fun _ i wr => ∃ k q : Nat, k ≤ 1 ∧ i = .int .i64 k ∧ wr = ((w.alloc (.cells #[.bool false, .string o, .slice (some ⟨s1, 0, none⟩) 1 1, .slice (some ⟨m1, 0, none⟩) 1 1, .slice (some ⟨n1, 0, none⟩) 1 1, .bool false, .bool false, .int .i64 s, .int .i64 u, .string ⟨#[]⟩, .bool false] 35)).alloc (.cells #[.bool false, .string o, .slice (some ⟨s2, 0, none⟩) 1 1, .slice (some ⟨m2, 0, none⟩) 1 1, .slice (some ⟨n2, 0, none⟩) 1 1, .bool false, .bool false, .int .i64 s, .int .i64 u, .string ⟨#[]⟩, .bool false] 35)).drewN q) (fun _ i _ => 1 - (intOf i).toNat)
    case atStart => exact ⟨0, q1, by omega, rfl, rfl⟩
    case round =>
      obtain ⟨k, q2, hk, rfl, rfl⟩ := hrel
      by_cases hlt : k < 1
      · obtain rfl : k = 0 := by omega
        go_wp2_with fail
        go_quiet (fail)
        go_wp2_with fail
        go_roundw
        case rel => exact ⟨1, _, by omega, rfl, rfl⟩
        case measure => simp [intOf]
      obtain rfl : k = 1 := by omega
      go_wp2
      go_loopw [7, 94] (fun _ i wr => ∃ k q : Nat, k ≤ 1 ∧ i = .int .i64 k ∧ wr = ((w.alloc (.cells #[.bool false, .string o, .slice (some ⟨s1, 0, none⟩) 1 1, .slice (some ⟨m1, 0, none⟩) 1 1, .slice (some ⟨n1, 0, none⟩) 1 1, .bool false, .bool false, .int .i64 s, .int .i64 u, .string ⟨#[]⟩, .bool false] 35)).alloc (.cells #[.bool false, .string o, .slice (some ⟨s2, 0, none⟩) 1 1, .slice (some ⟨m2, 0, none⟩) 1 1, .slice (some ⟨n2, 0, none⟩) 1 1, .bool false, .bool false, .int .i64 s, .int .i64 u, .string ⟨#[]⟩, .bool false] 35)).drewN q) (fun _ i _ => 1 - (intOf i).toNat)
      case atStart => exact ⟨0, q2, by omega, rfl, rfl⟩
      case round =>
        obtain ⟨k, q3, hk, rfl, rfl⟩ := hrel
        by_cases hlt : k < 1
        · obtain rfl : k = 0 := by omega
          go_wp2_with fail
          go_quiet (fail)
          go_wp2_with fail
          go_roundw
          case rel => exact ⟨1, _, by omega, rfl, rfl⟩
          case measure => simp [intOf]
        obtain rfl : k = 1 := by omega
        go_wp2
        go_ret
        refine ⟨rfl, ?_⟩
        repeat (first | exact Below.refl _ _ | refine bel_drewN ?_ _ | refine bel_drew ?_ | refine bel_alloc ?_ _)

theorem specO_form (f t : Int) : specO f t = none ∨ ∃ a b : Int, specO f t = some (.int .i64 a, .int .i64 b) := by
  unfold specO
  split
  · split
    · exact .inr ⟨_, _, rfl⟩
    · exact .inl rfl
  · exact .inr ⟨_, _, rfl⟩
theorem tagO_form (m : ByteArray) (mw : Bool) : tagO m mw = none ∨ tagO m mw = some (.string m, .bool mw) := by
  unfold tagO
  split
  · exact .inl rfl
  · exact .inr rfl

/-- Two requests of one object whose slices hold the same: they are told the same. -/
theorem sameReq (o m n : ByteArray) (f t : Int) (mw nw : Bool) (S1 M1 N1 S2 M2 N2 : Value) (w : World)
    (hS1 : SL2 w S1 (specO f t)) (hM1 : SL2 w M1 (tagO m mw)) (hN1 : SL2 w N1 (tagO n nw)) (hS2 : SL2 w S2 (specO f t)) (hM2 : SL2 w M2 (tagO m mw)) (hN2 : SL2 w N2 (tagO n nw)) :
    Calls Try.prog 8 #[reqV o S1 M1 N1, reqV o S2 M2 N2] w fun e w' => e = .returned (.bool true) ∧ Below w.heap.size w w' := by
  rcases specO_form f t with h | ⟨a, b, h⟩ <;> rw [h] at hS1 hS2 <;> rcases tagO_form m mw with h' | h' <;> rw [h'] at hM1 hM2 <;> rcases tagO_form n nw with h'' | h'' <;> rw [h''] at hN1 hN2
  · obtain rfl : S1 = .slice none 0 0 := hS1
    obtain rfl : S2 = .slice none 0 0 := hS2
    obtain rfl : M1 = .slice none 0 0 := hM1
    obtain rfl : M2 = .slice none 0 0 := hM2
    obtain rfl : N1 = .slice none 0 0 := hN1
    obtain rfl : N2 = .slice none 0 0 := hN2
    exact same000 o (-1) (-1) w
  · obtain rfl : S1 = .slice none 0 0 := hS1
    obtain rfl : S2 = .slice none 0 0 := hS2
    obtain rfl : M1 = .slice none 0 0 := hM1
    obtain rfl : M2 = .slice none 0 0 := hM2
    obtain ⟨bN1, rfl, pN1, qN1, rN1⟩ := hN1
    obtain ⟨bN2, rfl, pN2, qN2, rN2⟩ := hN2
    exact same001 o (-1) (-1) n nw bN1 bN2 w pN1 qN1 rN1 pN2 qN2 rN2
  · obtain rfl : S1 = .slice none 0 0 := hS1
    obtain rfl : S2 = .slice none 0 0 := hS2
    obtain ⟨bM1, rfl, pM1, qM1, rM1⟩ := hM1
    obtain ⟨bM2, rfl, pM2, qM2, rM2⟩ := hM2
    obtain rfl : N1 = .slice none 0 0 := hN1
    obtain rfl : N2 = .slice none 0 0 := hN2
    exact same010 o (-1) (-1) m mw bM1 bM2 w pM1 qM1 rM1 pM2 qM2 rM2
  · obtain rfl : S1 = .slice none 0 0 := hS1
    obtain rfl : S2 = .slice none 0 0 := hS2
    obtain ⟨bM1, rfl, pM1, qM1, rM1⟩ := hM1
    obtain ⟨bM2, rfl, pM2, qM2, rM2⟩ := hM2
    obtain ⟨bN1, rfl, pN1, qN1, rN1⟩ := hN1
    obtain ⟨bN2, rfl, pN2, qN2, rN2⟩ := hN2
    exact same011 o (-1) (-1) m mw n nw bM1 bM2 bN1 bN2 w pM1 qM1 rM1 pM2 qM2 rM2 pN1 qN1 rN1 pN2 qN2 rN2
  · obtain ⟨bS1, rfl, pS1, qS1, rS1⟩ := hS1
    obtain ⟨bS2, rfl, pS2, qS2, rS2⟩ := hS2
    obtain rfl : M1 = .slice none 0 0 := hM1
    obtain rfl : M2 = .slice none 0 0 := hM2
    obtain rfl : N1 = .slice none 0 0 := hN1
    obtain rfl : N2 = .slice none 0 0 := hN2
    exact same100 o (-1) (-1) a b bS1 bS2 w pS1 qS1 rS1 pS2 qS2 rS2
  · obtain ⟨bS1, rfl, pS1, qS1, rS1⟩ := hS1
    obtain ⟨bS2, rfl, pS2, qS2, rS2⟩ := hS2
    obtain rfl : M1 = .slice none 0 0 := hM1
    obtain rfl : M2 = .slice none 0 0 := hM2
    obtain ⟨bN1, rfl, pN1, qN1, rN1⟩ := hN1
    obtain ⟨bN2, rfl, pN2, qN2, rN2⟩ := hN2
    exact same101 o (-1) (-1) a b n nw bS1 bS2 bN1 bN2 w pS1 qS1 rS1 pS2 qS2 rS2 pN1 qN1 rN1 pN2 qN2 rN2
  · obtain ⟨bS1, rfl, pS1, qS1, rS1⟩ := hS1
    obtain ⟨bS2, rfl, pS2, qS2, rS2⟩ := hS2
    obtain ⟨bM1, rfl, pM1, qM1, rM1⟩ := hM1
    obtain ⟨bM2, rfl, pM2, qM2, rM2⟩ := hM2
    obtain rfl : N1 = .slice none 0 0 := hN1
    obtain rfl : N2 = .slice none 0 0 := hN2
    exact same110 o (-1) (-1) a b m mw bS1 bS2 bM1 bM2 w pS1 qS1 rS1 pS2 qS2 rS2 pM1 qM1 rM1 pM2 qM2 rM2
  · obtain ⟨bS1, rfl, pS1, qS1, rS1⟩ := hS1
    obtain ⟨bS2, rfl, pS2, qS2, rS2⟩ := hS2
    obtain ⟨bM1, rfl, pM1, qM1, rM1⟩ := hM1
    obtain ⟨bM2, rfl, pM2, qM2, rM2⟩ := hM2
    obtain ⟨bN1, rfl, pN1, qN1, rN1⟩ := hN1
    obtain ⟨bN2, rfl, pN2, qN2, rN2⟩ := hN2
    exact same111 o (-1) (-1) a b m mw n nw bS1 bS2 bM1 bM2 bN1 bN2 w pS1 qS1 rS1 pS2 qS2 rS2 pM1 qM1 rM1 pM2 qM2 rM2 pN1 qN1 rN1 pN2 qN2 rN2

/-- Two empty requests are told the same. -/
theorem sameEmpty (w : World) :
    Calls Try.prog 8 #[.agg #[.bool false, .string ⟨#[]⟩, .slice none 0 0, .slice none 0 0, .slice none 0 0, .bool false, .bool false, .int .i64 0, .int .i64 0, .string ⟨#[]⟩, .bool false], .agg #[.bool false, .string ⟨#[]⟩, .slice none 0 0, .slice none 0 0, .slice none 0 0, .bool false, .bool false, .int .i64 0, .int .i64 0, .string ⟨#[]⟩, .bool false]] w fun e w' => e = .returned (.bool true) ∧ Below w.heap.size w w' :=
  same000 ⟨#[]⟩ 0 0 w
end Go.Proofs.Ytmbcnfgeobbldaa
