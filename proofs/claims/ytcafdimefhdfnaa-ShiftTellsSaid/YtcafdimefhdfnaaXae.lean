/-
  ShiftTells: whatever the input, the law returns true; no condition. Proved by an abstract evaluator of loaded code that is sound for every program, and by what each function of this seat does on trees.

-/
import Derived.Test.YtcafdimefhdfnaaXad
namespace Go.Vd
open Go Go.RowKit Go.Proofs
noncomputable section
def F1 : Nat → Option AFunc := compFunc Try.prog H1
def ev (n : Nat) : CallF := evF F1 n
end
def i64 (n : Int) : AV := .int .i64 n
def cellsT : Tm → List AV
  | .sort n => [i64 1, i64 n, .str [], .nilp, .nilp, .nilp]
  | .var n => [i64 2, i64 n, .str [], .nilp, .nilp, .nilp]
  | .con s n => [i64 3, i64 n, .str s, .nilp, .nilp, .nilp]
  | .pi a b => [i64 4, i64 0, .str [], .imm (cellsT a) 0, .imm (cellsT b) 0, .nilp]
  | .lam a b => [i64 5, i64 0, .str [], .imm (cellsT a) 0, .imm (cellsT b) 0, .nilp]
  | .app a b => [i64 6, i64 0, .str [], .imm (cellsT a) 0, .imm (cellsT b) 0, .nilp]
  | .lett a b c => [i64 7, i64 0, .str [], .imm (cellsT a) 0, .imm (cellsT b) 0, .imm (cellsT c) 0]
/-- A tree's pointer. -/
def tw (t : Tm) : AV := .imm (cellsT t) 0
/-- It comes to that, from some fuel on, whatever the memory, which stays. -/
def Ok (f : Nat) (args : List AV) (v : AV) : Prop := ∃ N, ∀ n, N ≤ n → ∀ h, ev n f args h = .ok v h
def lift (by' : Int) : Tm → Int → Tm
  | .sort n, _ => .sort n
  | .var n, k => if k ≤ n then .var (n + by') else .var n
  | .con s n, _ => .con s n
  | .pi a b, k => .pi (lift by' a k) (lift by' b (k + 1))
  | .lam a b, k => .lam (lift by' a k) (lift by' b (k + 1))
  | .app a b, k => .app (lift by' a k) (lift by' b k)
  | .lett a b c, k => .lett (lift by' a k) (lift by' b k) (lift by' c (k + 1))
set_option maxRecDepth 100000
set_option maxHeartbeats 0
abbrev c3 (k : Int) (a b c : AV) : List AV := [i64 k, i64 0, .str [], a, b, c]
theorem ok_leaf {f : Nat} {args : List AV} {v : AV} (k : ∀ n h, ev (n + 1) f args h = .ok v h) : Ok f args v := ⟨1, fun n hn h => by
  obtain ⟨m, rfl⟩ : ∃ m, n = m + 1 := ⟨n - 1, by omega⟩
  exact k m h⟩
theorem ok_step {f : Nat} {args : List AV} {v : AV} (fl : Nat → Nat → Bool) (N : Nat) (k : ∀ n, N ≤ n → ∀ h, ∃ s, (stepI Try.prog H1 fl f (ev n) n args h).Goes s (.ok v h)) : Ok f args v :=
  ⟨N + 1, fun n hn h => by
    obtain ⟨m, rfl⟩ : ∃ m, n = m + 1 := ⟨n - 1, by omega⟩
    obtain ⟨s, hs⟩ := k m (by omega) h
    exact goes_call fl hs (by simp)⟩
theorem ev_var (n : Nat) (h : AHeap) (k : Int) : ev (n + 1) 27 [i64 k] h = .ok (tw (.var k)) h := by kernel_rfl
theorem ok_var (k : Int) : Ok 27 [i64 k] (tw (.var k)) := ok_leaf fun n h => ev_var n h k
theorem ev_parts1 (n : Nat) (h : AHeap) : ev (n + 1) 33 [i64 1] h = .ok (i64 0) h := by kernel_rfl
theorem ok_parts1 : Ok 33 [i64 1] (i64 0) := ok_leaf ev_parts1
theorem ev_parts2 (n : Nat) (h : AHeap) : ev (n + 1) 33 [i64 2] h = .ok (i64 0) h := by kernel_rfl
theorem ok_parts2 : Ok 33 [i64 2] (i64 0) := ok_leaf ev_parts2
theorem ev_parts3 (n : Nat) (h : AHeap) : ev (n + 1) 33 [i64 3] h = .ok (i64 0) h := by kernel_rfl
theorem ok_parts3 : Ok 33 [i64 3] (i64 0) := ok_leaf ev_parts3
theorem ev_parts4 (n : Nat) (h : AHeap) : ev (n + 1) 33 [i64 4] h = .ok (i64 2) h := by kernel_rfl
theorem ok_parts4 : Ok 33 [i64 4] (i64 2) := ok_leaf ev_parts4
theorem ev_parts5 (n : Nat) (h : AHeap) : ev (n + 1) 33 [i64 5] h = .ok (i64 2) h := by kernel_rfl
theorem ok_parts5 : Ok 33 [i64 5] (i64 2) := ok_leaf ev_parts5
theorem ev_parts6 (n : Nat) (h : AHeap) : ev (n + 1) 33 [i64 6] h = .ok (i64 2) h := by kernel_rfl
theorem ok_parts6 : Ok 33 [i64 6] (i64 2) := ok_leaf ev_parts6
theorem ev_parts7 (n : Nat) (h : AHeap) : ev (n + 1) 33 [i64 7] h = .ok (i64 3) h := by kernel_rfl
theorem ok_parts7 : Ok 33 [i64 7] (i64 3) := ok_leaf ev_parts7
theorem ev_under4 (n : Nat) (h : AHeap) (a b c : AV) : ev (n + 1) 34 [.imm (c3 4 a b c) 0, i64 1] h = .ok (i64 1) h := by kernel_rfl
theorem ev_underc4 (n : Nat) (h : AHeap) (a b c : AV) : ev (n + 1) 34 [.imm (c3 4 a b c) 0, i64 2] h = .ok (i64 1) h := by kernel_rfl
theorem ok_under4 (a b c : AV) : Ok 34 [.imm (c3 4 a b c) 0, i64 1] (i64 1) := ok_leaf fun n h => ev_under4 n h a b c
theorem ok_underc4 (a b c : AV) : Ok 34 [.imm (c3 4 a b c) 0, i64 2] (i64 1) := ok_leaf fun n h => ev_underc4 n h a b c
theorem ev_under5 (n : Nat) (h : AHeap) (a b c : AV) : ev (n + 1) 34 [.imm (c3 5 a b c) 0, i64 1] h = .ok (i64 1) h := by kernel_rfl
theorem ev_underc5 (n : Nat) (h : AHeap) (a b c : AV) : ev (n + 1) 34 [.imm (c3 5 a b c) 0, i64 2] h = .ok (i64 1) h := by kernel_rfl
theorem ok_under5 (a b c : AV) : Ok 34 [.imm (c3 5 a b c) 0, i64 1] (i64 1) := ok_leaf fun n h => ev_under5 n h a b c
theorem ok_underc5 (a b c : AV) : Ok 34 [.imm (c3 5 a b c) 0, i64 2] (i64 1) := ok_leaf fun n h => ev_underc5 n h a b c
theorem ev_under6 (n : Nat) (h : AHeap) (a b c : AV) : ev (n + 1) 34 [.imm (c3 6 a b c) 0, i64 1] h = .ok (i64 0) h := by kernel_rfl
theorem ev_underc6 (n : Nat) (h : AHeap) (a b c : AV) : ev (n + 1) 34 [.imm (c3 6 a b c) 0, i64 2] h = .ok (i64 1) h := by kernel_rfl
theorem ok_under6 (a b c : AV) : Ok 34 [.imm (c3 6 a b c) 0, i64 1] (i64 0) := ok_leaf fun n h => ev_under6 n h a b c
theorem ok_underc6 (a b c : AV) : Ok 34 [.imm (c3 6 a b c) 0, i64 2] (i64 1) := ok_leaf fun n h => ev_underc6 n h a b c
theorem ev_under7 (n : Nat) (h : AHeap) (a b c : AV) : ev (n + 1) 34 [.imm (c3 7 a b c) 0, i64 1] h = .ok (i64 0) h := by kernel_rfl
theorem ev_underc7 (n : Nat) (h : AHeap) (a b c : AV) : ev (n + 1) 34 [.imm (c3 7 a b c) 0, i64 2] h = .ok (i64 1) h := by kernel_rfl
theorem ok_under7 (a b c : AV) : Ok 34 [.imm (c3 7 a b c) 0, i64 1] (i64 0) := ok_leaf fun n h => ev_under7 n h a b c
theorem ok_underc7 (a b c : AV) : Ok 34 [.imm (c3 7 a b c) 0, i64 2] (i64 1) := ok_leaf fun n h => ev_underc7 n h a b c
theorem lift_4 (cf : CallF) (n : Nat) (h : AHeap) (a b : AV)  (d k : Int) (x y : List AV)  : (stepI Try.prog H1 (flL [(1, 4)]) 14 cf n [.imm (c3 4 a b .nilp) 0, i64 d, i64 k] h).Goes [.ok (.bool false) h, .ok (i64 2) h, .ok (.imm x 0) h, .ok (i64 1) h, .ok (.imm y 0) h, .ok (i64 1) h, .ok .nilp h] (.ok (.imm (c3 4 (.imm x 0) (.imm y 0) .nilp) 0) h) = (OR.ok (.bool (ieq d 0)) h = .ok (.bool false) h ∧ cf 33 [i64 4] h = .ok (i64 2) h ∧ cf 14 [a, i64 d, i64 k] h = .ok (.imm x 0) h ∧ cf 34 [.imm (c3 4 a b .nilp) 0, i64 1] h = .ok (i64 1) h ∧ cf 14 [b, i64 d, i64 (wrapK .i64 (k + 1))] h = .ok (.imm y 0) h ∧ cf 34 [.imm (c3 4 a b .nilp) 0, i64 2] h = .ok (i64 1) h ∧ cf 14 [.nilp, i64 d, i64 (wrapK .i64 (k + 1))] h = .ok .nilp h ∧ OR.ok (.imm (c3 4 (.imm x 0) (.imm y 0) .nilp) 0) h = OR.ok (.imm (c3 4 (.imm x 0) (.imm y 0) .nilp) 0) h) := by kernel_rfl
theorem lift_5 (cf : CallF) (n : Nat) (h : AHeap) (a b : AV)  (d k : Int) (x y : List AV)  : (stepI Try.prog H1 (flL [(1, 4)]) 14 cf n [.imm (c3 5 a b .nilp) 0, i64 d, i64 k] h).Goes [.ok (.bool false) h, .ok (i64 2) h, .ok (.imm x 0) h, .ok (i64 1) h, .ok (.imm y 0) h, .ok (i64 1) h, .ok .nilp h] (.ok (.imm (c3 5 (.imm x 0) (.imm y 0) .nilp) 0) h) = (OR.ok (.bool (ieq d 0)) h = .ok (.bool false) h ∧ cf 33 [i64 5] h = .ok (i64 2) h ∧ cf 14 [a, i64 d, i64 k] h = .ok (.imm x 0) h ∧ cf 34 [.imm (c3 5 a b .nilp) 0, i64 1] h = .ok (i64 1) h ∧ cf 14 [b, i64 d, i64 (wrapK .i64 (k + 1))] h = .ok (.imm y 0) h ∧ cf 34 [.imm (c3 5 a b .nilp) 0, i64 2] h = .ok (i64 1) h ∧ cf 14 [.nilp, i64 d, i64 (wrapK .i64 (k + 1))] h = .ok .nilp h ∧ OR.ok (.imm (c3 5 (.imm x 0) (.imm y 0) .nilp) 0) h = OR.ok (.imm (c3 5 (.imm x 0) (.imm y 0) .nilp) 0) h) := by kernel_rfl
theorem lift_6 (cf : CallF) (n : Nat) (h : AHeap) (a b : AV)  (d k : Int) (x y : List AV)  : (stepI Try.prog H1 (flL [(1, 4)]) 14 cf n [.imm (c3 6 a b .nilp) 0, i64 d, i64 k] h).Goes [.ok (.bool false) h, .ok (i64 2) h, .ok (.imm x 0) h, .ok (i64 0) h, .ok (.imm y 0) h, .ok (i64 1) h, .ok .nilp h] (.ok (.imm (c3 6 (.imm x 0) (.imm y 0) .nilp) 0) h) = (OR.ok (.bool (ieq d 0)) h = .ok (.bool false) h ∧ cf 33 [i64 6] h = .ok (i64 2) h ∧ cf 14 [a, i64 d, i64 k] h = .ok (.imm x 0) h ∧ cf 34 [.imm (c3 6 a b .nilp) 0, i64 1] h = .ok (i64 0) h ∧ cf 14 [b, i64 d, i64 (wrapK .i64 (k + 0))] h = .ok (.imm y 0) h ∧ cf 34 [.imm (c3 6 a b .nilp) 0, i64 2] h = .ok (i64 1) h ∧ cf 14 [.nilp, i64 d, i64 (wrapK .i64 (k + 1))] h = .ok .nilp h ∧ OR.ok (.imm (c3 6 (.imm x 0) (.imm y 0) .nilp) 0) h = OR.ok (.imm (c3 6 (.imm x 0) (.imm y 0) .nilp) 0) h) := by kernel_rfl
theorem lift_7 (cf : CallF) (n : Nat) (h : AHeap) (a b : AV) (c : AV) (d k : Int) (x y : List AV) (z : List AV) : (stepI Try.prog H1 (flL [(1, 4)]) 14 cf n [.imm (c3 7 a b c) 0, i64 d, i64 k] h).Goes [.ok (.bool false) h, .ok (i64 3) h, .ok (.imm x 0) h, .ok (i64 0) h, .ok (.imm y 0) h, .ok (i64 1) h, .ok (.imm z 0) h] (.ok (.imm (c3 7 (.imm x 0) (.imm y 0) (.imm z 0)) 0) h) = (OR.ok (.bool (ieq d 0)) h = .ok (.bool false) h ∧ cf 33 [i64 7] h = .ok (i64 3) h ∧ cf 14 [a, i64 d, i64 k] h = .ok (.imm x 0) h ∧ cf 34 [.imm (c3 7 a b c) 0, i64 1] h = .ok (i64 0) h ∧ cf 14 [b, i64 d, i64 (wrapK .i64 (k + 0))] h = .ok (.imm y 0) h ∧ cf 34 [.imm (c3 7 a b c) 0, i64 2] h = .ok (i64 1) h ∧ cf 14 [c, i64 d, i64 (wrapK .i64 (k + 1))] h = .ok (.imm z 0) h ∧ OR.ok (.imm (c3 7 (.imm x 0) (.imm y 0) (.imm z 0)) 0) h = OR.ok (.imm (c3 7 (.imm x 0) (.imm y 0) (.imm z 0)) 0) h) := by kernel_rfl
theorem lift_1 (cf : CallF) (n : Nat) (h : AHeap)  (m d k : Int) : (stepI Try.prog H1 (flL [(1, 4)]) 14 cf n [.imm [i64 1, i64 m, .str [], .nilp, .nilp, .nilp] 0, i64 d, i64 k] h).Goes [.ok (.bool false) h, .ok (i64 0) h] (.ok (.imm [i64 1, i64 m, .str [], .nilp, .nilp, .nilp] 0) h) = (OR.ok (.bool (ieq d 0)) h = .ok (.bool false) h ∧ cf 33 [i64 1] h = .ok (i64 0) h ∧ OR.ok (.imm [i64 1, i64 m, .str [], .nilp, .nilp, .nilp] 0) h = OR.ok (.imm [i64 1, i64 m, .str [], .nilp, .nilp, .nilp] 0) h) := by kernel_rfl
theorem lift_3 (cf : CallF) (n : Nat) (h : AHeap) (s : List Nat) (m d k : Int) : (stepI Try.prog H1 (flL [(1, 4)]) 14 cf n [.imm [i64 3, i64 m, .str s, .nilp, .nilp, .nilp] 0, i64 d, i64 k] h).Goes [.ok (.bool false) h, .ok (i64 0) h] (.ok (.imm [i64 3, i64 m, .str s, .nilp, .nilp, .nilp] 0) h) = (OR.ok (.bool (ieq d 0)) h = .ok (.bool false) h ∧ cf 33 [i64 3] h = .ok (i64 0) h ∧ OR.ok (.imm [i64 3, i64 m, .str s, .nilp, .nilp, .nilp] 0) h = OR.ok (.imm [i64 3, i64 m, .str s, .nilp, .nilp, .nilp] 0) h) := by kernel_rfl
theorem lift_2a (cf : CallF) (n : Nat) (h : AHeap) (m d k : Int) (x : AV) : (stepI Try.prog H1 (flL [(1, 4), (4, 5)]) 14 cf n [.imm [i64 2, i64 m, .str [], .nilp, .nilp, .nilp] 0, i64 d, i64 k] h).Goes [.ok (.bool false) h, .ok (.bool true) h, .ok x h] (.ok x h) = (OR.ok (.bool (ieq d 0)) h = .ok (.bool false) h ∧ OR.ok (.bool (!(ilt m k))) h = .ok (.bool true) h ∧ cf 27 [i64 (wrapK .i64 (m + d))] h = .ok x h ∧ OR.ok x h = OR.ok x h) := by kernel_rfl
theorem lift_2b (cf : CallF) (n : Nat) (h : AHeap) (m d k : Int) : (stepI Try.prog H1 (flL [(1, 4), (4, 5)]) 14 cf n [.imm [i64 2, i64 m, .str [], .nilp, .nilp, .nilp] 0, i64 d, i64 k] h).Goes [.ok (.bool false) h, .ok (.bool false) h] (.ok (.imm [i64 2, i64 m, .str [], .nilp, .nilp, .nilp] 0) h) = (OR.ok (.bool (ieq d 0)) h = .ok (.bool false) h ∧ OR.ok (.bool (!(ilt m k))) h = .ok (.bool false) h ∧ OR.ok (.imm [i64 2, i64 m, .str [], .nilp, .nilp, .nilp] 0) h = OR.ok (.imm [i64 2, i64 m, .str [], .nilp, .nilp, .nilp] 0) h) := by kernel_rfl
theorem lift_z (cf : CallF) (n : Nat) (h : AHeap) (v : List AV) (k : Int) : (stepI Try.prog H1 fl0 14 cf n [.imm v 0, i64 0, i64 k] h).Goes [] (.ok (.imm v 0) h) = (OR.ok (.imm v 0) h = OR.ok (.imm v 0) h) := by kernel_rfl
theorem lift_nil (cf : CallF) (n : Nat) (h : AHeap) (d k : Int) : (stepI Try.prog H1 fl0 14 cf n [.nilp, i64 d, i64 k] h).Goes [] (.ok .nilp h) = (OR.ok .nilp h = OR.ok .nilp h) := by kernel_rfl
end Go.Vd

namespace Go.Vd
open Go Go.RowKit Go.Proofs
theorem wrap_id {x : Int} (h1 : -(2 ^ 62) ≤ x) (h2 : x ≤ 2 ^ 62) : wrapK .i64 x = x := by
  rw [wrapK_eq]
  rw [IntKind.wrap_i64]; omega
def Bd (M : Int) : Tm → Prop
  | .sort n => 0 ≤ n ∧ n ≤ M
  | .var n => 0 ≤ n ∧ n ≤ M
  | .con _ n => 0 ≤ n ∧ n ≤ M
  | .pi a b => Bd M a ∧ Bd M b
  | .lam a b => Bd M a ∧ Bd M b
  | .app a b => Bd M a ∧ Bd M b
  | .lett a b c => Bd M a ∧ Bd M b ∧ Bd M c
def ht : Tm → Int
  | .sort _ => 0
  | .var _ => 0
  | .con _ _ => 0
  | .pi a b => max (ht a) (ht b) + 1
  | .lam a b => max (ht a) (ht b) + 1
  | .app a b => max (ht a) (ht b) + 1
  | .lett a b c => max (max (ht a) (ht b)) (ht c) + 1
theorem ht_nonneg : ∀ t, 0 ≤ ht t
  | .sort _ => Int.le_refl _
  | .var _ => Int.le_refl _
  | .con _ _ => Int.le_refl _
  | .pi a b => by have := ht_nonneg a; have := ht_nonneg b; simp only [ht]; omega
  | .lam a b => by have := ht_nonneg a; have := ht_nonneg b; simp only [ht]; omega
  | .app a b => by have := ht_nonneg a; have := ht_nonneg b; simp only [ht]; omega
  | .lett a b c => by have := ht_nonneg a; have := ht_nonneg b; have := ht_nonneg c; simp only [ht]; omega
theorem ieq_ne {d : Int} (h : d ≠ 0) : ieq d 0 = false := by rw [ieq_eq]; simpa using h
theorem ok_lift {d : Int} (hd : 0 < d) (hd2 : d ≤ 2 ^ 40) : ∀ (t : Tm) (k : Int), Bd (2 ^ 61) t → 0 ≤ k → k + ht t ≤ 2 ^ 41 → Ok 14 [tw t, i64 d, i64 k] (tw (lift d t k))
  | .sort m, k, hb, hk, hh => by
    obtain ⟨N1, k1⟩ := ok_parts1
    refine ok_step (flL [(1, 4)]) N1 fun n hn h => ⟨_, (lift_1 (ev n) n h m d k).mpr ⟨by rw [ieq_ne (by omega)], k1 n (by omega) h, rfl⟩⟩
  | .con s m, k, hb, hk, hh => by
    obtain ⟨N1, k1⟩ := ok_parts3
    refine ok_step (flL [(1, 4)]) N1 fun n hn h => ⟨_, (lift_3 (ev n) n h s m d k).mpr ⟨by rw [ieq_ne (by omega)], k1 n (by omega) h, rfl⟩⟩
  | .var m, k, hb, hk, hh => by
    simp only [lift]
    simp only [Bd] at hb
    by_cases q : k ≤ m
    · rw [if_pos q]
      obtain ⟨N1, k1⟩ := ok_var (m + d)
      refine ok_step (flL [(1, 4), (4, 5)]) N1 fun n hn h => ⟨_, (lift_2a (ev n) n h m d k _).mpr ⟨by rw [ieq_ne (by omega)], by rw [ilt_eq]; simp; omega, by rw [wrap_id (by omega) (by omega)]; exact k1 n (by omega) h, rfl⟩⟩
    · rw [if_neg q]
      refine ok_step (flL [(1, 4), (4, 5)]) 0 fun n hn h => ⟨_, (lift_2b (ev n) n h m d k).mpr ⟨by rw [ieq_ne (by omega)], by rw [ilt_eq]; simp; omega, rfl⟩⟩
  | .pi a b, k, hb, hk, hh => by
    simp only [ht] at hh
    have := ht_nonneg a
    have := ht_nonneg b
    obtain ⟨N1, k1⟩ := ok_parts4
    obtain ⟨N2, k2⟩ := ok_lift hd hd2 a k hb.1 hk (by omega)
    obtain ⟨N3, k3⟩ := ok_under4 (tw a) (tw b) .nilp
    obtain ⟨N4, k4⟩ := ok_lift hd hd2 b (k + 1) hb.2 (by omega) (by omega)
    obtain ⟨N5, k5⟩ := ok_underc4 (tw a) (tw b) .nilp
    obtain ⟨N6, k6⟩ : Ok 14 [.nilp, i64 d, i64 (wrapK .i64 (k + 1))] .nilp := ok_step fl0 0 fun n _ h => ⟨[], (lift_nil (ev n) n h d _).mpr rfl⟩
    refine ok_step (flL [(1, 4)]) (N1 + N2 + N3 + N4 + N5 + N6) fun n hn h => ⟨_, (lift_4 (ev n) n h (tw a) (tw b) d k _ _).mpr ⟨by rw [ieq_ne (by omega)], k1 n (by omega) h, k2 n (by omega) h, k3 n (by omega) h, by rw [wrap_id (by omega) (by omega)]; exact k4 n (by omega) h, k5 n (by omega) h, k6 n (by omega) h, rfl⟩⟩
  | .lam a b, k, hb, hk, hh => by
    simp only [ht] at hh
    have := ht_nonneg a
    have := ht_nonneg b
    obtain ⟨N1, k1⟩ := ok_parts5
    obtain ⟨N2, k2⟩ := ok_lift hd hd2 a k hb.1 hk (by omega)
    obtain ⟨N3, k3⟩ := ok_under5 (tw a) (tw b) .nilp
    obtain ⟨N4, k4⟩ := ok_lift hd hd2 b (k + 1) hb.2 (by omega) (by omega)
    obtain ⟨N5, k5⟩ := ok_underc5 (tw a) (tw b) .nilp
    obtain ⟨N6, k6⟩ : Ok 14 [.nilp, i64 d, i64 (wrapK .i64 (k + 1))] .nilp := ok_step fl0 0 fun n _ h => ⟨[], (lift_nil (ev n) n h d _).mpr rfl⟩
    refine ok_step (flL [(1, 4)]) (N1 + N2 + N3 + N4 + N5 + N6) fun n hn h => ⟨_, (lift_5 (ev n) n h (tw a) (tw b) d k _ _).mpr ⟨by rw [ieq_ne (by omega)], k1 n (by omega) h, k2 n (by omega) h, k3 n (by omega) h, by rw [wrap_id (by omega) (by omega)]; exact k4 n (by omega) h, k5 n (by omega) h, k6 n (by omega) h, rfl⟩⟩
  | .app a b, k, hb, hk, hh => by
    simp only [ht] at hh
    have := ht_nonneg a
    have := ht_nonneg b
    obtain ⟨N1, k1⟩ := ok_parts6
    obtain ⟨N2, k2⟩ := ok_lift hd hd2 a k hb.1 hk (by omega)
    obtain ⟨N3, k3⟩ := ok_under6 (tw a) (tw b) .nilp
    obtain ⟨N4, k4⟩ := ok_lift hd hd2 b k hb.2 (by omega) (by omega)
    obtain ⟨N5, k5⟩ := ok_underc6 (tw a) (tw b) .nilp
    obtain ⟨N6, k6⟩ : Ok 14 [.nilp, i64 d, i64 (wrapK .i64 (k + 1))] .nilp := ok_step fl0 0 fun n _ h => ⟨[], (lift_nil (ev n) n h d _).mpr rfl⟩
    refine ok_step (flL [(1, 4)]) (N1 + N2 + N3 + N4 + N5 + N6) fun n hn h => ⟨_, (lift_6 (ev n) n h (tw a) (tw b) d k _ _).mpr ⟨by rw [ieq_ne (by omega)], k1 n (by omega) h, k2 n (by omega) h, k3 n (by omega) h, by rw [wrap_id (by omega) (by omega), Int.add_zero]; exact k4 n (by omega) h, k5 n (by omega) h, k6 n (by omega) h, rfl⟩⟩
  | .lett a b c, k, hb, hk, hh => by
    simp only [ht] at hh
    have := ht_nonneg a
    have := ht_nonneg b
    have := ht_nonneg c
    obtain ⟨N1, k1⟩ := ok_parts7
    obtain ⟨N2, k2⟩ := ok_lift hd hd2 a k hb.1 hk (by omega)
    obtain ⟨N3, k3⟩ := ok_under7 (tw a) (tw b) (tw c)
    obtain ⟨N4, k4⟩ := ok_lift hd hd2 b k hb.2.1 (by omega) (by omega)
    obtain ⟨N5, k5⟩ := ok_underc7 (tw a) (tw b) (tw c)
    obtain ⟨N6, k6⟩ := ok_lift hd hd2 c (k + 1) hb.2.2 (by omega) (by omega)
    refine ok_step (flL [(1, 4)]) (N1 + N2 + N3 + N4 + N5 + N6) fun n hn h => ⟨_, (lift_7 (ev n) n h (tw a) (tw b) (tw c) d k _ _ _).mpr ⟨by rw [ieq_ne (by omega)], k1 n (by omega) h, k2 n (by omega) h, k3 n (by omega) h, by rw [wrap_id (by omega) (by omega), Int.add_zero]; exact k4 n (by omega) h, k5 n (by omega) h, by rw [wrap_id (by omega) (by omega)]; exact k6 n (by omega) h, rfl⟩⟩
end Go.Vd

namespace Go.Vd
open Go Go.RowKit Go.Proofs
/-- What was there stays. -/
structure Ext (h h' : AHeap) : Prop where
  next : h.next ≤ h'.next
  old : ∀ b, b < h.next → h'.m.get b = h.m.get b
theorem Ext.refl (h : AHeap) : Ext h h := ⟨Nat.le_refl _, fun _ _ => rfl⟩
theorem Ext.trans {a b c : AHeap} (h : Ext a b) (k : Ext b c) : Ext a c := ⟨Nat.le_trans h.next k.next, fun i hi => (k.old i (Nat.lt_of_lt_of_le hi h.next)).trans (h.old i hi)⟩
/-- It comes to that, from some fuel on, whatever the memory, of which what was there stays. -/
def OkX (f : Nat) (args : List AV) (v : AV) : Prop := ∃ N, ∀ n, N ≤ n → ∀ h, ∃ h', ev n f args h = .ok v h' ∧ Ext h h'
theorem Ok.x {f : Nat} {args : List AV} {v : AV} : Ok f args v → OkX f args v := fun ⟨N, k⟩ => ⟨N, fun n hn h => ⟨h, k n hn h, Ext.refl h⟩⟩
theorem okx_step {f : Nat} {args : List AV} {v : AV} (fl : Nat → Nat → Bool) (N : Nat) (k : ∀ n, N ≤ n → ∀ h, ∃ s h', (stepI Try.prog H1 fl f (ev n) n args h).Goes s (.ok v h') ∧ Ext h h') : OkX f args v :=
  ⟨N + 1, fun n hn h => by
    obtain ⟨m, rfl⟩ : ∃ m, n = m + 1 := ⟨n - 1, by omega⟩
    obtain ⟨s, h', hs, he⟩ := k m (by omega) h
    exact ⟨h', goes_call fl hs (by simp), he⟩⟩
/-- A store, as an answer. -/
noncomputable def stO (h : AHeap) (n : Nat) (a v : AV) : OR := match storeAV h n a v with
  | some h => .ok .undef h
  | none => .fail
/-- A freezing, as an answer. -/
noncomputable def frO (h : AHeap) (a : AV) : OR := OR.of2 (frzAV h a)
set_option maxRecDepth 100000
set_option maxHeartbeats 0
def z6 : List AV := [i64 0, i64 0, .str [], .nilp, .nilp, .nilp]
theorem maps_nil (cf : CallF) (n : Nat) (h : AHeap) (k tl : AV) : (stepI Try.prog H1 fl0 30 cf n [.nilp, k, tl] h).Goes [] (.ok .nilp h) = (OR.ok .nilp h = OR.ok .nilp h) := by kernel_rfl
theorem maps_1 (cf : CallF) (n : Nat) (h h1 : AHeap) (m : Int) (k tl : AV) : (stepI Try.prog H1 (flL [(3, 4)]) 30 cf n [.imm [i64 1, i64 m, .str [], .nilp, .nilp, .nilp] 0, k, tl] h).Goes [.ok .undef h1] (.ok (.imm [i64 1, i64 m, .str [], .nilp, .nilp, .nilp] 0) h1) = (stO (h.alloc z6) 6 (.ptr h.next 0 0) (.agg [i64 1, i64 m, .str [], .nilp, .nilp, .nilp]) = .ok .undef h1 ∧ OR.ok (.imm [i64 1, i64 m, .str [], .nilp, .nilp, .nilp] 0) h1 = OR.ok (.imm [i64 1, i64 m, .str [], .nilp, .nilp, .nilp] 0) h1) := by kernel_rfl
theorem maps_2_31a (cf : CallF) (n : Nat) (h h1 h2 : AHeap)  (m : Int) (k : AV) (cs x : List AV) : (stepI Try.prog H1 (flL [(3, 4)]) 30 cf n [.imm [i64 2, i64 m, .str [], .nilp, .nilp, .nilp] 0, k, .func 31 cs] h).Goes [.ok .undef h1, .ok (.imm x 0) h2] (.ok (.imm x 0) h2) = (stO (h.alloc z6) 6 (.ptr h.next 0 0) (.agg [i64 2, i64 m, .str [], .nilp, .nilp, .nilp]) = .ok .undef h1 ∧ cf 31 (.imm [i64 2, i64 m, .str [], .nilp, .nilp, .nilp] 0 :: k :: cs) h1 = .ok (.imm x 0) h2 ∧ OR.ok (.imm x 0) h2 = OR.ok (.imm x 0) h2) := by kernel_rfl
theorem maps_2_31b (cf : CallF) (n : Nat) (h h1 h2 : AHeap)  (m : Int) (k : AV) (cs : List AV) : (stepI Try.prog H1 (flL [(3, 4)]) 30 cf n [.imm [i64 2, i64 m, .str [], .nilp, .nilp, .nilp] 0, k, .func 31 cs] h).Goes [.ok .undef h1, .ok .nilp h2] (.ok (.imm [i64 2, i64 m, .str [], .nilp, .nilp, .nilp] 0) h2) = (stO (h.alloc z6) 6 (.ptr h.next 0 0) (.agg [i64 2, i64 m, .str [], .nilp, .nilp, .nilp]) = .ok .undef h1 ∧ cf 31 (.imm [i64 2, i64 m, .str [], .nilp, .nilp, .nilp] 0 :: k :: cs) h1 = .ok .nilp h2 ∧ OR.ok (.imm [i64 2, i64 m, .str [], .nilp, .nilp, .nilp] 0) h2 = OR.ok (.imm [i64 2, i64 m, .str [], .nilp, .nilp, .nilp] 0) h2) := by kernel_rfl
theorem maps_2_37a (cf : CallF) (n : Nat) (h h1 h2 : AHeap)  (m : Int) (k : AV) (cs x : List AV) : (stepI Try.prog H1 (flL [(3, 4)]) 30 cf n [.imm [i64 2, i64 m, .str [], .nilp, .nilp, .nilp] 0, k, .func 37 cs] h).Goes [.ok .undef h1, .ok (.imm x 0) h2] (.ok (.imm x 0) h2) = (stO (h.alloc z6) 6 (.ptr h.next 0 0) (.agg [i64 2, i64 m, .str [], .nilp, .nilp, .nilp]) = .ok .undef h1 ∧ cf 37 (.imm [i64 2, i64 m, .str [], .nilp, .nilp, .nilp] 0 :: k :: cs) h1 = .ok (.imm x 0) h2 ∧ OR.ok (.imm x 0) h2 = OR.ok (.imm x 0) h2) := by kernel_rfl
theorem maps_2_37b (cf : CallF) (n : Nat) (h h1 h2 : AHeap)  (m : Int) (k : AV) (cs : List AV) : (stepI Try.prog H1 (flL [(3, 4)]) 30 cf n [.imm [i64 2, i64 m, .str [], .nilp, .nilp, .nilp] 0, k, .func 37 cs] h).Goes [.ok .undef h1, .ok .nilp h2] (.ok (.imm [i64 2, i64 m, .str [], .nilp, .nilp, .nilp] 0) h2) = (stO (h.alloc z6) 6 (.ptr h.next 0 0) (.agg [i64 2, i64 m, .str [], .nilp, .nilp, .nilp]) = .ok .undef h1 ∧ cf 37 (.imm [i64 2, i64 m, .str [], .nilp, .nilp, .nilp] 0 :: k :: cs) h1 = .ok .nilp h2 ∧ OR.ok (.imm [i64 2, i64 m, .str [], .nilp, .nilp, .nilp] 0) h2 = OR.ok (.imm [i64 2, i64 m, .str [], .nilp, .nilp, .nilp] 0) h2) := by kernel_rfl
theorem maps_2_44a (cf : CallF) (n : Nat) (h h1 h2 : AHeap)  (m : Int) (k : AV) (cs x : List AV) : (stepI Try.prog H1 (flL [(3, 4)]) 30 cf n [.imm [i64 2, i64 m, .str [], .nilp, .nilp, .nilp] 0, k, .func 44 cs] h).Goes [.ok .undef h1, .ok (.imm x 0) h2] (.ok (.imm x 0) h2) = (stO (h.alloc z6) 6 (.ptr h.next 0 0) (.agg [i64 2, i64 m, .str [], .nilp, .nilp, .nilp]) = .ok .undef h1 ∧ cf 44 (.imm [i64 2, i64 m, .str [], .nilp, .nilp, .nilp] 0 :: k :: cs) h1 = .ok (.imm x 0) h2 ∧ OR.ok (.imm x 0) h2 = OR.ok (.imm x 0) h2) := by kernel_rfl
theorem maps_2_44b (cf : CallF) (n : Nat) (h h1 h2 : AHeap)  (m : Int) (k : AV) (cs : List AV) : (stepI Try.prog H1 (flL [(3, 4)]) 30 cf n [.imm [i64 2, i64 m, .str [], .nilp, .nilp, .nilp] 0, k, .func 44 cs] h).Goes [.ok .undef h1, .ok .nilp h2] (.ok (.imm [i64 2, i64 m, .str [], .nilp, .nilp, .nilp] 0) h2) = (stO (h.alloc z6) 6 (.ptr h.next 0 0) (.agg [i64 2, i64 m, .str [], .nilp, .nilp, .nilp]) = .ok .undef h1 ∧ cf 44 (.imm [i64 2, i64 m, .str [], .nilp, .nilp, .nilp] 0 :: k :: cs) h1 = .ok .nilp h2 ∧ OR.ok (.imm [i64 2, i64 m, .str [], .nilp, .nilp, .nilp] 0) h2 = OR.ok (.imm [i64 2, i64 m, .str [], .nilp, .nilp, .nilp] 0) h2) := by kernel_rfl
theorem maps_3_31a (cf : CallF) (n : Nat) (h h1 h2 : AHeap) (s : List Nat) (m : Int) (k : AV) (cs x : List AV) : (stepI Try.prog H1 (flL [(3, 4)]) 30 cf n [.imm [i64 3, i64 m, .str s, .nilp, .nilp, .nilp] 0, k, .func 31 cs] h).Goes [.ok .undef h1, .ok (.imm x 0) h2] (.ok (.imm x 0) h2) = (stO (h.alloc z6) 6 (.ptr h.next 0 0) (.agg [i64 3, i64 m, .str s, .nilp, .nilp, .nilp]) = .ok .undef h1 ∧ cf 31 (.imm [i64 3, i64 m, .str s, .nilp, .nilp, .nilp] 0 :: k :: cs) h1 = .ok (.imm x 0) h2 ∧ OR.ok (.imm x 0) h2 = OR.ok (.imm x 0) h2) := by kernel_rfl
theorem maps_3_31b (cf : CallF) (n : Nat) (h h1 h2 : AHeap) (s : List Nat) (m : Int) (k : AV) (cs : List AV) : (stepI Try.prog H1 (flL [(3, 4)]) 30 cf n [.imm [i64 3, i64 m, .str s, .nilp, .nilp, .nilp] 0, k, .func 31 cs] h).Goes [.ok .undef h1, .ok .nilp h2] (.ok (.imm [i64 3, i64 m, .str s, .nilp, .nilp, .nilp] 0) h2) = (stO (h.alloc z6) 6 (.ptr h.next 0 0) (.agg [i64 3, i64 m, .str s, .nilp, .nilp, .nilp]) = .ok .undef h1 ∧ cf 31 (.imm [i64 3, i64 m, .str s, .nilp, .nilp, .nilp] 0 :: k :: cs) h1 = .ok .nilp h2 ∧ OR.ok (.imm [i64 3, i64 m, .str s, .nilp, .nilp, .nilp] 0) h2 = OR.ok (.imm [i64 3, i64 m, .str s, .nilp, .nilp, .nilp] 0) h2) := by kernel_rfl
theorem maps_3_37a (cf : CallF) (n : Nat) (h h1 h2 : AHeap) (s : List Nat) (m : Int) (k : AV) (cs x : List AV) : (stepI Try.prog H1 (flL [(3, 4)]) 30 cf n [.imm [i64 3, i64 m, .str s, .nilp, .nilp, .nilp] 0, k, .func 37 cs] h).Goes [.ok .undef h1, .ok (.imm x 0) h2] (.ok (.imm x 0) h2) = (stO (h.alloc z6) 6 (.ptr h.next 0 0) (.agg [i64 3, i64 m, .str s, .nilp, .nilp, .nilp]) = .ok .undef h1 ∧ cf 37 (.imm [i64 3, i64 m, .str s, .nilp, .nilp, .nilp] 0 :: k :: cs) h1 = .ok (.imm x 0) h2 ∧ OR.ok (.imm x 0) h2 = OR.ok (.imm x 0) h2) := by kernel_rfl
theorem maps_3_37b (cf : CallF) (n : Nat) (h h1 h2 : AHeap) (s : List Nat) (m : Int) (k : AV) (cs : List AV) : (stepI Try.prog H1 (flL [(3, 4)]) 30 cf n [.imm [i64 3, i64 m, .str s, .nilp, .nilp, .nilp] 0, k, .func 37 cs] h).Goes [.ok .undef h1, .ok .nilp h2] (.ok (.imm [i64 3, i64 m, .str s, .nilp, .nilp, .nilp] 0) h2) = (stO (h.alloc z6) 6 (.ptr h.next 0 0) (.agg [i64 3, i64 m, .str s, .nilp, .nilp, .nilp]) = .ok .undef h1 ∧ cf 37 (.imm [i64 3, i64 m, .str s, .nilp, .nilp, .nilp] 0 :: k :: cs) h1 = .ok .nilp h2 ∧ OR.ok (.imm [i64 3, i64 m, .str s, .nilp, .nilp, .nilp] 0) h2 = OR.ok (.imm [i64 3, i64 m, .str s, .nilp, .nilp, .nilp] 0) h2) := by kernel_rfl
theorem maps_3_44a (cf : CallF) (n : Nat) (h h1 h2 : AHeap) (s : List Nat) (m : Int) (k : AV) (cs x : List AV) : (stepI Try.prog H1 (flL [(3, 4)]) 30 cf n [.imm [i64 3, i64 m, .str s, .nilp, .nilp, .nilp] 0, k, .func 44 cs] h).Goes [.ok .undef h1, .ok (.imm x 0) h2] (.ok (.imm x 0) h2) = (stO (h.alloc z6) 6 (.ptr h.next 0 0) (.agg [i64 3, i64 m, .str s, .nilp, .nilp, .nilp]) = .ok .undef h1 ∧ cf 44 (.imm [i64 3, i64 m, .str s, .nilp, .nilp, .nilp] 0 :: k :: cs) h1 = .ok (.imm x 0) h2 ∧ OR.ok (.imm x 0) h2 = OR.ok (.imm x 0) h2) := by kernel_rfl
theorem maps_3_44b (cf : CallF) (n : Nat) (h h1 h2 : AHeap) (s : List Nat) (m : Int) (k : AV) (cs : List AV) : (stepI Try.prog H1 (flL [(3, 4)]) 30 cf n [.imm [i64 3, i64 m, .str s, .nilp, .nilp, .nilp] 0, k, .func 44 cs] h).Goes [.ok .undef h1, .ok .nilp h2] (.ok (.imm [i64 3, i64 m, .str s, .nilp, .nilp, .nilp] 0) h2) = (stO (h.alloc z6) 6 (.ptr h.next 0 0) (.agg [i64 3, i64 m, .str s, .nilp, .nilp, .nilp]) = .ok .undef h1 ∧ cf 44 (.imm [i64 3, i64 m, .str s, .nilp, .nilp, .nilp] 0 :: k :: cs) h1 = .ok .nilp h2 ∧ OR.ok (.imm [i64 3, i64 m, .str s, .nilp, .nilp, .nilp] 0) h2 = OR.ok (.imm [i64 3, i64 m, .str s, .nilp, .nilp, .nilp] 0) h2) := by kernel_rfl
theorem maps_4 (cf : CallF) (n : Nat) (h h1 h2 h3 h4 h5 h6 : AHeap) (a b : AV) (k : Int) (tl : AV) (x y o : List AV) : (stepI Try.prog H1 (flL [(3, 4), (18, 15), (18, 17), (20, 0)]) 30 cf n [.imm (c3 4 a b .nilp) 0, i64 k, tl] h).Goes [.ok .undef h1, .ok (.imm x 0) h2, .ok (.imm y 0) h3, .ok .undef h4, .ok .undef h5, .ok (.imm o 0) h6] (.ok (.imm o 0) h6) = (stO (h.alloc z6) 6 (.ptr h.next 0 0) (.agg (c3 4 a b .nilp)) = .ok .undef h1 ∧ cf 30 [a, i64 k, tl] h1 = .ok (.imm x 0) h2 ∧ cf 30 [b, i64 (wrapK .i64 (k + 1)), tl] h2 = .ok (.imm y 0) h3 ∧ stO h3 1 (.ptr h.next 3 0) (.imm x 0) = .ok .undef h4 ∧ stO h4 1 (.ptr h.next 4 0) (.imm y 0) = .ok .undef h5 ∧ frO h5 (.ptr h.next 0 0) = .ok (.imm o 0) h6 ∧ OR.ok (.imm o 0) h6 = OR.ok (.imm o 0) h6) := by kernel_rfl
theorem maps_5 (cf : CallF) (n : Nat) (h h1 h2 h3 h4 h5 h6 : AHeap) (a b : AV) (k : Int) (tl : AV) (x y o : List AV) : (stepI Try.prog H1 (flL [(3, 4), (18, 15), (18, 17), (20, 0)]) 30 cf n [.imm (c3 5 a b .nilp) 0, i64 k, tl] h).Goes [.ok .undef h1, .ok (.imm x 0) h2, .ok (.imm y 0) h3, .ok .undef h4, .ok .undef h5, .ok (.imm o 0) h6] (.ok (.imm o 0) h6) = (stO (h.alloc z6) 6 (.ptr h.next 0 0) (.agg (c3 5 a b .nilp)) = .ok .undef h1 ∧ cf 30 [a, i64 k, tl] h1 = .ok (.imm x 0) h2 ∧ cf 30 [b, i64 (wrapK .i64 (k + 1)), tl] h2 = .ok (.imm y 0) h3 ∧ stO h3 1 (.ptr h.next 3 0) (.imm x 0) = .ok .undef h4 ∧ stO h4 1 (.ptr h.next 4 0) (.imm y 0) = .ok .undef h5 ∧ frO h5 (.ptr h.next 0 0) = .ok (.imm o 0) h6 ∧ OR.ok (.imm o 0) h6 = OR.ok (.imm o 0) h6) := by kernel_rfl
theorem maps_6 (cf : CallF) (n : Nat) (h h1 h2 h3 h4 h5 h6 : AHeap) (a b : AV) (k : Int) (tl : AV) (x y o : List AV) : (stepI Try.prog H1 (flL [(3, 4), (18, 15), (18, 17), (20, 0)]) 30 cf n [.imm (c3 6 a b .nilp) 0, i64 k, tl] h).Goes [.ok .undef h1, .ok (.imm x 0) h2, .ok (.imm y 0) h3, .ok .undef h4, .ok .undef h5, .ok (.imm o 0) h6] (.ok (.imm o 0) h6) = (stO (h.alloc z6) 6 (.ptr h.next 0 0) (.agg (c3 6 a b .nilp)) = .ok .undef h1 ∧ cf 30 [a, i64 k, tl] h1 = .ok (.imm x 0) h2 ∧ cf 30 [b, i64 k, tl] h2 = .ok (.imm y 0) h3 ∧ stO h3 1 (.ptr h.next 3 0) (.imm x 0) = .ok .undef h4 ∧ stO h4 1 (.ptr h.next 4 0) (.imm y 0) = .ok .undef h5 ∧ frO h5 (.ptr h.next 0 0) = .ok (.imm o 0) h6 ∧ OR.ok (.imm o 0) h6 = OR.ok (.imm o 0) h6) := by kernel_rfl
theorem maps_7 (cf : CallF) (n : Nat) (h h1 h2 h3 h4 h5 h6 h7 h8 : AHeap) (a b c : AV) (k : Int) (tl : AV) (x y z o : List AV) : (stepI Try.prog H1 (flL [(3, 4), (19, 23), (19, 25), (19, 27), (20, 0)]) 30 cf n [.imm (c3 7 a b c) 0, i64 k, tl] h).Goes [.ok .undef h1, .ok (.imm x 0) h2, .ok (.imm y 0) h3, .ok (.imm z 0) h4, .ok .undef h5, .ok .undef h6, .ok .undef h7, .ok (.imm o 0) h8] (.ok (.imm o 0) h8) = (stO (h.alloc z6) 6 (.ptr h.next 0 0) (.agg (c3 7 a b c)) = .ok .undef h1 ∧ cf 30 [a, i64 k, tl] h1 = .ok (.imm x 0) h2 ∧ cf 30 [b, i64 k, tl] h2 = .ok (.imm y 0) h3 ∧ cf 30 [c, i64 (wrapK .i64 (k + 1)), tl] h3 = .ok (.imm z 0) h4 ∧ stO h4 1 (.ptr h.next 3 0) (.imm x 0) = .ok .undef h5 ∧ stO h5 1 (.ptr h.next 4 0) (.imm y 0) = .ok .undef h6 ∧ stO h6 1 (.ptr h.next 5 0) (.imm z 0) = .ok .undef h7 ∧ frO h7 (.ptr h.next 0 0) = .ok (.imm o 0) h8 ∧ OR.ok (.imm o 0) h8 = OR.ok (.imm o 0) h8) := by kernel_rfl
end Go.Vd

namespace Go.Vd
open Go Go.RowKit Go.Proofs
theorem ptPart_of_get {t : PT AV} : ∀ (r : List AV) (o : Nat), (∀ i, i < r.length → t.get (o + i) = r[i]?) → ptPart t o r.length = some r
  | [], o, _ => rfl
  | v :: r, o, h => by
    rw [List.length_cons, ptPart_succ, show t.get o = some v by simpa using h 0 (by simp)]
    simp only
    rw [ptPart_of_get r (o + 1) fun i hi => by have := h (i + 1) (by simpa using hi); rw [show o + 1 + i = o + (i + 1) by omega]; simpa using this]
/-- A block of one's own, and what its cells hold. -/
def Own (h : AHeap) (b : Nat) (cs : List AV) : Prop := ∃ C : PT AV, h.m.get b = some (.blk { n := cs.length, cells := C, gen := 0, lw := 0, lens := [] }) ∧ ∀ i, i < cs.length → C.get i = cs[i]?
theorem own_alloc (h : AHeap) (cs : List AV) : Own (h.alloc cs) h.next cs := by
  refine ⟨ptFill cs .nil 0, ?_, fun i hi => ?_⟩
  · show (h.m.put h.next _).get h.next = _
    rw [PT.get_put, if_pos rfl, llen_eq]
  · rw [get_ptFill, if_pos ⟨Nat.zero_le _, by omega⟩]; rfl
theorem ext_alloc (h : AHeap) (cs : List AV) : Ext h (h.alloc cs) := ⟨Nat.le_succ _, fun b hb => by
  show (h.m.put h.next _).get b = _
  rw [PT.get_put, if_neg (by omega)]⟩
theorem alloc_next (h : AHeap) (cs : List AV) : (h.alloc cs).next = h.next + 1 := rfl
theorem Own.ext {h h' : AHeap} {b : Nat} {cs : List AV} (o : Own h b cs) (e : Ext h h') (hb : b < h.next) : Own h' b cs := let ⟨C, h1, h2⟩ := o; ⟨C, (e.old b hb).trans h1, h2⟩
/-- Only one block is another one. -/
structure But (b : Nat) (h h' : AHeap) : Prop where
  next : h'.next = h.next
  old : ∀ i, i ≠ b → h'.m.get i = h.m.get i
theorem allCells_iff {l : List AV} : allCells l = true ↔ l.all isCell = true := by rw [← allCells_eq]
theorem Own.store {h : AHeap} {b : Nat} {cs : List AV} (O : Own h b cs) (o : Nat) (v : AV) (ho : o + v.cells.length ≤ cs.length) (hv : v.cells.all isCell = true) :
    ∃ h', stO h v.cells.length (.ptr b o 0) v = .ok .undef h' ∧ Own h' b (cs.take o ++ v.cells ++ cs.drop (o + v.cells.length)) ∧ But b h h' := by
  obtain ⟨C, h1, h2⟩ := O
  have hb : h.blk? b = some { n := cs.length, cells := C, gen := 0, lw := 0, lens := [] } := by unfold AHeap.blk?; rw [h1]
  have hlen : (cs.take o ++ v.cells ++ cs.drop (o + v.cells.length)).length = cs.length := by simp; omega
  refine ⟨{ h with m := h.m.put b (some (.blk { n := cs.length, cells := ptFill v.cells C o, gen := 0, lw := 0, lens := [] })) }, ?_, ⟨ptFill v.cells C o, ?_, fun i hi => ?_⟩, ⟨rfl, fun i hi => ?_⟩⟩
  · unfold stO storeAV
    simp only
    rw [llen_eq, beq_iff.2 rfl]
    simp only
    unfold AHeap.wrn
    rw [hb]
    simp only
    rw [beq_iff.2 rfl, llen_eq, allCells_iff.2 hv]
    rw [show Nat.ble (Nat.add o v.cells.length) cs.length = true from ble_iff.2 ho]
  · show (h.m.put b _).get b = _
    rw [PT.get_put, if_pos rfl, hlen]
  · rw [hlen] at hi
    rw [get_ptFill]
    split
    · rename_i q
      rw [List.append_assoc, List.getElem?_append_right (by simp; omega), List.getElem?_append_left (by simp; omega)]
      congr 1; simp; omega
    · rename_i q
      rw [h2 i hi]
      by_cases q2 : i < o
      · rw [List.append_assoc, List.getElem?_append_left (by simp; omega), List.getElem?_take, if_pos q2]
      · rw [List.getElem?_append_right (by simp; omega), List.getElem?_drop]
        congr 1; simp; omega
  · show (h.m.put b _).get i = _
    rw [PT.get_put, if_neg hi]
theorem Own.freeze {h : AHeap} {b : Nat} {cs : List AV} (O : Own h b cs) : ∃ h', frO h (.ptr b 0 0) = .ok (.imm cs 0) h' ∧ But b h h' := by
  obtain ⟨C, h1, h2⟩ := O
  have hb : h.blk? b = some { n := cs.length, cells := C, gen := 0, lw := 0, lens := [] } := by unfold AHeap.blk?; rw [h1]
  refine ⟨{ h with m := h.m.put b none }, ?_, ⟨rfl, fun i hi => by show (h.m.put b _).get i = _; rw [PT.get_put, if_neg hi]⟩⟩
  unfold frO frzAV
  simp only
  rw [hb]
  simp only
  rw [beq_iff.2 rfl, ptPart_of_get cs 0 (fun i hi => by rw [Nat.zero_add]; exact h2 i hi)]
  rfl
theorem But.ext {b : Nat} {h0 h h' : AHeap} (B : But b h h') (hb : h0.next ≤ b) (e : Ext h0 h) : Ext h0 h' := ⟨by rw [B.next]; exact e.next, fun i hi => (B.old i (by omega)).trans (e.old i hi)⟩
def mapT (φ : Tm → Int → Option Tm) : Tm → Int → Tm
  | .sort n, _ => .sort n
  | .var n, k => (φ (.var n) k).getD (.var n)
  | .con s n, k => (φ (.con s n) k).getD (.con s n)
  | .pi a b, k => .pi (mapT φ a k) (mapT φ b (k + 1))
  | .lam a b, k => .lam (mapT φ a k) (mapT φ b (k + 1))
  | .app a b, k => .app (mapT φ a k) (mapT φ b k)
  | .lett a b c, k => .lett (mapT φ a k) (mapT φ b k) (mapT φ c (k + 1))
def optT : Option Tm → AV
  | some t => tw t
  | none => .nilp
end Go.Vd

namespace Go.Vd
open Go Go.RowKit Go.Proofs
theorem start6 (h : AHeap) (c : List AV) (hl : c.length = 6) (hc : c.all isCell = true) : ∃ h1, stO (h.alloc z6) 6 (.ptr h.next 0 0) (.agg c) = .ok .undef h1 ∧ Own h1 h.next c ∧ Ext h h1 ∧ h.next < h1.next := by
  obtain ⟨h1, e, O, B⟩ := (own_alloc h z6).store 0 (.agg c) (by show 0 + c.length ≤ 6; omega) hc
  have hcl : (AV.agg c).cells.length = 6 := hl
  rw [hcl] at e O
  refine ⟨h1, e, ?_, B.ext (Nat.le_refl _) (ext_alloc h z6), by rw [B.next, alloc_next]; omega⟩
  have : z6.take 0 ++ (AV.agg c).cells ++ z6.drop (0 + 6) = c := by show [] ++ c ++ [] = c; simp
  rw [this] at O
  exact O
theorem set1 {h : AHeap} {b : Nat} {c : List AV} (O : Own h b c) (o : Nat) (ho : o < c.length) (x : List AV) : ∃ h', stO h 1 (.ptr b o 0) (.imm x 0) = .ok .undef h' ∧ Own h' b (c.set o (.imm x 0)) ∧ But b h h' := by
  obtain ⟨h', e, O', B⟩ := O.store o (.imm x 0) (by show o + 1 ≤ _; omega) rfl
  refine ⟨h', e, ?_, B⟩
  have : c.take o ++ (AV.imm x 0).cells ++ c.drop (o + (AV.imm x 0).cells.length) = c.set o (.imm x 0) := by
    rw [List.set_eq_take_append_cons_drop, if_pos ho]
    show c.take o ++ [.imm x 0] ++ c.drop (o + 1) = _
    simp
  rwa [this] at O'
theorem build2 {h0 h3 : AHeap} {b : Nat} {p q r s t u : AV} (O : Own h3 b [p, q, r, s, t, u]) (hb : h0.next ≤ b) (E : Ext h0 h3) (x y : List AV) :
    ∃ h4 h5 h6, stO h3 1 (.ptr b 3 0) (.imm x 0) = .ok .undef h4 ∧ stO h4 1 (.ptr b 4 0) (.imm y 0) = .ok .undef h5 ∧ frO h5 (.ptr b 0 0) = .ok (.imm [p, q, r, .imm x 0, .imm y 0, u] 0) h6 ∧ Ext h0 h6 := by
  obtain ⟨h4, e4, O4, B4⟩ := set1 O 3 (by simp) x
  obtain ⟨h5, e5, O5, B5⟩ := set1 O4 4 (by simp) y
  obtain ⟨h6, e6, B6⟩ := O5.freeze
  exact ⟨h4, h5, h6, e4, e5, e6, B6.ext hb (B5.ext hb (B4.ext hb E))⟩
theorem build3 {h0 h3 : AHeap} {b : Nat} {p q r s t u : AV} (O : Own h3 b [p, q, r, s, t, u]) (hb : h0.next ≤ b) (E : Ext h0 h3) (x y z : List AV) :
    ∃ h4 h5 h6 h7, stO h3 1 (.ptr b 3 0) (.imm x 0) = .ok .undef h4 ∧ stO h4 1 (.ptr b 4 0) (.imm y 0) = .ok .undef h5 ∧ stO h5 1 (.ptr b 5 0) (.imm z 0) = .ok .undef h6 ∧ frO h6 (.ptr b 0 0) = .ok (.imm [p, q, r, .imm x 0, .imm y 0, .imm z 0] 0) h7 ∧ Ext h0 h7 := by
  obtain ⟨h4, e4, O4, B4⟩ := set1 O 3 (by simp) x
  obtain ⟨h5, e5, O5, B5⟩ := set1 O4 4 (by simp) y
  obtain ⟨h6, e6, O6, B6⟩ := set1 O5 5 (by simp) z
  obtain ⟨h7, e7, B7⟩ := O6.freeze
  exact ⟨h4, h5, h6, h7, e4, e5, e6, e7, B7.ext hb (B6.ext hb (B5.ext hb (B4.ext hb E)))⟩
/-- The function that tells of variables and constants. -/
def Tells (M : Int) (fc : Nat) (cs : List AV) (φ : Tm → Int → Option Tm) : Prop :=
  (∀ m k, 0 ≤ m → m ≤ M → 0 ≤ k → k ≤ 2 ^ 41 → OkX fc (tw (.var m) :: i64 k :: cs) (optT (φ (.var m) k))) ∧
  (∀ s m k, 0 ≤ m → m ≤ M → 0 ≤ k → k ≤ 2 ^ 41 → OkX fc (tw (.con s m) :: i64 k :: cs) (optT (φ (.con s m) k)))
section
variable {M : Int} {cs : List AV} {φ : Tm → Int → Option Tm}
theorem okx_leaf2 {fc : Nat} (hfc : fc = 31 ∨ fc = 37 ∨ fc = 44) {m k : Int} (h : OkX fc (tw (.var m) :: i64 k :: cs) (optT (φ (.var m) k))) : OkX 30 [tw (.var m), i64 k, .func fc cs] (tw (mapT φ (.var m) k)) := by
  obtain ⟨N, kk⟩ := h
  refine okx_step (flL [(3, 4)]) N fun n hn h => ?_
  obtain ⟨h1, e1, O1, E1, _⟩ := start6 h (cellsT (.var m)) rfl rfl
  obtain ⟨h2, e2, E2⟩ := kk n hn h1
  cases hφ : φ (.var m) k with
  | some x =>
    rw [hφ] at e2
    rcases hfc with rfl | rfl | rfl
    · exact ⟨_, h2, by simp only [mapT, hφ]; exact (maps_2_31a (ev n) n h h1 h2 m (i64 k) cs _).mpr ⟨e1, e2, rfl⟩, E1.trans E2⟩
    · exact ⟨_, h2, by simp only [mapT, hφ]; exact (maps_2_37a (ev n) n h h1 h2 m (i64 k) cs _).mpr ⟨e1, e2, rfl⟩, E1.trans E2⟩
    · exact ⟨_, h2, by simp only [mapT, hφ]; exact (maps_2_44a (ev n) n h h1 h2 m (i64 k) cs _).mpr ⟨e1, e2, rfl⟩, E1.trans E2⟩
  | none =>
    rw [hφ] at e2
    rcases hfc with rfl | rfl | rfl
    · exact ⟨_, h2, by simp only [mapT, hφ]; exact (maps_2_31b (ev n) n h h1 h2 m (i64 k) cs).mpr ⟨e1, e2, rfl⟩, E1.trans E2⟩
    · exact ⟨_, h2, by simp only [mapT, hφ]; exact (maps_2_37b (ev n) n h h1 h2 m (i64 k) cs).mpr ⟨e1, e2, rfl⟩, E1.trans E2⟩
    · exact ⟨_, h2, by simp only [mapT, hφ]; exact (maps_2_44b (ev n) n h h1 h2 m (i64 k) cs).mpr ⟨e1, e2, rfl⟩, E1.trans E2⟩
theorem okx_leaf3 {fc : Nat} (hfc : fc = 31 ∨ fc = 37 ∨ fc = 44) {s : List Nat} {m k : Int} (h : OkX fc (tw (.con s m) :: i64 k :: cs) (optT (φ (.con s m) k))) : OkX 30 [tw (.con s m), i64 k, .func fc cs] (tw (mapT φ (.con s m) k)) := by
  obtain ⟨N, kk⟩ := h
  refine okx_step (flL [(3, 4)]) N fun n hn h => ?_
  obtain ⟨h1, e1, O1, E1, _⟩ := start6 h (cellsT (.con s m)) rfl rfl
  obtain ⟨h2, e2, E2⟩ := kk n hn h1
  cases hφ : φ (.con s m) k with
  | some x =>
    rw [hφ] at e2
    rcases hfc with rfl | rfl | rfl
    · exact ⟨_, h2, by simp only [mapT, hφ]; exact (maps_3_31a (ev n) n h h1 h2 s m (i64 k) cs _).mpr ⟨e1, e2, rfl⟩, E1.trans E2⟩
    · exact ⟨_, h2, by simp only [mapT, hφ]; exact (maps_3_37a (ev n) n h h1 h2 s m (i64 k) cs _).mpr ⟨e1, e2, rfl⟩, E1.trans E2⟩
    · exact ⟨_, h2, by simp only [mapT, hφ]; exact (maps_3_44a (ev n) n h h1 h2 s m (i64 k) cs _).mpr ⟨e1, e2, rfl⟩, E1.trans E2⟩
  | none =>
    rw [hφ] at e2
    rcases hfc with rfl | rfl | rfl
    · exact ⟨_, h2, by simp only [mapT, hφ]; exact (maps_3_31b (ev n) n h h1 h2 s m (i64 k) cs).mpr ⟨e1, e2, rfl⟩, E1.trans E2⟩
    · exact ⟨_, h2, by simp only [mapT, hφ]; exact (maps_3_37b (ev n) n h h1 h2 s m (i64 k) cs).mpr ⟨e1, e2, rfl⟩, E1.trans E2⟩
    · exact ⟨_, h2, by simp only [mapT, hφ]; exact (maps_3_44b (ev n) n h h1 h2 s m (i64 k) cs).mpr ⟨e1, e2, rfl⟩, E1.trans E2⟩
theorem okx_maps {fc : Nat} (hfc : fc = 31 ∨ fc = 37 ∨ fc = 44) (hT : Tells M fc cs φ) : ∀ (t : Tm) (k : Int), Bd M t → 0 ≤ k → k + ht t ≤ 2 ^ 41 → OkX 30 [tw t, i64 k, .func fc cs] (tw (mapT φ t k))
  | .sort m, k, hb, hk, hh => by
    refine okx_step (flL [(3, 4)]) 0 fun n hn h => ?_
    obtain ⟨h1, e1, O1, E1, _⟩ := start6 h (cellsT (.sort m)) rfl rfl
    exact ⟨_, h1, (maps_1 (ev n) n h h1 m (i64 k) (.func fc cs)).mpr ⟨e1, rfl⟩, E1⟩
  | .var m, k, hb, hk, hh => okx_leaf2 hfc (hT.1 m k hb.1 hb.2 hk (by simp only [ht] at hh; omega))
  | .con s m, k, hb, hk, hh => okx_leaf3 hfc (hT.2 s m k hb.1 hb.2 hk (by simp only [ht] at hh; omega))
  | .pi a b, k, hb, hk, hh => by
    simp only [ht] at hh
    have := ht_nonneg a
    have := ht_nonneg b
    obtain ⟨N2, k2⟩ := okx_maps hfc hT a k hb.1 hk (by omega)
    obtain ⟨N4, k4⟩ := okx_maps hfc hT b (k + 1) hb.2 (by omega) (by omega)
    refine okx_step (flL [(3, 4), (18, 15), (18, 17), (20, 0)]) (N2 + N4) fun n hn h => ?_
    obtain ⟨h1, e1, O1, E1, l1⟩ := start6 h (cellsT (.pi a b)) rfl rfl
    obtain ⟨h2, e2, E2⟩ := k2 n (by omega) h1
    obtain ⟨h3, e3, E3⟩ := k4 n (by omega) h2
    obtain ⟨h4, h5, h6, e4, e5, e6, E6⟩ := build2 (O1.ext (E2.trans E3) l1) (Nat.le_refl _) (E1.trans (E2.trans E3)) (cellsT (mapT φ a k)) (cellsT (mapT φ b (k + 1)))
    exact ⟨_, h6, (maps_4 (ev n) n h h1 h2 h3 h4 h5 h6 (tw a) (tw b) k (.func fc cs) _ _ _).mpr ⟨e1, e2, by rw [wrap_id (by omega) (by omega)]; exact e3, e4, e5, e6, rfl⟩, E6⟩
  | .lam a b, k, hb, hk, hh => by
    simp only [ht] at hh
    have := ht_nonneg a
    have := ht_nonneg b
    obtain ⟨N2, k2⟩ := okx_maps hfc hT a k hb.1 hk (by omega)
    obtain ⟨N4, k4⟩ := okx_maps hfc hT b (k + 1) hb.2 (by omega) (by omega)
    refine okx_step (flL [(3, 4), (18, 15), (18, 17), (20, 0)]) (N2 + N4) fun n hn h => ?_
    obtain ⟨h1, e1, O1, E1, l1⟩ := start6 h (cellsT (.lam a b)) rfl rfl
    obtain ⟨h2, e2, E2⟩ := k2 n (by omega) h1
    obtain ⟨h3, e3, E3⟩ := k4 n (by omega) h2
    obtain ⟨h4, h5, h6, e4, e5, e6, E6⟩ := build2 (O1.ext (E2.trans E3) l1) (Nat.le_refl _) (E1.trans (E2.trans E3)) (cellsT (mapT φ a k)) (cellsT (mapT φ b (k + 1)))
    exact ⟨_, h6, (maps_5 (ev n) n h h1 h2 h3 h4 h5 h6 (tw a) (tw b) k (.func fc cs) _ _ _).mpr ⟨e1, e2, by rw [wrap_id (by omega) (by omega)]; exact e3, e4, e5, e6, rfl⟩, E6⟩
  | .app a b, k, hb, hk, hh => by
    simp only [ht] at hh
    have := ht_nonneg a
    have := ht_nonneg b
    obtain ⟨N2, k2⟩ := okx_maps hfc hT a k hb.1 hk (by omega)
    obtain ⟨N4, k4⟩ := okx_maps hfc hT b k hb.2 (by omega) (by omega)
    refine okx_step (flL [(3, 4), (18, 15), (18, 17), (20, 0)]) (N2 + N4) fun n hn h => ?_
    obtain ⟨h1, e1, O1, E1, l1⟩ := start6 h (cellsT (.app a b)) rfl rfl
    obtain ⟨h2, e2, E2⟩ := k2 n (by omega) h1
    obtain ⟨h3, e3, E3⟩ := k4 n (by omega) h2
    obtain ⟨h4, h5, h6, e4, e5, e6, E6⟩ := build2 (O1.ext (E2.trans E3) l1) (Nat.le_refl _) (E1.trans (E2.trans E3)) (cellsT (mapT φ a k)) (cellsT (mapT φ b k))
    exact ⟨_, h6, (maps_6 (ev n) n h h1 h2 h3 h4 h5 h6 (tw a) (tw b) k (.func fc cs) _ _ _).mpr ⟨e1, e2, e3, e4, e5, e6, rfl⟩, E6⟩
  | .lett a b c, k, hb, hk, hh => by
    simp only [ht] at hh
    have := ht_nonneg a
    have := ht_nonneg b
    have := ht_nonneg c
    obtain ⟨N2, k2⟩ := okx_maps hfc hT a k hb.1 hk (by omega)
    obtain ⟨N4, k4⟩ := okx_maps hfc hT b k hb.2.1 (by omega) (by omega)
    obtain ⟨N6, k6⟩ := okx_maps hfc hT c (k + 1) hb.2.2 (by omega) (by omega)
    refine okx_step (flL [(3, 4), (19, 23), (19, 25), (19, 27), (20, 0)]) (N2 + N4 + N6) fun n hn h => ?_
    obtain ⟨h1, e1, O1, E1, l1⟩ := start6 h (cellsT (.lett a b c)) rfl rfl
    obtain ⟨h2, e2, E2⟩ := k2 n (by omega) h1
    obtain ⟨h3, e3, E3⟩ := k4 n (by omega) h2
    obtain ⟨h4, e4, E4⟩ := k6 n (by omega) h3
    obtain ⟨h5, h6, h7, h8, e5, e6, e7, e8, E8⟩ := build3 (O1.ext (E2.trans (E3.trans E4)) l1) (Nat.le_refl _) (E1.trans (E2.trans (E3.trans E4))) (cellsT (mapT φ a k)) (cellsT (mapT φ b k)) (cellsT (mapT φ c (k + 1)))
    exact ⟨_, h8, (maps_7 (ev n) n h h1 h2 h3 h4 h5 h6 h7 h8 (tw a) (tw b) (tw c) k (.func fc cs) _ _ _ _).mpr ⟨e1, e2, e3, by rw [wrap_id (by omega) (by omega)]; exact e4, e5, e6, e7, e8, rfl⟩, E8⟩
end
end Go.Vd

namespace Go.Vd
open Go Go.RowKit Go.Proofs
set_option maxRecDepth 100000
set_option maxHeartbeats 0
theorem ev_var32 (n : Nat) (h : AHeap) (k : Int) : ev (n + 1) 32 [i64 k] h = .ok (tw (.var k)) h := by kernel_rfl
theorem ok_var32 (k : Int) : Ok 32 [i64 k] (tw (.var k)) := ok_leaf fun n h => ev_var32 n h k
abbrev vc (m : Int) : List AV := [i64 2, i64 m, .str [], .nilp, .nilp, .nilp]
abbrev kc (s : List Nat) (m : Int) : List AV := [i64 3, i64 m, .str s, .nilp, .nilp, .nilp]
-- Lift's
theorem cl31_a (cf : CallF) (n : Nat) (h : AHeap) (m k d : Int) : (stepI Try.prog H1 (flL [(1, 11)]) 31 cf n [.imm (vc m) 0, i64 k, .imm [i64 d] 0] h).Goes [.ok (.bool true) h] (.ok .nilp h) = (OR.ok (.bool (ilt m k)) h = .ok (.bool true) h ∧ OR.ok .nilp h = OR.ok .nilp h) := by kernel_rfl
theorem cl31_b (cf : CallF) (n : Nat) (h : AHeap) (m k d : Int) (x : AV) : (stepI Try.prog H1 (flL [(1, 11)]) 31 cf n [.imm (vc m) 0, i64 k, .imm [i64 d] 0] h).Goes [.ok (.bool false) h, .ok x h] (.ok x h) = (OR.ok (.bool (ilt m k)) h = .ok (.bool false) h ∧ cf 32 [i64 (wrapK .i64 (m + d))] h = .ok x h ∧ OR.ok x h = OR.ok x h) := by kernel_rfl
theorem cl31_c (n : Nat) (h : AHeap) (s : List Nat) (m k d : Int) : ev (n + 1) 31 [.imm (kc s m) 0, i64 k, .imm [i64 d] 0] h = .ok .nilp h := by kernel_rfl
theorem lift13_a (cf : CallF) (n : Nat) (h : AHeap) (t k : AV) (d : Int) : (stepI Try.prog H1 (flL [(1, 1)]) 13 cf n [t, i64 d, k] h).Goes [.ok (.bool true) h] (.ok t h) = (OR.ok (.bool (ieq d 0)) h = .ok (.bool true) h ∧ OR.ok t h = OR.ok t h) := by kernel_rfl
theorem lift13_b (cf : CallF) (n : Nat) (h h2 : AHeap) (t k x : AV) (d : Int) : (stepI Try.prog H1 (flL [(1, 1)]) 13 cf n [t, i64 d, k] h).Goes [.ok (.bool false) h, .ok x h2] (.ok x h2) = (OR.ok (.bool (ieq d 0)) h = .ok (.bool false) h ∧ cf 30 [t, k, .func 31 [.imm [i64 d] 0]] h = .ok x h2 ∧ OR.ok x h2 = OR.ok x h2) := by kernel_rfl
-- Bind's
theorem cl37_a (cf : CallF) (n : Nat) (h : AHeap) (m k : Int) (nm : List Nat) (x : AV) : (stepI Try.prog H1 (flL [(1, 11), (3, 11), (3, 18)]) 37 cf n [.imm (vc m) 0, i64 k, .imm [.str nm] 0] h).Goes [.ok (.bool true) h, .ok x h] (.ok x h) = (OR.ok (.bool (!(ilt m k))) h = .ok (.bool true) h ∧ cf 32 [i64 (wrapK .i64 (m + 1))] h = .ok x h ∧ OR.ok x h = OR.ok x h) := by kernel_rfl
theorem cl37_b (cf : CallF) (n : Nat) (h : AHeap) (m k : Int) (nm : List Nat) : (stepI Try.prog H1 (flL [(1, 11), (3, 11), (3, 18)]) 37 cf n [.imm (vc m) 0, i64 k, .imm [.str nm] 0] h).Goes [.ok (.bool false) h] (.ok .nilp h) = (OR.ok (.bool (!(ilt m k))) h = .ok (.bool false) h ∧ OR.ok .nilp h = OR.ok .nilp h) := by kernel_rfl
theorem cl37_c (cf : CallF) (n : Nat) (h : AHeap) (m k : Int) (s nm : List Nat) : (stepI Try.prog H1 (flL [(1, 11), (3, 11), (3, 18)]) 37 cf n [.imm (kc s m) 0, i64 k, .imm [.str nm] 0] h).Goes [.ok (.bool false) h] (.ok .nilp h) = (OR.ok (.bool (seq s nm)) h = .ok (.bool false) h ∧ OR.ok .nilp h = OR.ok .nilp h) := by kernel_rfl
theorem cl37_d (cf : CallF) (n : Nat) (h : AHeap) (m k : Int) (s nm : List Nat) : (stepI Try.prog H1 (flL [(1, 11), (3, 11), (3, 18)]) 37 cf n [.imm (kc s m) 0, i64 k, .imm [.str nm] 0] h).Goes [.ok (.bool true) h, .ok (.bool false) h] (.ok .nilp h) = (OR.ok (.bool (seq s nm)) h = .ok (.bool true) h ∧ OR.ok (.bool (ieq m 0)) h = .ok (.bool false) h ∧ OR.ok .nilp h = OR.ok .nilp h) := by kernel_rfl
theorem cl37_e (cf : CallF) (n : Nat) (h : AHeap) (m k : Int) (s nm : List Nat) (x : AV) : (stepI Try.prog H1 (flL [(1, 11), (3, 11), (3, 18)]) 37 cf n [.imm (kc s m) 0, i64 k, .imm [.str nm] 0] h).Goes [.ok (.bool true) h, .ok (.bool true) h, .ok x h] (.ok x h) = (OR.ok (.bool (seq s nm)) h = .ok (.bool true) h ∧ OR.ok (.bool (ieq m 0)) h = .ok (.bool true) h ∧ cf 32 [i64 k] h = .ok x h ∧ OR.ok x h = OR.ok x h) := by kernel_rfl
theorem bind17 (cf : CallF) (n : Nat) (h h2 : AHeap) (t x : AV) (nm : List Nat) : (stepI Try.prog H1 fl0 17 cf n [t, .str nm] h).Goes [.ok x h2] (.ok x h2) = (cf 30 [t, i64 0, .func 37 [.imm [.str nm] 0]] h = .ok x h2 ∧ OR.ok x h2 = OR.ok x h2) := by kernel_rfl
def φL (d : Int) : Tm → Int → Option Tm
  | .var m, k => if m < k then none else some (.var (m + d))
  | _, _ => none
def φB (nm : List Nat) : Tm → Int → Option Tm
  | .var m, k => if m < k then none else some (.var (m + 1))
  | .con s m, k => if s = nm ∧ m = 0 then some (.var k) else none
  | _, _ => none
theorem tells_lift {d : Int} (hd : 0 ≤ d) (hd2 : d ≤ 2 ^ 41) : Tells (2 ^ 61) 31 [.imm [i64 d] 0] (φL d) := by
  refine ⟨fun m k h1 h2 h3 h4 => ?_, fun s m k h1 h2 h3 h4 => (ok_leaf fun n h => cl31_c n h s m k d).x⟩
  simp only [φL]
  by_cases q : m < k
  · rw [if_pos q]
    exact (ok_step (flL [(1, 11)]) 0 fun n hn h => ⟨_, (cl31_a (ev n) n h m k d).mpr ⟨by rw [ilt_eq]; simp [q], rfl⟩⟩).x
  · rw [if_neg q]
    obtain ⟨N, kk⟩ := ok_var32 (m + d)
    exact (ok_step (flL [(1, 11)]) N fun n hn h => ⟨_, (cl31_b (ev n) n h m k d _).mpr ⟨by rw [ilt_eq]; simp [q], by rw [wrap_id (by omega) (by omega)]; exact kk n hn h, rfl⟩⟩).x
theorem tells_bind (nm : List Nat) : Tells (2 ^ 61) 37 [.imm [.str nm] 0] (φB nm) := by
  refine ⟨fun m k h1 h2 h3 h4 => ?_, fun s m k h1 h2 h3 h4 => ?_⟩
  · simp only [φB]
    by_cases q : m < k
    · rw [if_pos q]
      exact (ok_step (flL [(1, 11), (3, 11), (3, 18)]) 0 fun n hn h => ⟨_, (cl37_b (ev n) n h m k nm).mpr ⟨by rw [ilt_eq]; simp [q], rfl⟩⟩).x
    · rw [if_neg q]
      obtain ⟨N, kk⟩ := ok_var32 (m + 1)
      exact (ok_step (flL [(1, 11), (3, 11), (3, 18)]) N fun n hn h => ⟨_, (cl37_a (ev n) n h m k nm _).mpr ⟨by rw [ilt_eq]; simp [q], by rw [wrap_id (by omega) (by omega)]; exact kk n hn h, rfl⟩⟩).x
  · simp only [φB]
    by_cases q1 : s = nm
    · by_cases q2 : m = 0
      · rw [if_pos ⟨q1, q2⟩]
        obtain ⟨N, kk⟩ := ok_var32 k
        exact (ok_step (flL [(1, 11), (3, 11), (3, 18)]) N fun n hn h => ⟨_, (cl37_e (ev n) n h m k s nm _).mpr ⟨by rw [seq_eq]; simp [q1], by rw [ieq_eq]; simp [q2], kk n hn h, rfl⟩⟩).x
      · rw [if_neg (fun q => q2 q.2)]
        exact (ok_step (flL [(1, 11), (3, 11), (3, 18)]) 0 fun n hn h => ⟨_, (cl37_d (ev n) n h m k s nm).mpr ⟨by rw [seq_eq]; simp [q1], by rw [ieq_eq]; simp [q2], rfl⟩⟩).x
    · rw [if_neg (fun q => q1 q.1)]
      exact (ok_step (flL [(1, 11), (3, 11), (3, 18)]) 0 fun n hn h => ⟨_, (cl37_c (ev n) n h m k s nm).mpr ⟨by rw [seq_eq]; simp [q1], rfl⟩⟩).x
theorem mapT_zero : ∀ (t : Tm) (k : Int), mapT (φL 0) t k = t
  | .sort _, _ => rfl
  | .var m, k => by
    simp only [mapT, φL]
    split
    · rfl
    · simp
  | .con _ _, _ => rfl
  | .pi a b, k => by simp only [mapT, mapT_zero a, mapT_zero b]
  | .lam a b, k => by simp only [mapT, mapT_zero a, mapT_zero b]
  | .app a b, k => by simp only [mapT, mapT_zero a, mapT_zero b]
  | .lett a b c, k => by simp only [mapT, mapT_zero a, mapT_zero b, mapT_zero c]
/-- shift.Lift, by its number 13. -/
theorem okx_lift {d : Int} (hd : 0 ≤ d) (hd2 : d ≤ 2 ^ 41) (t : Tm) (k : Int) (hb : Bd (2 ^ 61) t) (hk : 0 ≤ k) (hh : k + ht t ≤ 2 ^ 41) : OkX 13 [tw t, i64 d, i64 k] (tw (mapT (φL d) t k)) := by
  by_cases q : d = 0
  · subst q
    rw [mapT_zero]
    exact (ok_step (flL [(1, 1)]) 0 fun n hn h => ⟨_, (lift13_a (ev n) n h (tw t) (i64 k) 0).mpr ⟨rfl, rfl⟩⟩).x
  · obtain ⟨N, kk⟩ := okx_maps (.inl rfl) (tells_lift hd hd2) t k hb hk hh
    refine okx_step (flL [(1, 1)]) N fun n hn h => ?_
    obtain ⟨h2, e2, E2⟩ := kk n hn h
    exact ⟨_, h2, (lift13_b (ev n) n h h2 (tw t) (i64 k) _ d).mpr ⟨by rw [ieq_ne q], e2, rfl⟩, E2⟩
/-- shift.Bind, by its number 17. -/
theorem okx_bind (nm : List Nat) (t : Tm) (hb : Bd (2 ^ 61) t) (hh : ht t ≤ 2 ^ 41) : OkX 17 [tw t, .str nm] (tw (mapT (φB nm) t 0)) := by
  obtain ⟨N, kk⟩ := okx_maps (.inr (.inl rfl)) (tells_bind nm) t 0 hb (Int.le_refl _) (by omega)
  refine okx_step fl0 N fun n hn h => ?_
  obtain ⟨h2, e2, E2⟩ := kk n hn h
  exact ⟨_, h2, (bind17 (ev n) n h h2 (tw t) _ nm).mpr ⟨e2, rfl⟩, E2⟩
end Go.Vd

namespace Go.Vd
open Go Go.RowKit Go.Proofs
set_option maxRecDepth 100000
set_option maxHeartbeats 0
noncomputable abbrev nn (m k at' : Int) : Int := wrapK .i64 (wrapK .i64 (m - k) - at')
abbrev cap2 (fs : List AV) (len : Nat) (ex : Bool) (at' : Int) : List AV := [.imm [i64 at'] 0, .imm [.fl fs 0 len 1 ex] 0]
abbrev fl44 : Nat → Nat → Bool := flL [(2, 7), (4, 3), (5, 6), (5, 7)]
theorem cl44_a (cf : CallF) (n : Nat) (h : AHeap) (m k a : Int) (fs : List AV) (len : Nat) (ex : Bool) : (stepI Try.prog H1 fl44 44 cf n (.imm (vc m) 0 :: i64 k :: cap2 fs len ex a) h).Goes [.ok (.bool true) h] (.ok .nilp h) = (OR.ok (.bool (ilt (nn m k a) 0)) h = .ok (.bool true) h ∧ OR.ok .nilp h = OR.ok .nilp h) := by kernel_rfl
theorem cl44_b (cf : CallF) (n : Nat) (h h2 : AHeap) (m k a : Int) (fs : List AV) (len i : Nat) (ex : Bool) (u x : AV) : (stepI Try.prog H1 fl44 44 cf n (.imm (vc m) 0 :: i64 k :: cap2 fs len ex a) h).Goes [.ok (.bool false) h, .ok (.bool true) h, .ok (.imm fs i) h, .ok u h, .ok x h2] (.ok x h2) = (OR.ok (.bool (ilt (nn m k a) 0)) h = .ok (.bool false) h ∧ OR.ok (.bool (ilt (nn m k a) (Int.ofNat len))) h = .ok (.bool true) h ∧ oIaddr (.sl 1) (xC (.fl fs 0 len 1 ex)) (xC (i64 (wrapK .i64 (wrapK .i64 (Int.ofNat len - 1) - nn m k a)))) cf .nil [] h = .ok (.imm fs i) h ∧ oLoad none (xC (.imm fs i)) cf .nil [] h = .ok u h ∧ cf 13 [u, i64 k, i64 0] h = .ok x h2 ∧ OR.ok x h2 = OR.ok x h2) := by kernel_rfl
theorem cl44_c (cf : CallF) (n : Nat) (h : AHeap) (m k a : Int) (fs : List AV) (len : Nat) (ex : Bool) (x : AV) : (stepI Try.prog H1 fl44 44 cf n (.imm (vc m) 0 :: i64 k :: cap2 fs len ex a) h).Goes [.ok (.bool false) h, .ok (.bool false) h, .ok x h] (.ok x h) = (OR.ok (.bool (ilt (nn m k a) 0)) h = .ok (.bool false) h ∧ OR.ok (.bool (ilt (nn m k a) (Int.ofNat len))) h = .ok (.bool false) h ∧ cf 32 [i64 (wrapK .i64 (m - Int.ofNat len))] h = .ok x h ∧ OR.ok x h = OR.ok x h) := by kernel_rfl
theorem cl44_d (n : Nat) (h : AHeap) (s : List Nat) (m k a : Int) (fs : List AV) (len : Nat) (ex : Bool) : ev (n + 1) 44 (.imm (kc s m) 0 :: i64 k :: cap2 fs len ex a) h = .ok .nilp h := by kernel_rfl
theorem puts35 (cf : CallF) (n : Nat) (h h2 : AHeap) (t x : AV) (fs : List AV) (len : Nat) (ex : Bool) (a : Int) : (stepI Try.prog H1 fl0 35 cf n [t, .fl fs 0 len 1 ex, i64 a] h).Goes [.ok x h2] (.ok x h2) = (cf 30 [t, i64 0, .func 44 (cap2 fs len ex a)] h = .ok x h2 ∧ OR.ok x h2 = OR.ok x h2) := by kernel_rfl
theorem put15 (cf : CallF) (n : Nat) (h h2 : AHeap) (t x : AV) (us : List AV) (a : AV) : (stepI Try.prog H1 fl0 15 cf n [t, .imm us 0, a] h).Goes [.ok x h2] (.ok x h2) = (cf 35 [t, .fl [.imm us 0] 0 1 1 true, a] h = .ok x h2 ∧ OR.ok x h2 = OR.ok x h2) := by kernel_rfl
theorem all19 (cf : CallF) (n : Nat) (h h2 : AHeap) (t x v : AV) : (stepI Try.prog H1 fl0 19 cf n [t, v] h).Goes [.ok x h2] (.ok x h2) = (cf 35 [t, v, i64 0] h = .ok x h2 ∧ OR.ok x h2 = OR.ok x h2) := by kernel_rfl
end Go.Vd

namespace Go.Vd
open Go Go.RowKit Go.Proofs
def φP (us : List Tm) (a : Int) : Tm → Int → Option Tm
  | .var m, k => if m - k - a < 0 then none else if m - k - a < us.length then some (mapT (φL k) (us.getD (us.length - 1 - (m - k - a).toNat) (.sort 0)) 0) else some (.var (m - us.length))
  | _, _ => none
theorem nn_id {m k a : Int} (h1 : 0 ≤ m) (h2 : m ≤ 2 ^ 61) (h3 : 0 ≤ k) (h4 : k ≤ 2 ^ 41) (h5 : 0 ≤ a) (h6 : a ≤ 2 ^ 41) : nn m k a = m - k - a := by
  unfold nn
  rw [wrap_id (x := m - k) (by omega) (by omega), wrap_id (by omega) (by omega)]
theorem lpart_one {fs : List AV} {i : Nat} {u : AV} (h : fs[i]? = some u) : lpart fs i 1 = some [u] := by
  have hlt := (List.getElem?_eq_some_iff.1 h).1
  unfold lpart
  rw [llen_eq, ltake_eq, ldrop_eq, show Nat.ble (Nat.add i 1) fs.length = true from ble_iff.2 hlt]
  show some ((fs.drop i).take 1) = _
  rw [List.drop_eq_getElem_cons hlt, (List.getElem?_eq_some_iff.1 h).2]; rfl
theorem tells_puts {us : List Tm} {a : Int} (ex : Bool) (ha : 0 ≤ a) (ha2 : a ≤ 2 ^ 41) (hl : us.length ≤ 2 ^ 40) (hu : ∀ u ∈ us, Bd (2 ^ 61) u ∧ ht u ≤ 2 ^ 41) : Tells (2 ^ 61) 44 (cap2 (us.map tw) us.length ex a) (φP us a) := by
  refine ⟨fun m k h1 h2 h3 h4 => ?_, fun s m k h1 h2 h3 h4 => (ok_leaf fun n h => cl44_d n h s m k a (us.map tw) us.length ex).x⟩
  have hn := nn_id h1 h2 h3 h4 ha ha2
  simp only [φP]
  by_cases q : m - k - a < 0
  · rw [if_pos q]
    exact (ok_step fl44 0 fun n hn' h => ⟨_, (cl44_a (ev n) n h m k a (us.map tw) us.length ex).mpr ⟨by rw [hn, ilt_eq]; simp [q], rfl⟩⟩).x
  · rw [if_neg q]
    by_cases q2 : m - k - a < us.length
    · rw [if_pos q2]
      have hj : us.length - 1 - (m - k - a).toNat < us.length := by omega
      generalize hjj : us.length - 1 - (m - k - a).toNat = j at hj
      have hget : us.getD j (.sort 0) = us[j] := by simp [List.getD, hj]
      rw [hget]
      obtain ⟨hb, hh⟩ := hu us[j] (List.getElem_mem hj)
      obtain ⟨N, kk⟩ := okx_lift h3 h4 us[j] 0 hb (Int.le_refl _) (by omega)
      refine okx_step fl44 N fun n hn' h => ?_
      obtain ⟨h2', e2, E2⟩ := kk n hn' h
      refine ⟨_, h2', (cl44_b (ev n) n h h2' m k a (us.map tw) us.length (Nat.add 0 (Nat.mul j 1)) ex (tw us[j]) _).mpr ⟨by rw [hn, ilt_eq]; simp; omega, by rw [hn, ilt_eq]; simpa using q2, ?_, ?_, e2, rfl⟩, E2⟩
      · have hof : Int.ofNat us.length = (us.length : Int) := rfl
        rw [hof, hn, wrap_id (x := (us.length : Int) - 1) (by omega) (by omega), wrap_id (by omega) (by omega)]
        have : (us.length : Int) - 1 - (m - k - a) = Int.ofNat j := by show (us.length : Int) - 1 - _ = (j : Int); omega
        rw [this]
        show OR.of h (iaddrAV (.sl 1) (.fl (us.map tw) 0 us.length 1 ex) j) = _
        have e3 : iaddrAV (.sl 1) (.fl (us.map tw) 0 us.length 1 ex) j = some (.imm (us.map tw) (Nat.add 0 (Nat.mul j 1))) := by
          unfold iaddrAV
          simp only
          rw [show Nat.beq 1 1 = true from rfl, show Nat.ble (Nat.succ j) us.length = true from ble_iff.2 hj]
        rw [e3]; rfl
      · show OR.of h (loadAV h none (.imm (us.map tw) (Nat.add 0 (Nat.mul j 1)))) = _
        have e4 : lpart (us.map tw) (Nat.add 0 (Nat.mul j 1)) 1 = some [tw us[j]] := by
          apply lpart_one
          rw [show Nat.add 0 (Nat.mul j 1) = j by show 0 + j * 1 = j; omega]
          simp [hj]
        have e5 : loadAV h none (.imm (us.map tw) (Nat.add 0 (Nat.mul j 1))) = some (tw us[j]) := by
          unfold loadAV
          simp only [Option.getD_none]
          rw [e4]; rfl
        rw [e5]; rfl
    · rw [if_neg q2]
      obtain ⟨N, kk⟩ := ok_var32 (m - us.length)
      exact (ok_step fl44 N fun n hn' h => ⟨_, (cl44_c (ev n) n h m k a (us.map tw) us.length ex _).mpr ⟨by rw [hn, ilt_eq]; simp; omega, by rw [hn, ilt_eq]; simpa using q2, by rw [show Int.ofNat us.length = (us.length : Int) from rfl, wrap_id (by omega) (by omega)]; exact kk n hn' h, rfl⟩⟩).x
theorem okx_puts {us : List Tm} {a : Int} (ex : Bool) (t : Tm) (ha : 0 ≤ a) (ha2 : a ≤ 2 ^ 41) (hl : us.length ≤ 2 ^ 40) (hu : ∀ u ∈ us, Bd (2 ^ 61) u ∧ ht u ≤ 2 ^ 41) (hb : Bd (2 ^ 61) t) (hh : ht t ≤ 2 ^ 41) :
    OkX 35 [tw t, .fl (us.map tw) 0 us.length 1 ex, i64 a] (tw (mapT (φP us a) t 0)) := by
  obtain ⟨N, kk⟩ := okx_maps (.inr (.inr rfl)) (tells_puts ex ha ha2 hl hu) t 0 hb (Int.le_refl _) (by omega)
  refine okx_step fl0 N fun n hn h => ?_
  obtain ⟨h2, e2, E2⟩ := kk n hn h
  exact ⟨_, h2, (puts35 (ev n) n h h2 (tw t) _ (us.map tw) us.length ex a).mpr ⟨e2, rfl⟩, E2⟩
theorem okx_put (t u : Tm) {a : Int} (ha : 0 ≤ a) (ha2 : a ≤ 2 ^ 41) (hb : Bd (2 ^ 61) t) (hh : ht t ≤ 2 ^ 41) (hbu : Bd (2 ^ 61) u) (hhu : ht u ≤ 2 ^ 41) : OkX 15 [tw t, tw u, i64 a] (tw (mapT (φP [u] a) t 0)) := by
  obtain ⟨N, kk⟩ := okx_puts (us := [u]) (a := a) true t ha ha2 (by simp) (fun x hx => by simp at hx; subst hx; exact ⟨hbu, hhu⟩) hb hh
  refine okx_step fl0 N fun n hn h => ?_
  obtain ⟨h2, e2, E2⟩ := kk n hn h
  exact ⟨_, h2, (put15 (ev n) n h h2 (tw t) _ (cellsT u) (i64 a)).mpr ⟨e2, rfl⟩, E2⟩
theorem okx_all {us : List Tm} (ex : Bool) (t : Tm) (hl : us.length ≤ 2 ^ 40) (hu : ∀ u ∈ us, Bd (2 ^ 61) u ∧ ht u ≤ 2 ^ 41) (hb : Bd (2 ^ 61) t) (hh : ht t ≤ 2 ^ 41) :
    OkX 19 [tw t, .fl (us.map tw) 0 us.length 1 ex] (tw (mapT (φP us 0) t 0)) := by
  obtain ⟨N, kk⟩ := okx_puts (a := 0) ex t (Int.le_refl _) (by omega) hl hu hb hh
  refine okx_step fl0 N fun n hn h => ?_
  obtain ⟨h2, e2, E2⟩ := kk n hn h
  exact ⟨_, h2, (all19 (ev n) n h h2 (tw t) _ _).mpr ⟨e2, rfl⟩, E2⟩
end Go.Vd

namespace Go.Vd
open Go Go.RowKit Go.Proofs
set_option maxRecDepth 100000
set_option maxHeartbeats 0
abbrev c6 (k m : Int) (s : List Nat) (a b c : AV) : AV := .imm [i64 k, i64 m, .str s, a, b, c] 0
abbrev fl12 : Nat → Nat → Bool := flL [(3, 8), (3, 18), (3, 29)]
theorem same_0 (cf : CallF) (n : Nat) (h : AHeap) (k m k' m' : Int) (s s' : List Nat) (a b c a' b' c' : AV) : (stepI Try.prog H1 fl12 12 cf n [c6 k m s a b c, c6 k' m' s' a' b' c'] h).Goes [.ok (.bool false) h] (.ok (.bool false) h) = (OR.ok (.bool (ieq k k')) h = .ok (.bool false) h ∧ OR.ok (.bool false) h = OR.ok (.bool false) h) := by kernel_rfl
theorem same_1 (cf : CallF) (n : Nat) (h : AHeap) (k m k' m' : Int) (s s' : List Nat) (a b c a' b' c' : AV) : (stepI Try.prog H1 fl12 12 cf n [c6 k m s a b c, c6 k' m' s' a' b' c'] h).Goes [.ok (.bool true) h, .ok (.bool false) h] (.ok (.bool false) h) = (OR.ok (.bool (ieq k k')) h = .ok (.bool true) h ∧ OR.ok (.bool (ieq m m')) h = .ok (.bool false) h ∧ OR.ok (.bool false) h = OR.ok (.bool false) h) := by kernel_rfl
theorem same_2 (cf : CallF) (n : Nat) (h : AHeap) (k m k' m' : Int) (s s' : List Nat) (a b c a' b' c' : AV) : (stepI Try.prog H1 fl12 12 cf n [c6 k m s a b c, c6 k' m' s' a' b' c'] h).Goes [.ok (.bool true) h, .ok (.bool true) h, .ok (.bool false) h] (.ok (.bool false) h) = (OR.ok (.bool (ieq k k')) h = .ok (.bool true) h ∧ OR.ok (.bool (ieq m m')) h = .ok (.bool true) h ∧ OR.ok (.bool (seq s s')) h = .ok (.bool false) h ∧ OR.ok (.bool false) h = OR.ok (.bool false) h) := by kernel_rfl
theorem same_3 (cf : CallF) (n : Nat) (h : AHeap) (k m k' m' : Int) (s s' : List Nat) (a b c a' b' c' : AV) : (stepI Try.prog H1 fl12 12 cf n [c6 k m s a b c, c6 k' m' s' a' b' c'] h).Goes [.ok (.bool true) h, .ok (.bool true) h, .ok (.bool true) h, .ok (.bool false) h] (.ok (.bool false) h) = (OR.ok (.bool (ieq k k')) h = .ok (.bool true) h ∧ OR.ok (.bool (ieq m m')) h = .ok (.bool true) h ∧ OR.ok (.bool (seq s s')) h = .ok (.bool true) h ∧ cf 12 [a, a'] h = .ok (.bool false) h ∧ OR.ok (.bool false) h = OR.ok (.bool false) h) := by kernel_rfl
theorem same_4 (cf : CallF) (n : Nat) (h : AHeap) (k m k' m' : Int) (s s' : List Nat) (a b c a' b' c' : AV) : (stepI Try.prog H1 fl12 12 cf n [c6 k m s a b c, c6 k' m' s' a' b' c'] h).Goes [.ok (.bool true) h, .ok (.bool true) h, .ok (.bool true) h, .ok (.bool true) h, .ok (.bool false) h] (.ok (.bool false) h) = (OR.ok (.bool (ieq k k')) h = .ok (.bool true) h ∧ OR.ok (.bool (ieq m m')) h = .ok (.bool true) h ∧ OR.ok (.bool (seq s s')) h = .ok (.bool true) h ∧ cf 12 [a, a'] h = .ok (.bool true) h ∧ cf 12 [b, b'] h = .ok (.bool false) h ∧ OR.ok (.bool false) h = OR.ok (.bool false) h) := by kernel_rfl
theorem same_5 (cf : CallF) (n : Nat) (h : AHeap) (k m k' m' : Int) (s s' : List Nat) (a b c a' b' c' : AV) (r : Bool) : (stepI Try.prog H1 fl12 12 cf n [c6 k m s a b c, c6 k' m' s' a' b' c'] h).Goes [.ok (.bool true) h, .ok (.bool true) h, .ok (.bool true) h, .ok (.bool true) h, .ok (.bool true) h, .ok (.bool r) h] (.ok (.bool r) h) = (OR.ok (.bool (ieq k k')) h = .ok (.bool true) h ∧ OR.ok (.bool (ieq m m')) h = .ok (.bool true) h ∧ OR.ok (.bool (seq s s')) h = .ok (.bool true) h ∧ cf 12 [a, a'] h = .ok (.bool true) h ∧ cf 12 [b, b'] h = .ok (.bool true) h ∧ cf 12 [c, c'] h = .ok (.bool r) h ∧ OR.ok (.bool r) h = OR.ok (.bool r) h) := by kernel_rfl
theorem same_nn (n : Nat) (h : AHeap) : ev (n + 1) 12 [.nilp, .nilp] h = .ok (.bool true) h := by kernel_rfl
theorem same_ns (n : Nat) (h : AHeap) (x : List AV) : ev (n + 1) 12 [.nilp, .imm x 0] h = .ok (.bool false) h := by kernel_rfl
theorem same_sn (n : Nat) (h : AHeap) (x : List AV) : ev (n + 1) 12 [.imm x 0, .nilp] h = .ok (.bool false) h := by kernel_rfl
def kd : Tm → Int | .sort _ => 1 | .var _ => 2 | .con _ _ => 3 | .pi _ _ => 4 | .lam _ _ => 5 | .app _ _ => 6 | .lett _ _ _ => 7
def num : Tm → Int | .sort n => n | .var n => n | .con _ n => n | _ => 0
def nam : Tm → List Nat | .con s _ => s | _ => []
def ka : Tm → Option Tm | .pi a _ => some a | .lam a _ => some a | .app a _ => some a | .lett a _ _ => some a | _ => none
def kb : Tm → Option Tm | .pi _ b => some b | .lam _ b => some b | .app _ b => some b | .lett _ b _ => some b | _ => none
def kc' : Tm → Option Tm | .lett _ _ c => some c | _ => none
theorem tw_eq (t : Tm) : tw t = c6 (kd t) (num t) (nam t) (optT (ka t)) (optT (kb t)) (optT (kc' t)) := by cases t <;> rfl
theorem Tm.ext' {t u : Tm} (h1 : kd t = kd u) (h2 : num t = num u) (h3 : nam t = nam u) (h4 : ka t = ka u) (h5 : kb t = kb u) (h6 : kc' t = kc' u) : t = u := by
  cases t <;> cases u <;> first | (exfalso; simp [kd] at h1; done) | simp_all [num, nam, ka, kb, kc']
open Classical in
theorem ok_same_opt {x : Option Tm} (hx : ∀ w, x = some w → ∀ u, Ok 12 [tw w, tw u] (.bool (decide (w = u)))) (y : Option Tm) : Ok 12 [optT x, optT y] (.bool (decide (x = y))) := by
  cases x with
  | none => cases y with
    | none => simpa [optT] using ok_leaf same_nn
    | some v => simpa [optT, tw] using ok_leaf fun n h => same_ns n h (cellsT v)
  | some w => cases y with
    | none => simpa [optT, tw] using ok_leaf fun n h => same_sn n h (cellsT w)
    | some v => simpa [optT] using hx w rfl v
open Classical in
theorem ok_same_kids {t : Tm} (ha : ∀ w, ka t = some w → ∀ u, Ok 12 [tw w, tw u] (.bool (decide (w = u)))) (hb : ∀ w, kb t = some w → ∀ u, Ok 12 [tw w, tw u] (.bool (decide (w = u)))) (hc : ∀ w, kc' t = some w → ∀ u, Ok 12 [tw w, tw u] (.bool (decide (w = u)))) (u : Tm) :
    Ok 12 [tw t, tw u] (.bool (decide (t = u))) := by
  obtain ⟨N1, k1⟩ := ok_same_opt ha (ka u)
  obtain ⟨N2, k2⟩ := ok_same_opt hb (kb u)
  obtain ⟨N3, k3⟩ := ok_same_opt hc (kc' u)
  rw [tw_eq t, tw_eq u]
  by_cases q1 : kd t = kd u
  · by_cases q2 : num t = num u
    · by_cases q3 : nam t = nam u
      · by_cases q4 : ka t = ka u
        · by_cases q5 : kb t = kb u
          · have e : decide (t = u) = decide (kc' t = kc' u) := by
              by_cases q6 : kc' t = kc' u
              · simp [Tm.ext' q1 q2 q3 q4 q5 q6]
              · have : t ≠ u := fun z => q6 (by rw [z])
                simp [q6, this]
            rw [e]
            refine ok_step fl12 (N1 + N2 + N3) fun n hn h => ⟨_, (same_5 (ev n) n h _ _ _ _ _ _ _ _ _ _ _ _ _).mpr ⟨by rw [ieq_eq]; simp [q1], by rw [ieq_eq]; simp [q2], by rw [seq_eq]; simp [q3], ?_, ?_, k3 n (by omega) h, rfl⟩⟩
            · rw [k1 n (by omega) h]; simp [q4]
            · rw [k2 n (by omega) h]; simp [q5]
          · have e : decide (t = u) = false := by simp; exact fun z => q5 (by rw [z])
            rw [e]
            refine ok_step fl12 (N1 + N2 + N3) fun n hn h => ⟨_, (same_4 (ev n) n h _ _ _ _ _ _ _ _ _ _ _ _).mpr ⟨by rw [ieq_eq]; simp [q1], by rw [ieq_eq]; simp [q2], by rw [seq_eq]; simp [q3], ?_, ?_, rfl⟩⟩
            · rw [k1 n (by omega) h]; simp [q4]
            · rw [k2 n (by omega) h]; simp [q5]
        · have e : decide (t = u) = false := by simp; exact fun z => q4 (by rw [z])
          rw [e]
          refine ok_step fl12 (N1 + N2 + N3) fun n hn h => ⟨_, (same_3 (ev n) n h _ _ _ _ _ _ _ _ _ _ _ _).mpr ⟨by rw [ieq_eq]; simp [q1], by rw [ieq_eq]; simp [q2], by rw [seq_eq]; simp [q3], ?_, rfl⟩⟩
          rw [k1 n (by omega) h]; simp [q4]
      · have e : decide (t = u) = false := by simp; exact fun z => q3 (by rw [z])
        rw [e]
        exact ok_step fl12 0 fun n hn h => ⟨_, (same_2 (ev n) n h _ _ _ _ _ _ _ _ _ _ _ _).mpr ⟨by rw [ieq_eq]; simp [q1], by rw [ieq_eq]; simp [q2], by rw [seq_eq]; simp [q3], rfl⟩⟩
    · have e : decide (t = u) = false := by simp; exact fun z => q2 (by rw [z])
      rw [e]
      exact ok_step fl12 0 fun n hn h => ⟨_, (same_1 (ev n) n h _ _ _ _ _ _ _ _ _ _ _ _).mpr ⟨by rw [ieq_eq]; simp [q1], by rw [ieq_eq]; simp [q2], rfl⟩⟩
  · have e : decide (t = u) = false := by simp; exact fun z => q1 (by rw [z])
    rw [e]
    exact ok_step fl12 0 fun n hn h => ⟨_, (same_0 (ev n) n h _ _ _ _ _ _ _ _ _ _ _ _).mpr ⟨by rw [ieq_eq]; simp [q1], rfl⟩⟩
open Classical in
/-- ref6.Same, by its number 12. -/
theorem ok_same : ∀ (t u : Tm), Ok 12 [tw t, tw u] (.bool (decide (t = u)))
  | .sort _ => ok_same_kids (fun w h => by cases h) (fun w h => by cases h) (fun w h => by cases h)
  | .var _ => ok_same_kids (fun w h => by cases h) (fun w h => by cases h) (fun w h => by cases h)
  | .con _ _ => ok_same_kids (fun w h => by cases h) (fun w h => by cases h) (fun w h => by cases h)
  | .pi a b => ok_same_kids (fun w h => by cases h; exact ok_same a) (fun w h => by cases h; exact ok_same b) (fun w h => by cases h)
  | .lam a b => ok_same_kids (fun w h => by cases h; exact ok_same a) (fun w h => by cases h; exact ok_same b) (fun w h => by cases h)
  | .app a b => ok_same_kids (fun w h => by cases h; exact ok_same a) (fun w h => by cases h; exact ok_same b) (fun w h => by cases h)
  | .lett a b c => ok_same_kids (fun w h => by cases h; exact ok_same a) (fun w h => by cases h; exact ok_same b) (fun w h => by cases h; exact ok_same c)
end Go.Vd

namespace Go.Vd
open Go Go.RowKit Go.Proofs
set_option maxRecDepth 100000
set_option maxHeartbeats 0
theorem free_nil (n : Nat) (h : AHeap) : ev (n + 1) 21 [.nilp] h = .ok (i64 0) h := by kernel_rfl
theorem free_var (n : Nat) (h : AHeap) (m : Int) : ev (n + 1) 21 [.imm (vc m) 0] h = .ok (i64 (wrapK .i64 (m + 1))) h := by kernel_rfl
theorem free_k (cf : CallF) (n : Nat) (h : AHeap) (k m : Int) (s : List Nat) (a b c : AV) (x y u z v r : Int) : (stepI Try.prog H1 (flL [(3, 4), (5, 21)]) 21 cf n [c6 k m s a b c] h).Goes [.ok (.bool false) h, .ok (i64 x) h, .ok (i64 y) h, .ok (i64 u) h, .ok (i64 z) h, .ok (i64 v) h, .ok (i64 r) h] (.ok (i64 r) h) =
  (OR.ok (.bool (ieq k 2)) h = .ok (.bool false) h ∧ cf 21 [a] h = .ok (i64 x) h ∧ cf 21 [b] h = .ok (i64 y) h ∧ cf 34 [c6 k m s a b c, i64 1] h = .ok (i64 u) h ∧ cf 21 [c] h = .ok (i64 z) h ∧ cf 34 [c6 k m s a b c, i64 2] h = .ok (i64 v) h ∧
    OR.of h (minmaxAV true [i64 0, i64 x, i64 (wrapK .i64 (y - u)), i64 (wrapK .i64 (z - v))]) = .ok (i64 r) h ∧ OR.ok (i64 r) h = OR.ok (i64 r) h) := by kernel_rfl
theorem under_13 (n : Nat) (h : AHeap) (m : Int) (s : List Nat) (a b c : AV) : ev (n + 1) 34 [c6 1 m s a b c, i64 1] h = .ok (i64 0) h := by kernel_rfl
theorem under_33 (n : Nat) (h : AHeap) (m : Int) (s : List Nat) (a b c : AV) : ev (n + 1) 34 [c6 3 m s a b c, i64 1] h = .ok (i64 0) h := by kernel_rfl
theorem under_4 (n : Nat) (h : AHeap) (m : Int) (s : List Nat) (a b c : AV) : ev (n + 1) 34 [c6 4 m s a b c, i64 1] h = .ok (i64 1) h := by kernel_rfl
theorem under_5 (n : Nat) (h : AHeap) (m : Int) (s : List Nat) (a b c : AV) : ev (n + 1) 34 [c6 5 m s a b c, i64 1] h = .ok (i64 1) h := by kernel_rfl
theorem under_6 (n : Nat) (h : AHeap) (m : Int) (s : List Nat) (a b c : AV) : ev (n + 1) 34 [c6 6 m s a b c, i64 1] h = .ok (i64 0) h := by kernel_rfl
theorem under_7 (n : Nat) (h : AHeap) (m : Int) (s : List Nat) (a b c : AV) : ev (n + 1) 34 [c6 7 m s a b c, i64 1] h = .ok (i64 0) h := by kernel_rfl
theorem under_c (n : Nat) (h : AHeap) (k m : Int) (s : List Nat) (a b c : AV) : ev (n + 1) 34 [c6 k m s a b c, i64 2] h = .ok (i64 1) h := by kernel_rfl
/-- Binders ahead of the second part. -/
def ub : Tm → Int | .pi _ _ => 1 | .lam _ _ => 1 | _ => 0
def isV : Tm → Bool | .var _ => true | _ => false
theorem ok_under (t : Tm) (ht' : isV t = false) : Ok 34 [tw t, i64 1] (i64 (ub t)) := by
  cases t with
  | var n => cases ht'
  | sort n => exact ok_leaf fun n' h => under_13 n' h n [] .nilp .nilp .nilp
  | con s n => exact ok_leaf fun n' h => under_33 n' h n s .nilp .nilp .nilp
  | pi a b => exact ok_leaf fun n' h => under_4 n' h 0 [] (tw a) (tw b) .nilp
  | lam a b => exact ok_leaf fun n' h => under_5 n' h 0 [] (tw a) (tw b) .nilp
  | app a b => exact ok_leaf fun n' h => under_6 n' h 0 [] (tw a) (tw b) .nilp
  | lett a b c => exact ok_leaf fun n' h => under_7 n' h 0 [] (tw a) (tw b) (tw c)
theorem ok_underc (t : Tm) : Ok 34 [tw t, i64 2] (i64 1) := by rw [tw_eq]; exact ok_leaf fun n h => under_c n h _ _ _ _ _ _
def free : Tm → Int
  | .sort _ => 0
  | .var n => n + 1
  | .con _ _ => 0
  | .pi a b => max (free a) (free b - 1)
  | .lam a b => max (free a) (free b - 1)
  | .app a b => max (free a) (free b)
  | .lett a b c => max (max (free a) (free b)) (free c - 1)
def freeO : Option Tm → Int
  | some t => free t
  | none => 0
theorem free_bd : ∀ (t : Tm), Bd (2 ^ 61) t → 0 ≤ free t ∧ free t ≤ 2 ^ 61 + 1
  | .sort _, _ => by simp only [free]; omega
  | .var n, h => by simp only [free]; have h1 := h.1; have h2 := h.2; omega
  | .con _ _, _ => by simp only [free]; omega
  | .pi a b, h => by have := free_bd a h.1; have := free_bd b h.2; simp only [free]; omega
  | .lam a b, h => by have := free_bd a h.1; have := free_bd b h.2; simp only [free]; omega
  | .app a b, h => by have := free_bd a h.1; have := free_bd b h.2; simp only [free]; omega
  | .lett a b c, h => by have := free_bd a h.1; have := free_bd b h.2.1; have := free_bd c h.2.2; simp only [free]; omega
theorem max4 (a b c d : Int) : minmaxAV true [i64 a, i64 b, i64 c, i64 d] = some (i64 (max (max (max a b) c) d)) := by
  have one : ∀ p q : Int, (match ilt p q with | true => q | false => p) = max p q := fun p q => by
    rw [ilt_eq]
    by_cases h : p < q
    · simp only [h, decide_true]; omega
    · simp only [h, decide_false]; omega
  show some (AV.int .i64 (match ilt (match ilt (match ilt a b with | true => b | false => a) c with | true => c | false => (match ilt a b with | true => b | false => a)) d with | true => d | false => (match ilt (match ilt a b with | true => b | false => a) c with | true => c | false => (match ilt a b with | true => b | false => a)))) = _
  rw [one a b, one (max a b) c, one]; rfl
theorem ok_free_kids {t : Tm} (hv : isV t = false) (hb : Bd (2 ^ 61) t) (ha : Ok 21 [optT (ka t)] (i64 (freeO (ka t)))) (hb' : Ok 21 [optT (kb t)] (i64 (freeO (kb t)))) (hc : Ok 21 [optT (kc' t)] (i64 (freeO (kc' t))))
    (r1 : 0 ≤ freeO (kb t) ∧ freeO (kb t) ≤ 2 ^ 61 + 1) (r2 : 0 ≤ freeO (kc' t) ∧ freeO (kc' t) ≤ 2 ^ 61 + 1) (e : free t = max (max (max 0 (freeO (ka t))) (freeO (kb t) - ub t)) (freeO (kc' t) - 1)) : Ok 21 [tw t] (i64 (free t)) := by
  obtain ⟨N1, k1⟩ := ha
  obtain ⟨N2, k2⟩ := hb'
  obtain ⟨N3, k3⟩ := hc
  obtain ⟨N4, k4⟩ := ok_under t hv
  obtain ⟨N5, k5⟩ := ok_underc t
  have hk : kd t ≠ 2 := by cases t <;> first | (cases hv; done) | (simp [kd])
  have hu : 0 ≤ ub t ∧ ub t ≤ 1 := by cases t <;> simp [ub]
  rw [tw_eq t] at k4 k5 ⊢
  exact ok_step (flL [(3, 4), (5, 21)]) (N1 + N2 + N3 + N4 + N5) fun n hn h => ⟨_, (free_k (ev n) n h _ _ _ _ _ _ _ _ _ _ _ _).mpr ⟨by rw [ieq_eq]; simp [hk], k1 n (by omega) h, k2 n (by omega) h, k4 n (by omega) h, k3 n (by omega) h, k5 n (by omega) h, by
      rw [wrap_id (by omega) (by omega), wrap_id (by omega) (by omega), max4, e]; rfl, rfl⟩⟩
theorem ok_free_nil : Ok 21 [.nilp] (i64 0) := ok_leaf free_nil
/-- ref6.Free, by its number 21. -/
theorem ok_free : ∀ (t : Tm), Bd (2 ^ 61) t → Ok 21 [tw t] (i64 (free t))
  | .sort n, hb => ok_free_kids (t := .sort n) rfl hb ok_free_nil ok_free_nil ok_free_nil (by simp [freeO, kb]) (by simp [freeO, kc']) (by simp only [free, freeO, ka, kb, kc', ub]; omega)
  | .con s n, hb => ok_free_kids (t := .con s n) rfl hb ok_free_nil ok_free_nil ok_free_nil (by simp [freeO, kb]) (by simp [freeO, kc']) (by simp only [free, freeO, ka, kb, kc', ub]; omega)
  | .var n, hb => ok_leaf fun n' h => by
      have := free_var n' h n
      rw [wrap_id (by have := hb.1; omega) (by have := hb.2; omega)] at this
      exact this
  | .pi a b, hb => by
    have h1 := free_bd a hb.1
    have h2 := free_bd b hb.2
    exact ok_free_kids (t := .pi a b) rfl hb (ok_free a hb.1) (ok_free b hb.2) ok_free_nil h2 (by simp [freeO, kc']) (by simp only [free, freeO, ka, kb, kc', ub]; omega)
  | .lam a b, hb => by
    have h1 := free_bd a hb.1
    have h2 := free_bd b hb.2
    exact ok_free_kids (t := .lam a b) rfl hb (ok_free a hb.1) (ok_free b hb.2) ok_free_nil h2 (by simp [freeO, kc']) (by simp only [free, freeO, ka, kb, kc', ub]; omega)
  | .app a b, hb => by
    have h1 := free_bd a hb.1
    have h2 := free_bd b hb.2
    exact ok_free_kids (t := .app a b) rfl hb (ok_free a hb.1) (ok_free b hb.2) ok_free_nil h2 (by simp [freeO, kc']) (by simp only [free, freeO, ka, kb, kc', ub]; omega)
  | .lett a b c, hb => by
    have h1 := free_bd a hb.1
    have h2 := free_bd b hb.2.1
    have h3 := free_bd c hb.2.2
    exact ok_free_kids (t := .lett a b c) rfl hb (ok_free a hb.1) (ok_free b hb.2.1) (ok_free c hb.2.2) h2 h3 (by simp only [free, freeO, ka, kb, kc', ub]; omega)
end Go.Vd

namespace Go.Vd
/-! The plain laws of Bind. -/
theorem put_bind (nm : List Nat) : ∀ (t : Tm) (k : Int), 0 ≤ k → mapT (φP [.con nm 0] 0) (mapT (φB nm) t k) k = t
  | .sort _, _, _ => rfl
  | .var m, k, hk => by
    simp only [mapT, φB]
    by_cases q : m < k
    · rw [if_pos q]
      show (φP [.con nm 0] 0 (.var m) k).getD (.var m) = _
      simp only [φP]
      rw [if_pos (by omega)]; rfl
    · rw [if_neg q]
      show (φP [.con nm 0] 0 (.var (m + 1)) k).getD (.var (m + 1)) = _
      simp only [φP]
      rw [if_neg (by omega), if_neg (by simp only [List.length_singleton]; omega)]
      simp
  | .con s m, k, hk => by
    simp only [mapT, φB]
    by_cases q : s = nm ∧ m = 0
    · rw [if_pos q]
      show (φP [.con nm 0] 0 (.var k) k).getD (.var k) = _
      simp only [φP]
      rw [if_neg (by omega), if_pos (by simp only [List.length_singleton]; omega)]
      rw [show k - k - 0 = 0 by omega, q.1, q.2]; rfl
    · rw [if_neg q]; rfl
  | .pi a b, k, hk => by simp only [mapT, put_bind nm a k hk, put_bind nm b (k + 1) (by omega)]
  | .lam a b, k, hk => by simp only [mapT, put_bind nm a k hk, put_bind nm b (k + 1) (by omega)]
  | .app a b, k, hk => by simp only [mapT, put_bind nm a k hk, put_bind nm b k hk]
  | .lett a b c, k, hk => by simp only [mapT, put_bind nm a k hk, put_bind nm b k hk, put_bind nm c (k + 1) (by omega)]
theorem free_bind (nm : List Nat) : ∀ (t : Tm) (k : Int), 0 ≤ k → free (mapT (φB nm) t k) ≤ max (free t) k + 1
  | .sort _, k, hk => by simp only [mapT, free]; omega
  | .var m, k, hk => by
    simp only [mapT, φB]
    by_cases q : m < k
    · rw [if_pos q]; simp only [Option.getD_none, free]; omega
    · rw [if_neg q]; simp only [Option.getD_some, free]; omega
  | .con s m, k, hk => by
    simp only [mapT, φB]
    by_cases q : s = nm ∧ m = 0
    · rw [if_pos q]; simp only [Option.getD_some, free]; omega
    · rw [if_neg q]; simp only [Option.getD_none, free]; omega
  | .pi a b, k, hk => by have := free_bind nm a k hk; have := free_bind nm b (k + 1) (by omega); simp only [mapT, free]; omega
  | .lam a b, k, hk => by have := free_bind nm a k hk; have := free_bind nm b (k + 1) (by omega); simp only [mapT, free]; omega
  | .app a b, k, hk => by have := free_bind nm a k hk; have := free_bind nm b k hk; simp only [mapT, free]; omega
  | .lett a b c, k, hk => by have := free_bind nm a k hk; have := free_bind nm b k hk; have := free_bind nm c (k + 1) (by omega); simp only [mapT, free]; omega
theorem Bd.mono {M N : Int} (h : M ≤ N) : ∀ {t : Tm}, Bd M t → Bd N t
  | .sort _, b => ⟨b.1, Int.le_trans b.2 h⟩
  | .var _, b => ⟨b.1, Int.le_trans b.2 h⟩
  | .con _ _, b => ⟨b.1, Int.le_trans b.2 h⟩
  | .pi _ _, b => ⟨Bd.mono h b.1, Bd.mono h b.2⟩
  | .lam _ _, b => ⟨Bd.mono h b.1, Bd.mono h b.2⟩
  | .app _ _, b => ⟨Bd.mono h b.1, Bd.mono h b.2⟩
  | .lett _ _ _, b => ⟨Bd.mono h b.1, Bd.mono h b.2.1, Bd.mono h b.2.2⟩
theorem bd_bind {M : Int} (nm : List Nat) : ∀ (t : Tm) (k : Int), 0 ≤ k → k + ht t ≤ M → Bd M t → Bd (M + 1) (mapT (φB nm) t k)
  | .sort _, k, hk, hh, hb => Bd.mono (by omega) hb
  | .var m, k, hk, hh, hb => by
    have h1 := hb.1
    have h2 := hb.2
    simp only [mapT, φB]
    by_cases q : m < k
    · rw [if_pos q]; simp only [Option.getD_none, Bd]; omega
    · rw [if_neg q]; simp only [Option.getD_some, Bd]; omega
  | .con s m, k, hk, hh, hb => by
    have h1 := hb.1
    have h2 := hb.2
    simp only [ht] at hh
    simp only [mapT, φB]
    by_cases q : s = nm ∧ m = 0
    · rw [if_pos q]; simp only [Option.getD_some, Bd]; omega
    · rw [if_neg q]; simp only [Option.getD_none, Bd]; omega
  | .pi a b, k, hk, hh, hb => by simp only [ht] at hh; exact ⟨bd_bind nm a k hk (by omega) hb.1, bd_bind nm b (k + 1) (by omega) (by omega) hb.2⟩
  | .lam a b, k, hk, hh, hb => by simp only [ht] at hh; exact ⟨bd_bind nm a k hk (by omega) hb.1, bd_bind nm b (k + 1) (by omega) (by omega) hb.2⟩
  | .app a b, k, hk, hh, hb => by simp only [ht] at hh; exact ⟨bd_bind nm a k hk (by omega) hb.1, bd_bind nm b k hk (by omega) hb.2⟩
  | .lett a b c, k, hk, hh, hb => by simp only [ht] at hh; exact ⟨bd_bind nm a k hk (by omega) hb.1, bd_bind nm b k hk (by omega) hb.2.1, bd_bind nm c (k + 1) (by omega) (by omega) hb.2.2⟩
theorem ht_bind (nm : List Nat) : ∀ (t : Tm) (k : Int), ht (mapT (φB nm) t k) = ht t
  | .sort _, _ => rfl
  | .var m, k => by
    simp only [mapT, φB]
    by_cases q : m < k
    · rw [if_pos q]; rfl
    · rw [if_neg q]; rfl
  | .con s m, k => by
    simp only [mapT, φB]
    by_cases q : s = nm ∧ m = 0
    · rw [if_pos q]; rfl
    · rw [if_neg q]; rfl
  | .pi a b, k => by simp only [mapT, ht, ht_bind nm a, ht_bind nm b]
  | .lam a b, k => by simp only [mapT, ht, ht_bind nm a, ht_bind nm b]
  | .app a b, k => by simp only [mapT, ht, ht_bind nm a, ht_bind nm b]
  | .lett a b c, k => by simp only [mapT, ht, ht_bind nm a, ht_bind nm b, ht_bind nm c]
end Go.Vd

namespace Go.Vd
/-! The plain laws of lifting and putting in. -/
theorem mapT_id (φ : Tm → Int → Option Tm) : ∀ (t : Tm) (k : Int), (∀ m k', k ≤ k' → m < free t + (k' - k) → (φ (.var m) k').getD (.var m) = .var m) → (∀ s m k', (φ (.con s m) k').getD (.con s m) = .con s m) → mapT φ t k = t
  | .sort _, _, _, _ => rfl
  | .var m, k, h, _ => by simp only [mapT]; exact h m k (Int.le_refl _) (by simp only [free]; omega)
  | .con s m, k, _, h => by simp only [mapT]; exact h s m k
  | .pi a b, k, h, hc => by
    simp only [mapT]
    rw [mapT_id φ a k (fun m k' h1 h2 => h m k' h1 (by simp only [free]; omega)) hc, mapT_id φ b (k + 1) (fun m k' h1 h2 => h m k' (by omega) (by simp only [free]; omega)) hc]
  | .lam a b, k, h, hc => by
    simp only [mapT]
    rw [mapT_id φ a k (fun m k' h1 h2 => h m k' h1 (by simp only [free]; omega)) hc, mapT_id φ b (k + 1) (fun m k' h1 h2 => h m k' (by omega) (by simp only [free]; omega)) hc]
  | .app a b, k, h, hc => by
    simp only [mapT]
    rw [mapT_id φ a k (fun m k' h1 h2 => h m k' h1 (by simp only [free]; omega)) hc, mapT_id φ b k (fun m k' h1 h2 => h m k' h1 (by simp only [free]; omega)) hc]
  | .lett a b c, k, h, hc => by
    simp only [mapT]
    rw [mapT_id φ a k (fun m k' h1 h2 => h m k' h1 (by simp only [free]; omega)) hc, mapT_id φ b k (fun m k' h1 h2 => h m k' h1 (by simp only [free]; omega)) hc, mapT_id φ c (k + 1) (fun m k' h1 h2 => h m k' (by omega) (by simp only [free]; omega)) hc]
/-- Two maps, one behind the other, are a third one. -/
theorem mapT_comp (φ ψ χ : Tm → Int → Option Tm) (e : Int) (hv : ∀ m k, 0 ≤ k → mapT ψ ((φ (.var m) k).getD (.var m)) (k + e) = (χ (.var m) k).getD (.var m)) (hc : ∀ s m k, 0 ≤ k → mapT ψ ((φ (.con s m) k).getD (.con s m)) (k + e) = (χ (.con s m) k).getD (.con s m)) :
    ∀ (t : Tm) (k : Int), 0 ≤ k → mapT ψ (mapT φ t k) (k + e) = mapT χ t k
  | .sort _, _, _ => rfl
  | .var m, k, h => hv m k h
  | .con s m, k, h => hc s m k h
  | .pi a b, k, h => by simp only [mapT]; rw [mapT_comp φ ψ χ e hv hc a k h, show k + e + 1 = k + 1 + e by omega, mapT_comp φ ψ χ e hv hc b (k + 1) (by omega)]
  | .lam a b, k, h => by simp only [mapT]; rw [mapT_comp φ ψ χ e hv hc a k h, show k + e + 1 = k + 1 + e by omega, mapT_comp φ ψ χ e hv hc b (k + 1) (by omega)]
  | .app a b, k, h => by simp only [mapT]; rw [mapT_comp φ ψ χ e hv hc a k h, mapT_comp φ ψ χ e hv hc b k h]
  | .lett a b c, k, h => by simp only [mapT]; rw [mapT_comp φ ψ χ e hv hc a k h, mapT_comp φ ψ χ e hv hc b k h, show k + e + 1 = k + 1 + e by omega, mapT_comp φ ψ χ e hv hc c (k + 1) (by omega)]
theorem L_var (d m k : Int) : mapT (φL d) (.var m) k = if m < k then .var m else .var (m + d) := by
  simp only [mapT, φL]; by_cases q : m < k
  · rw [if_pos q, if_pos q]; rfl
  · rw [if_neg q, if_neg q]; rfl
theorem φL_con (d : Int) (s : List Nat) (m k : Int) : φL d (.con s m) k = none := rfl
theorem φP_con (us : List Tm) (a : Int) (s : List Nat) (m k : Int) : φP us a (.con s m) k = none := rfl
/-- Lifting twice. -/
theorem LL {d e : Int} (_hd : 0 ≤ d) (i : Int) (hi : 0 ≤ i) (hid : i ≤ d) (t : Tm) (k : Int) (hk : 0 ≤ k) : mapT (φL e) (mapT (φL d) t k) (k + i) = mapT (φL (d + e)) t k := by
  refine mapT_comp _ _ _ i (fun m k hk => ?_) (fun s m k _ => rfl) t k hk
  show mapT (φL e) (mapT (φL d) (.var m) k) (k + i) = mapT (φL (d + e)) (.var m) k
  rw [L_var, L_var]
  by_cases q : m < k
  · rw [if_pos q, if_pos q, L_var, if_pos (by omega)]
  · rw [if_neg q, if_neg q, L_var, if_neg (by omega), Int.add_assoc]
theorem L_zero (t : Tm) (k : Int) : mapT (φL 0) t k = t := by
  refine mapT_id _ t k (fun m k' _ _ => ?_) (fun s m k => rfl)
  show mapT (φL 0) (.var m) k' = .var m
  rw [L_var, Int.add_zero]; simp
theorem L_above {t : Tm} {d k : Int} (hk : free t ≤ k) : mapT (φL d) t k = t := by
  refine mapT_id _ t k (fun m k' h1 h2 => ?_) (fun s m k => rfl)
  show mapT (φL d) (.var m) k' = .var m
  rw [L_var, if_pos (by omega)]
theorem P_var1 (u : Tm) (a m k : Int) (_ha : 0 ≤ a) : mapT (φP [u] a) (.var m) k = if m < k + a then .var m else if m = k + a then mapT (φL k) u 0 else .var (m - 1) := by
  simp only [mapT, φP, List.length_singleton]
  by_cases q : m < k + a
  · rw [if_pos (by omega), if_pos q]; rfl
  · rw [if_neg (by omega), if_neg q]
    by_cases q2 : m = k + a
    · rw [if_pos (by omega), if_pos q2, show m - k - a = 0 by omega]; rfl
    · rw [if_neg (by omega), if_neg q2]; rfl
/-- Put in what isn't free: nothing. -/
theorem P_above {t u : Tm} {a k : Int} (ha : 0 ≤ a) (hk : free t ≤ k + a) : mapT (φP [u] a) t k = t := by
  refine mapT_id _ t k (fun m k' h1 h2 => ?_) (fun s m k => rfl)
  show mapT (φP [u] a) (.var m) k' = .var m
  rw [P_var1 _ _ _ _ ha, if_pos (by omega)]
/-- What was lifted by one more takes no notice. -/
theorem PL (u : Tm) (d : Int) (hd : 0 ≤ d) (t : Tm) (k : Int) (hk : 0 ≤ k) : mapT (φP [u] 0) (mapT (φL (d + 1)) t k) (k + d) = mapT (φL d) t k := by
  refine mapT_comp _ _ _ d (fun m k hk => ?_) (fun s m k _ => rfl) t k hk
  show mapT (φP [u] 0) (mapT (φL (d + 1)) (.var m) k) (k + d) = mapT (φL d) (.var m) k
  rw [L_var, L_var]
  by_cases q : m < k
  · rw [if_pos q, if_pos q, P_var1 _ _ _ _ (Int.le_refl _), if_pos (by omega)]
  · rw [if_neg q, if_neg q, P_var1 _ _ _ _ (Int.le_refl _), if_neg (by omega), if_neg (by omega)]; congr 1; omega
/-- Lifting and putting in, either first. -/
theorem P_L (u : Tm) (d : Int) (hd : 0 ≤ d) (t : Tm) (i : Int) (hi : 0 ≤ i) : mapT (φP [u] 0) (mapT (φL d) t i) (i + d) = mapT (φL d) (mapT (φP [u] 0) t i) i := by
  have e2 : ∀ (t : Tm) (k : Int), 0 ≤ k → mapT (φL d) (mapT (φP [u] 0) t k) (k + 0) = mapT (fun x k => some (mapT (φL d) (mapT (φP [u] 0) x k) k)) t k :=
    mapT_comp _ _ _ 0 (fun m k _ => by rw [Int.add_zero]; rfl) (fun s m k _ => by rw [Int.add_zero]; rfl)
  have e1 : ∀ (t : Tm) (k : Int), 0 ≤ k → mapT (φP [u] 0) (mapT (φL d) t k) (k + d) = mapT (fun x k => some (mapT (φL d) (mapT (φP [u] 0) x k) k)) t k := by
    refine mapT_comp _ _ _ d (fun m k hk => ?_) (fun s m k _ => rfl)
    show mapT (φP [u] 0) (mapT (φL d) (.var m) k) (k + d) = mapT (φL d) (mapT (φP [u] 0) (.var m) k) k
    rw [L_var, P_var1 _ _ _ _ (Int.le_refl _)]
    by_cases q : m < k
    · rw [if_pos q, if_pos (by omega), P_var1 _ _ _ _ (Int.le_refl _), if_pos (by omega), L_var, if_pos q]
    · rw [if_neg q, if_neg (by omega), P_var1 _ _ _ _ (Int.le_refl _), if_neg (by omega)]
      by_cases q2 : m = k
      · rw [if_pos (by omega), if_pos (by omega)]
        have := LL (d := k) (e := d) hk k hk (Int.le_refl _) u 0 (Int.le_refl _)
        rw [Int.zero_add] at this
        rw [this]
      · rw [if_neg (by omega), if_neg (by omega), L_var, if_neg (by omega)]; congr 1; omega
  rw [e1 t i hi, ← e2 t i hi, Int.add_zero]
theorem P_var2 (x y : Tm) (m k : Int) : mapT (φP [x, y] 0) (.var m) k = if m < k then .var m else if m = k then mapT (φL k) y 0 else if m = k + 1 then mapT (φL k) x 0 else .var (m - 2) := by
  simp only [mapT, φP]
  rw [show (([x, y] : List Tm).length : Int) = 2 from rfl]
  by_cases q : m < k
  · rw [if_pos (by omega), if_pos q]; rfl
  · rw [if_neg (by omega), if_neg q]
    by_cases q2 : m = k
    · rw [if_pos (by omega), if_pos q2, show m - k - 0 = 0 by omega]; rfl
    · by_cases q3 : m = k + 1
      · rw [if_pos (by omega), if_neg q2, if_pos q3, show m - k - 0 = 1 by omega]; rfl
      · rw [if_neg (by omega), if_neg q2, if_neg q3]; rfl
/-- All at once is one by one. -/
theorem all2 (x y t : Tm) (k : Int) (hk : 0 ≤ k) : mapT (φP [x] 0) (mapT (φP [mapT (φL 1) y 0] 0) t k) k = mapT (φP [x, y] 0) t k := by
  have := mapT_comp (φP [mapT (φL 1) y 0] 0) (φP [x] 0) (φP [x, y] 0) 0 (fun m k hk => ?_) (fun s m k _ => rfl) t k hk
  · rwa [Int.add_zero] at this
  · show mapT (φP [x] 0) (mapT (φP [mapT (φL 1) y 0] 0) (.var m) k) (k + 0) = mapT (φP [x, y] 0) (.var m) k
    rw [P_var2, P_var1 _ _ _ _ (Int.le_refl _), Int.add_zero]
    by_cases q : m < k
    · rw [if_pos q, if_pos q, P_var1 _ _ _ _ (Int.le_refl _), if_pos (by omega)]
    · rw [if_neg q, if_neg q]
      by_cases q2 : m = k
      · rw [if_pos q2, if_pos q2]
        have h1 := LL (d := 1) (e := k) (by omega) 0 (Int.le_refl _) (by omega) y 0 (Int.le_refl _)
        rw [Int.add_zero] at h1
        rw [h1, Int.add_comm 1 k]
        have h2 := PL x k hk y 0 (Int.le_refl _)
        rw [Int.zero_add] at h2
        exact h2
      · rw [if_neg q2, if_neg q2, P_var1 _ _ _ _ (Int.le_refl _), if_neg (by omega)]
        by_cases q3 : m = k + 1
        · rw [if_pos (by omega), if_pos q3]
        · rw [if_neg (by omega), if_neg q3]; congr 1; omega
/-- Two substitutions, either first. -/
theorem swap2 (x y t : Tm) (k : Int) (hk : 0 ≤ k) : mapT (φP [y] 0) (mapT (φP [x] 0) t k) k = mapT (φP [mapT (φP [y] 0) x 0] 0) (mapT (φP [mapT (φL 1) y 0] 1) t k) k := by
  have e1 : ∀ (t : Tm) (k : Int), 0 ≤ k → mapT (φP [y] 0) (mapT (φP [x] 0) t k) (k + 0) = mapT (fun z k => some (mapT (φP [y] 0) (mapT (φP [x] 0) z k) k)) t k :=
    mapT_comp _ _ _ 0 (fun m k _ => by rw [Int.add_zero]; rfl) (fun s m k _ => by rw [Int.add_zero]; rfl)
  have e2 : ∀ (t : Tm) (k : Int), 0 ≤ k → mapT (φP [mapT (φP [y] 0) x 0] 0) (mapT (φP [mapT (φL 1) y 0] 1) t k) (k + 0) = mapT (fun z k => some (mapT (φP [y] 0) (mapT (φP [x] 0) z k) k)) t k := by
    refine mapT_comp _ _ _ 0 (fun m k hk => ?_) (fun s m k _ => by rw [Int.add_zero]; rfl)
    show mapT (φP [mapT (φP [y] 0) x 0] 0) (mapT (φP [mapT (φL 1) y 0] 1) (.var m) k) (k + 0) = mapT (φP [y] 0) (mapT (φP [x] 0) (.var m) k) k
    rw [Int.add_zero, P_var1 (mapT (φL 1) y 0) 1 m k (by omega), P_var1 x 0 m k (Int.le_refl _)]
    by_cases q : m < k
    · rw [if_pos (by omega), if_pos (by omega), P_var1 _ _ _ _ (Int.le_refl _), if_pos (by omega), P_var1 _ _ _ _ (Int.le_refl _), if_pos (by omega)]
    · by_cases q2 : m = k
      · rw [if_pos (by omega), if_neg (by omega), if_pos (by omega), P_var1 _ _ _ _ (Int.le_refl _), if_neg (by omega), if_pos (by omega)]
        have := P_L y k hk x 0 (Int.le_refl _)
        rw [Int.zero_add] at this
        exact this.symm
      · by_cases q3 : m = k + 1
        · rw [if_neg (by omega), if_pos (by omega), if_neg (by omega), if_neg (by omega), P_var1 y _ _ _ (Int.le_refl _), if_neg (by omega), if_pos (by omega)]
          have h1 := LL (d := 1) (e := k) (by omega) 0 (Int.le_refl _) (by omega) y 0 (Int.le_refl _)
          rw [Int.add_zero] at h1
          rw [h1, Int.add_comm 1 k]
          have h2 := PL (mapT (φP [y] 0) x 0) k hk y 0 (Int.le_refl _)
          rw [Int.zero_add] at h2
          exact h2
        · rw [if_neg (by omega), if_neg (by omega), if_neg (by omega), if_neg (by omega), P_var1 _ _ _ _ (Int.le_refl _), if_neg (by omega), if_neg (by omega), P_var1 _ _ _ _ (Int.le_refl _), if_neg (by omega), if_neg (by omega)]
  have h1 := e1 t k hk
  have h2 := e2 t k hk
  rw [Int.add_zero] at h1 h2
  rw [h1, h2]
theorem all0 (t : Tm) (k : Int) : mapT (φP [] 0) t k = t := by
  refine mapT_id _ t k (fun m k' _ _ => ?_) (fun s m k => rfl)
  simp only [φP, List.length_nil]
  by_cases q : m - k' - 0 < 0
  · rw [if_pos q]; rfl
  · rw [if_neg q, if_neg (by omega)]; simp
theorem free_le {M : Int} : ∀ t : Tm, Bd M t → free t ≤ M + 1
  | .sort _, h => by have := h.1; have := h.2; simp only [free]; omega
  | .var _, h => by have := h.2; simp only [free]; omega
  | .con _ _, h => by have := h.1; have := h.2; simp only [free]; omega
  | .pi a b, h => by have := free_le a h.1; have := free_le b h.2; simp only [free]; omega
  | .lam a b, h => by have := free_le a h.1; have := free_le b h.2; simp only [free]; omega
  | .app a b, h => by have := free_le a h.1; have := free_le b h.2; simp only [free]; omega
  | .lett a b c, h => by have := free_le a h.1; have := free_le b h.2.1; have := free_le c h.2.2; simp only [free]; omega
theorem free_nonneg : ∀ t : Tm, Bd (2 ^ 61) t → 0 ≤ free t := fun t h => (free_bd t h).1
theorem free_L2 {d : Int} (hd : 0 ≤ d) : ∀ (t : Tm) (k : Int), 0 ≤ k → Bd (2 ^ 61) t → (k < free t → free (mapT (φL d) t k) = free t + d) ∧ (¬ k < free t → free (mapT (φL d) t k) = free t)
  | .sort _, k, hk, _ => ⟨fun h => absurd h (by show ¬ k < 0; omega), fun _ => rfl⟩
  | .con _ _, k, hk, _ => ⟨fun h => absurd h (by show ¬ k < 0; omega), fun _ => rfl⟩
  | .var m, k, hk, _ => by
    rw [L_var]
    by_cases q : m < k
    · rw [if_pos q]; exact ⟨fun h => absurd h (by show ¬ k < m + 1; omega), fun _ => rfl⟩
    · rw [if_neg q]; exact ⟨fun h => by show m + d + 1 = m + 1 + d; omega, fun h => absurd (show k < m + 1 by omega) h⟩
  | .pi a b, k, hk, hb => by
    have := free_L2 hd a (k) (by omega) hb.1; have := free_nonneg a hb.1
    have := free_L2 hd b (k + 1) (by omega) hb.2; have := free_nonneg b hb.2
    simp only [mapT, free]; omega
  | .lam a b, k, hk, hb => by
    have := free_L2 hd a (k) (by omega) hb.1; have := free_nonneg a hb.1
    have := free_L2 hd b (k + 1) (by omega) hb.2; have := free_nonneg b hb.2
    simp only [mapT, free]; omega
  | .app a b, k, hk, hb => by
    have := free_L2 hd a (k) (by omega) hb.1; have := free_nonneg a hb.1
    have := free_L2 hd b (k) (by omega) hb.2; have := free_nonneg b hb.2
    simp only [mapT, free]; omega
  | .lett a b c, k, hk, hb => by
    have := free_L2 hd a (k) (by omega) hb.1; have := free_nonneg a hb.1
    have := free_L2 hd b (k) (by omega) hb.2.1; have := free_nonneg b hb.2.1
    have := free_L2 hd c (k + 1) (by omega) hb.2.2; have := free_nonneg c hb.2.2
    simp only [mapT, free]; omega
theorem free_P {u : Tm} (hu : Bd (2 ^ 61) u) : ∀ (t : Tm) (k : Int), 0 ≤ k → free (mapT (φP [u] 0) t k) ≤ max (free t - 1) (free u + k)
  | .sort _, k, hk => by have := free_nonneg u hu; simp only [mapT, free]; omega
  | .con _ _, k, hk => by have := free_nonneg u hu; rw [show mapT (φP [u] 0) (.con _ _) k = .con _ _ from rfl]; simp only [free]; omega
  | .var m, k, hk => by
    have := free_nonneg u hu
    rw [P_var1 _ _ _ _ (Int.le_refl _)]
    by_cases q : m < k + 0
    · rw [if_pos q]; simp only [free]; omega
    · rw [if_neg q]
      by_cases q2 : m = k + 0
      · rw [if_pos q2]; have := free_L2 hk u 0 (Int.le_refl _) hu; simp only [free]; omega
      · rw [if_neg q2]; simp only [free]; omega
  | .pi a b, k, hk => by have := free_P hu a k hk; have := free_P hu b (k + 1) (by omega); simp only [mapT, free]; omega
  | .lam a b, k, hk => by have := free_P hu a k hk; have := free_P hu b (k + 1) (by omega); simp only [mapT, free]; omega
  | .app a b, k, hk => by have := free_P hu a k hk; have := free_P hu b k hk; simp only [mapT, free]; omega
  | .lett a b c, k, hk => by have := free_P hu a k hk; have := free_P hu b k hk; have := free_P hu c (k + 1) (by omega); simp only [mapT, free]; omega
theorem bd_L {M d : Int} (hd : 0 ≤ d) : ∀ (t : Tm) (k : Int), Bd M t → Bd (M + d) (mapT (φL d) t k)
  | .sort _, k, hb => Bd.mono (by omega) hb
  | .con _ _, k, hb => by rw [show mapT (φL d) (.con _ _) k = .con _ _ from rfl]; exact Bd.mono (by omega) hb
  | .var m, k, hb => by
    rw [L_var]
    simp only [Bd] at hb
    split
    · simp only [Bd]; omega
    · simp only [Bd]; omega
  | .pi a b, k, hb => ⟨bd_L hd a k hb.1, bd_L hd b (k + 1) hb.2⟩
  | .lam a b, k, hb => ⟨bd_L hd a k hb.1, bd_L hd b (k + 1) hb.2⟩
  | .app a b, k, hb => ⟨bd_L hd a k hb.1, bd_L hd b k hb.2⟩
  | .lett a b c, k, hb => ⟨bd_L hd a k hb.1, bd_L hd b k hb.2.1, bd_L hd c (k + 1) hb.2.2⟩
theorem ht_L {d : Int} : ∀ (t : Tm) (k : Int), ht (mapT (φL d) t k) = ht t
  | .sort _, k => rfl
  | .con _ _, k => rfl
  | .var m, k => by rw [L_var]; split <;> rfl
  | .pi a b, k => by simp only [mapT, ht, ht_L a, ht_L b]
  | .lam a b, k => by simp only [mapT, ht, ht_L a, ht_L b]
  | .app a b, k => by simp only [mapT, ht, ht_L a, ht_L b]
  | .lett a b c, k => by simp only [mapT, ht, ht_L a, ht_L b, ht_L c]
theorem bd_P {M : Int} {u : Tm} {a : Int} (ha : 0 ≤ a) (hu : Bd M u) : ∀ (t : Tm) (k : Int), 0 ≤ k → Bd M t → Bd (M + k + ht t) (mapT (φP [u] a) t k)
  | .sort _, k, hk, hb => Bd.mono (by simp only [ht]; omega) hb
  | .con _ _, k, hk, hb => by rw [show mapT (φP [u] a) (.con _ _) k = .con _ _ from rfl]; exact Bd.mono (by simp only [ht]; omega) hb
  | .var m, k, hk, hb => by
    rw [P_var1 _ _ _ _ ha]
    simp only [Bd] at hb
    simp only [ht]
    split
    · simp only [Bd]; omega
    · split
      · exact Bd.mono (by omega) (bd_L hk u 0 hu)
      · simp only [Bd]; omega
  | .pi x y, k, hk, hb => by have := ht_nonneg x; have := ht_nonneg y; exact ⟨Bd.mono (by simp only [ht]; omega) (bd_P ha hu x k hk hb.1), Bd.mono (by simp only [ht]; omega) (bd_P ha hu y (k + 1) (by omega) hb.2)⟩
  | .lam x y, k, hk, hb => by have := ht_nonneg x; have := ht_nonneg y; exact ⟨Bd.mono (by simp only [ht]; omega) (bd_P ha hu x k hk hb.1), Bd.mono (by simp only [ht]; omega) (bd_P ha hu y (k + 1) (by omega) hb.2)⟩
  | .app x y, k, hk, hb => by have := ht_nonneg x; have := ht_nonneg y; exact ⟨Bd.mono (by simp only [ht]; omega) (bd_P ha hu x k hk hb.1), Bd.mono (by simp only [ht]; omega) (bd_P ha hu y k hk hb.2)⟩
  | .lett x y z, k, hk, hb => by have := ht_nonneg x; have := ht_nonneg y; have := ht_nonneg z; exact ⟨Bd.mono (by simp only [ht]; omega) (bd_P ha hu x k hk hb.1), Bd.mono (by simp only [ht]; omega) (bd_P ha hu y k hk hb.2.1), Bd.mono (by simp only [ht]; omega) (bd_P ha hu z (k + 1) (by omega) hb.2.2)⟩
theorem ht_P {u : Tm} {a : Int} (ha : 0 ≤ a) : ∀ (t : Tm) (k : Int), ht (mapT (φP [u] a) t k) ≤ ht t + ht u
  | .sort _, k => by have := ht_nonneg u; simp only [mapT, ht]; omega
  | .con _ _, k => by have := ht_nonneg u; rw [show mapT (φP [u] a) (.con _ _) k = .con _ _ from rfl]; simp only [ht]; omega
  | .var m, k => by
    have := ht_nonneg u
    rw [P_var1 _ _ _ _ ha]
    split
    · simp only [ht]; omega
    · split
      · rw [ht_L]; simp only [ht]; omega
      · simp only [ht]; omega
  | .pi x y, k => by have := ht_P (u := u) ha x k; have := ht_P (u := u) ha y (k + 1); simp only [mapT, ht]; omega
  | .lam x y, k => by have := ht_P (u := u) ha x k; have := ht_P (u := u) ha y (k + 1); simp only [mapT, ht]; omega
  | .app x y, k => by have := ht_P (u := u) ha x k; have := ht_P (u := u) ha y k; simp only [mapT, ht]; omega
  | .lett x y z, k => by have := ht_P (u := u) ha x k; have := ht_P (u := u) ha y k; have := ht_P (u := u) ha z (k + 1); simp only [mapT, ht]; omega
end Go.Vd

namespace Go.Vd
open Go Go.RowKit Go.Proofs
set_option maxRecDepth 100000
set_option maxHeartbeats 0
def isT (r : OR) : Bool := match r with | .ok (.bool true) _ => true | _ => false
theorem isT_iff {r : OR} (h : isT r = true) : ∃ h', r = .ok (.bool true) h' := by
  unfold isT at h
  split at h
  · exact ⟨_, rfl⟩
  · cases h
theorem known_at (n : Nat) : isT (ev (n + 40) 8 [] ⟨0, .nil⟩) = true := by kernel_rfl
theorem binds_1 (cf : CallF) (n : Nat) (h h1 h2 : AHeap) (s t : AV) : (stepI Try.prog H1 fl0 5 cf n [s, t] h).Goes [.ok (.bool true) h1, .ok .nilp h2] (.ok (.bool true) h2) = (cf 8 [] h = .ok (.bool true) h1 ∧ cf 9 [s] h1 = .ok .nilp h2 ∧ OR.ok (.bool true) h2 = OR.ok (.bool true) h2) := by kernel_rfl
theorem binds_2 (cf : CallF) (n : Nat) (h h1 h2 h3 : AHeap) (s t : AV) (x : List AV) : (stepI Try.prog H1 fl0 5 cf n [s, t] h).Goes [.ok (.bool true) h1, .ok (.imm x 0) h2, .ok (.bool false) h3] (.ok (.bool true) h3) = (cf 8 [] h = .ok (.bool true) h1 ∧ cf 9 [s] h1 = .ok (.imm x 0) h2 ∧ cf 22 [t] h2 = .ok (.bool false) h3 ∧ OR.ok (.bool true) h3 = OR.ok (.bool true) h3) := by kernel_rfl
theorem binds_3 (cf : CallF) (n : Nat) (h h1 h2 h3 h4 h5 h6 h7 h8 h9 : AHeap) (s t : AV) (x b c d : List AV) (p q : Int) : (stepI Try.prog H1 (flL [(8, 9)]) 5 cf n [s, t] h).Goes [.ok (.bool true) h1, .ok (.imm x 0) h2, .ok (.bool true) h3, .ok (.imm b 0) h4, .ok (.imm c 0) h5, .ok (.imm d 0) h6, .ok (.bool true) h7, .ok (i64 p) h8, .ok (i64 q) h9, .ok (.bool true) h9] (.ok (.bool true) h9) =
  (cf 8 [] h = .ok (.bool true) h1 ∧ cf 9 [s] h1 = .ok (.imm x 0) h2 ∧ cf 22 [t] h2 = .ok (.bool true) h3 ∧ cf 17 [.imm x 0, t] h3 = .ok (.imm b 0) h4 ∧ cf 23 [t] h4 = .ok (.imm c 0) h5 ∧ cf 15 [.imm b 0, .imm c 0, i64 0] h5 = .ok (.imm d 0) h6 ∧ cf 12 [.imm d 0, .imm x 0] h6 = .ok (.bool true) h7 ∧ cf 21 [.imm b 0] h7 = .ok (i64 p) h8 ∧ cf 21 [.imm x 0] h8 = .ok (i64 q) h9 ∧
    OR.ok (.bool (!(ilt (wrapK .i64 (q + 1)) p))) h9 = .ok (.bool true) h9 ∧ OR.ok (.bool true) h9 = OR.ok (.bool true) h9) := by kernel_rfl
theorem ok_const (s : List Nat) : Ok 23 [.str s] (tw (.con s 0)) := ok_leaf fun n h => (by kernel_rfl : ev (n + 1) 23 [.str s] h = .ok (tw (.con s 0)) h)
/-- What help.Term tells of bytes: none, or a tree that is small. -/
def TermS (s : List Nat) : Prop := (∃ N, ∀ n, N ≤ n → ∀ h, ∃ h', ev n 9 [.str s] h = .ok .nilp h') ∨ ∃ t, Bd (2 ^ 30) t ∧ ht t ≤ 2 ^ 30 ∧ ∃ N, ∀ n, N ≤ n → ∀ h, ∃ h', ev n 9 [.str s] h = .ok (tw t) h'
def NameS : Prop := ∀ s : List Nat, ∃ b, Ok 22 [.str s] (.bool b)
open Classical in
theorem binds_ev (hN : NameS) (s nm : List Nat) (hT : TermS s) : ∃ N h', ev N 5 [.str s, .str nm] ⟨0, .nil⟩ = .ok (.bool true) h' := by
  have known : ∀ n, 40 ≤ n → ∃ h1, ev n 8 [] ⟨0, .nil⟩ = .ok (.bool true) h1 := fun n hn => by
    obtain ⟨m, rfl⟩ : ∃ m, n = m + 40 := ⟨n - 40, by omega⟩
    exact isT_iff (known_at m)
  rcases hT with ⟨N, k⟩ | ⟨t, hb, hh, N, k⟩
  · obtain ⟨h1, e1⟩ := known (N + 40) (by omega)
    obtain ⟨h2, e2⟩ := k (N + 40) (by omega) h1
    exact ⟨N + 41, h2, goes_call fl0 ((binds_1 (ev (N + 40)) (N + 40) _ h1 h2 (.str s) (.str nm)).mpr ⟨e1, e2, rfl⟩) (by simp)⟩
  · obtain ⟨b, N2, k2⟩ := hN nm
    cases b with
    | false =>
      obtain ⟨h1, e1⟩ := known (N + N2 + 40) (by omega)
      obtain ⟨h2, e2⟩ := k (N + N2 + 40) (by omega) h1
      exact ⟨N + N2 + 41, h2, goes_call fl0 ((binds_2 (ev (N + N2 + 40)) (N + N2 + 40) _ h1 h2 h2 (.str s) (.str nm) _).mpr ⟨e1, e2, k2 _ (by omega) h2, rfl⟩) (by simp)⟩
    | true =>
      have hb61 : Bd (2 ^ 61) t := Bd.mono (by omega) hb
      have hb' := bd_bind (M := 2 ^ 31) nm t 0 (by omega) (by omega) (Bd.mono (by omega) hb)
      obtain ⟨N3, k3⟩ := okx_bind nm t hb61 (by omega)
      obtain ⟨N4, k4⟩ := ok_const nm
      obtain ⟨N5, k5⟩ := okx_put (mapT (φB nm) t 0) (.con nm 0) (a := 0) (by omega) (by omega) (Bd.mono (by omega) hb') (by rw [ht_bind]; omega) (by simp [Bd]) (by simp [ht])
      rw [put_bind nm t 0 (by omega)] at k5
      obtain ⟨N6, k6⟩ := ok_same t t
      obtain ⟨N7, k7⟩ := ok_free (mapT (φB nm) t 0) (Bd.mono (by omega) hb')
      obtain ⟨N8, k8⟩ := ok_free t hb61
      let n := N + N2 + N3 + N4 + N5 + N6 + N7 + N8 + 40
      have hn : n = N + N2 + N3 + N4 + N5 + N6 + N7 + N8 + 40 := rfl
      obtain ⟨h1, e1⟩ := known n (by omega)
      obtain ⟨h2, e2⟩ := k n (by omega) h1
      obtain ⟨h4, e4, _⟩ := k3 n (by omega) h2
      obtain ⟨h6, e6, _⟩ := k5 n (by omega) h4
      have fb := free_bind nm t 0 (by omega)
      have f1 := free_bd t hb61
      refine ⟨n + 1, h6, goes_call (flL [(8, 9)]) ((binds_3 (ev n) n _ h1 h2 h2 h4 h4 h6 h6 h6 h6 (.str s) (.str nm) _ _ _ _ _ _).mpr ⟨e1, e2, k2 n (by omega) h2, e4, k4 n (by omega) h4, e6, ?_, k7 n (by omega) h6, k8 n (by omega) h6, ?_, rfl⟩) (by simp)⟩
      · have := k6 n (by omega) h6
        rw [decide_eq_true rfl] at this
        exact this
      · rw [wrap_id (by omega) (by omega), ilt_eq]
        simp; omega
end Go.Vd

namespace Go.Vd
open Go Go.RowKit
/-- A loop that ends in the round with the number m. -/
theorem loopR_at (a : PT AV → AHeap → Res) (G : Nat → PT AV) (Hh : Nat → AHeap) (m : Nat) (hr : ∀ i, i < m → a (G i) (Hh i) = .ok .normal (G (i + 1)) (Hh (i + 1))) {e : Ex} {g' : PT AV} {h' : AHeap} (he : e ≠ .normal)
    (hl : a (G m) (Hh m) = .ok e g' h') : ∀ (j k : Nat), j ≤ m → m - j < k → loopR a k (G j) (Hh j) = .ok e g' h' := by
  intro j k
  induction k generalizing j with
  | zero => intro _ h; omega
  | succ k ih =>
    intro hj hk
    have e1 : loopR a (k + 1) (G j) (Hh j) = match a (G j) (Hh j) with
      | .ok .normal g h => loopR a k g h
      | r => r := rfl
    rw [e1]
    by_cases q : j = m
    · subst q
      rw [hl]
      cases e <;> first | (exact absurd rfl he) | rfl
    · rw [hr j (by omega)]
      exact ih (j + 1) (by omega) (by omega)
/-- A body's round, by what it asks. -/
theorem body_goes {P : Program} {H : Hints} {f : Nat} (fl : Nat → Nat → Bool) {isG : Nat → Bool} {sz : Nat} {c : Code} {cf : CallF} {n : Nat} {g : PT AV} {h : AHeap} {s : List Ans} {r : Res} (hg : (compCodeI P H f fl isG sz c cf n g h).Goes s r) :
    compCode P H f isG sz c cf n g h = r := by rw [← compCodeI_rel (fl := fl) c]; exact hg.run
end Go.Vd
