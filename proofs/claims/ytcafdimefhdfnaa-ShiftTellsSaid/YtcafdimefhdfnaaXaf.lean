/-
  ShiftTells: whatever the input, the law returns true; no condition. Proved by an abstract evaluator of loaded code that is sound for every program, and by what each function of this seat does on trees.

-/
import Derived.Test.YtcafdimefhdfnaaXae
namespace Go.Vd
open Go Go.RowKit Go.Proofs
/-- The first loop's body in code. -/
def loopIn : Code → Option Code
  | .loop c => some c
  | .seq a b => match loopIn a with | some c => some c | none => loopIn b
  | .cond _ a b => match loopIn a with | some c => some c | none => loopIn b
  | .block _ c => loopIn c
  | _ => none
noncomputable section
/-- The body of function f's first loop, run. -/
def bodyRun (P : Program) (H : Hints) (f : Nat) : Run :=
  match P.funcs[f]? with
  | some fn => match fn.body with
    | some c => match mapO (resultTmp P) fn.results.toList, loopIn c with
      | some rs, some b => compCode P H f (fun t => (globsOf c ++ rs.map (·.1)).contains t) fn.ntmps b
      | _, _ => cBad
    | none => cBad
  | none => cBad
/-- The same, asking. -/
def bodyI (P : Program) (H : Hints) (fl : Nat → Nat → Bool) (f : Nat) : RunI :=
  match P.funcs[f]? with
  | some fn => match fn.body with
    | some c => match mapO (resultTmp P) fn.results.toList, loopIn c with
      | some rs, some b => compCodeI P H f fl (fun t => (globsOf c ++ rs.map (·.1)).contains t) fn.ntmps b
      | _, _ => cOf cBad
    | none => cOf cBad
  | none => cOf cBad
end
theorem goes_body {P : Program} {H : Hints} {fl : Nat → Nat → Bool} {f : Nat} {cf : CallF} {n : Nat} {g : PT AV} {h : AHeap} {s : List Ans} {r : Res} (hg : (bodyI P H fl f cf n g h).Goes s r) : bodyRun P H f cf n g h = r := by
  unfold bodyI at hg
  unfold bodyRun
  cases h1 : P.funcs[f]? with
  | none => rw [h1] at hg; exact hg.run
  | some fn =>
    rw [h1] at hg
    simp only at hg ⊢
    cases h2 : fn.body with
    | none => rw [h2] at hg; exact hg.run
    | some c =>
      rw [h2] at hg
      simp only at hg ⊢
      rcases h3 : mapO (resultTmp P) fn.results.toList with _ | rs <;> rcases h4 : loopIn c with _ | b <;> rw [h3, h4] at hg <;> simp only at hg ⊢
      · exact hg.run
      · exact hg.run
      · exact hg.run
      · exact body_goes fl hg
/-- A loop by what holds at each round's head. -/
theorem loop_inv (a : PT AV → AHeap → Res) (I : Nat → PT AV → AHeap → Prop) (Q : Res → Prop) (m : Nat) (hm : ∀ i g h, I i g h → i ≤ m)
    (hs : ∀ i g h, I i g h → (∃ g' h', a g h = .ok .normal g' h' ∧ I (i + 1) g' h') ∨ (∃ e g' h', a g h = .ok e g' h' ∧ e ≠ .normal ∧ Q (.ok e g' h'))) :
    ∀ (k i : Nat) (g : PT AV) (h : AHeap), I i g h → m - i < k → ∃ e g' h', loopR a k g h = .ok e g' h' ∧ Q (.ok e g' h') := by
  intro k
  induction k with
  | zero => intro i g h _ hk; omega
  | succ k ih =>
    intro i g h hI hk
    have e1 : loopR a (k + 1) g h = match a g h with
      | .ok .normal g h => loopR a k g h
      | r => r := rfl
    rw [e1]
    rcases hs i g h hI with ⟨g', h', e, hI'⟩ | ⟨e, g', h', e2, he, hq⟩
    · rw [e]
      exact ih (i + 1) g' h' hI' (by have := hm _ _ _ hI'; omega)
    · rw [e2]
      cases e <;> first | (exact absurd rfl he) | exact ⟨_, _, _, rfl, hq⟩
theorem cLoop_at (a : Run) (cf : CallF) (n : Nat) (g : PT AV) (h : AHeap) : cLoop a cf n g h = loopR (a cf n) n g h := rfl
end Go.Vd

namespace Go.Vd
open Go Go.RowKit Go.Proofs
set_option maxRecDepth 100000
set_option maxHeartbeats 0
/-- IsName's frames. -/
abbrev frN0 (s : List Nat) (r : Bool) (i : Int) (_ _ _ _ : Bool) : PT AV := (.node (some (.str s)) (.node none (.node (some (i64 i)) .nil (.node none (.node (some (.bool false)) .nil .nil) .nil)) .nil) (.node (some (.bool r)) .nil .nil))
abbrev frN1 (s : List Nat) (r : Bool) (i : Int) (w x y _ : Bool) : PT AV := (.node (some (.str s)) (.node none (.node (some (i64 i)) (.node none .nil (.node (some (.bool w)) (.node (some (.bool y)) .nil .nil) .nil)) (.node none (.node (some (.bool false)) .nil .nil) .nil)) .nil) (.node (some (.bool r)) .nil (.node none (.node none (.node none (.node (some (.bool x)) .nil .nil) .nil) .nil) .nil)))
abbrev frN3 (s : List Nat) (r : Bool) (i : Int) (w x y z : Bool) : PT AV := (.node (some (.str s)) (.node none (.node (some (i64 i)) (.node none .nil (.node (some (.bool w)) (.node (some (.bool y)) .nil .nil) .nil)) (.node none (.node (some (.bool false)) .nil .nil) .nil)) .nil) (.node (some (.bool r)) .nil (.node none (.node none (.node none (.node (some (.bool x)) .nil .nil) (.node (some (.bool z)) .nil .nil)) .nil) .nil)))
theorem nm_1 (cf : CallF) (n : Nat) (h : AHeap) (s : List Nat)  : (stepI Try.prog H1 (flL [(1, 2), (1, 6), (1, 13), (1, 14)]) 22 cf n [.str s] h).Goes [.ok (.bool true) h] (.ok (.bool false) h) =
  (OR.ok (.bool (ilt (Int.ofNat (llen s)) 1)) h = .ok (.bool true) h ∧ (.ok (.bool false) h : OR) = (.ok (.bool false) h)) := by kernel_rfl
theorem nm_2 (cf : CallF) (n : Nat) (h : AHeap) (s : List Nat)  : (stepI Try.prog H1 (flL [(1, 2), (1, 6), (1, 13), (1, 14)]) 22 cf n [.str s] h).Goes [.ok (.bool false) h, .ok (.bool true) h] (.ok (.bool false) h) =
  (OR.ok (.bool (ilt (Int.ofNat (llen s)) 1)) h = .ok (.bool false) h ∧ OR.ok (.bool (ilt 24 (Int.ofNat (llen s)))) h = .ok (.bool true) h ∧ (.ok (.bool false) h : OR) = (.ok (.bool false) h)) := by kernel_rfl
theorem nm_3 (cf : CallF) (n : Nat) (h : AHeap) (s : List Nat) (c : Int) : (stepI Try.prog H1 (flL [(1, 2), (1, 6), (1, 13), (1, 14)]) 22 cf n [.str s] h).Goes [.ok (.bool false) h, .ok (.bool false) h, .ok (.int .u8 c) h, .ok (.bool true) h] (.ok (.bool false) h) =
  (OR.ok (.bool (ilt (Int.ofNat (llen s)) 1)) h = .ok (.bool false) h ∧ OR.ok (.bool (ilt 24 (Int.ofNat (llen s)))) h = .ok (.bool false) h ∧ oSidx (xC (.str s)) (xC (i64 (wrapK .i64 (Int.ofNat (llen s) - 1)))) cf .nil [] h = .ok (.int .u8 c) h ∧ OR.ok (.bool (ieq c 46)) h = .ok (.bool true) h ∧ (.ok (.bool false) h : OR) = (.ok (.bool false) h)) := by kernel_rfl
theorem nm_41 (cf : CallF) (n : Nat) (h h2 : AHeap) (s : List Nat) (c : Int) (r : Bool) (i : Int) (w x y z : Bool)  : (stepI Try.prog H1 (flL [(1, 2), (1, 6), (1, 13), (1, 14)]) 22 cf n [.str s] h).Goes [.ok (.bool false) h, .ok (.bool false) h, .ok (.int .u8 c) h, .ok (.bool false) h, .res (.ok .ret (frN1 s r i w x y z) h2)] (.ok (.bool r) h2) =
  (OR.ok (.bool (ilt (Int.ofNat (llen s)) 1)) h = .ok (.bool false) h ∧ OR.ok (.bool (ilt 24 (Int.ofNat (llen s)))) h = .ok (.bool false) h ∧ oSidx (xC (.str s)) (xC (i64 (wrapK .i64 (Int.ofNat (llen s) - 1)))) cf .nil [] h = .ok (.int .u8 c) h ∧ OR.ok (.bool (ieq c 46)) h = .ok (.bool false) h ∧ cLoop (bodyRun Try.prog H1 22) cf n (frN0 s false 0 false false false false) h = .ok .ret (frN1 s r i w x y z) h2 ∧ (.ok (.bool r) h2 : OR) = (.ok (.bool r) h2)) := by kernel_rfl
theorem nm_51 (cf : CallF) (n : Nat) (h h2 : AHeap) (s : List Nat) (c : Int) (r : Bool) (i : Int) (w x y z : Bool)  : (stepI Try.prog H1 (flL [(1, 2), (1, 6), (1, 13), (1, 14)]) 22 cf n [.str s] h).Goes [.ok (.bool false) h, .ok (.bool false) h, .ok (.int .u8 c) h, .ok (.bool false) h, .res (.ok (.exit 0) (frN1 s r i w x y z) h2)] (.ok (.bool true) h2) =
  (OR.ok (.bool (ilt (Int.ofNat (llen s)) 1)) h = .ok (.bool false) h ∧ OR.ok (.bool (ilt 24 (Int.ofNat (llen s)))) h = .ok (.bool false) h ∧ oSidx (xC (.str s)) (xC (i64 (wrapK .i64 (Int.ofNat (llen s) - 1)))) cf .nil [] h = .ok (.int .u8 c) h ∧ OR.ok (.bool (ieq c 46)) h = .ok (.bool false) h ∧ cLoop (bodyRun Try.prog H1 22) cf n (frN0 s false 0 false false false false) h = .ok (.exit 0) (frN1 s r i w x y z) h2 ∧ (.ok (.bool true) h2 : OR) = (.ok (.bool true) h2)) := by kernel_rfl
theorem nm_43 (cf : CallF) (n : Nat) (h h2 : AHeap) (s : List Nat) (c : Int) (r : Bool) (i : Int) (w x y z : Bool)  : (stepI Try.prog H1 (flL [(1, 2), (1, 6), (1, 13), (1, 14)]) 22 cf n [.str s] h).Goes [.ok (.bool false) h, .ok (.bool false) h, .ok (.int .u8 c) h, .ok (.bool false) h, .res (.ok .ret (frN3 s r i w x y z) h2)] (.ok (.bool r) h2) =
  (OR.ok (.bool (ilt (Int.ofNat (llen s)) 1)) h = .ok (.bool false) h ∧ OR.ok (.bool (ilt 24 (Int.ofNat (llen s)))) h = .ok (.bool false) h ∧ oSidx (xC (.str s)) (xC (i64 (wrapK .i64 (Int.ofNat (llen s) - 1)))) cf .nil [] h = .ok (.int .u8 c) h ∧ OR.ok (.bool (ieq c 46)) h = .ok (.bool false) h ∧ cLoop (bodyRun Try.prog H1 22) cf n (frN0 s false 0 false false false false) h = .ok .ret (frN3 s r i w x y z) h2 ∧ (.ok (.bool r) h2 : OR) = (.ok (.bool r) h2)) := by kernel_rfl
theorem nm_53 (cf : CallF) (n : Nat) (h h2 : AHeap) (s : List Nat) (c : Int) (r : Bool) (i : Int) (w x y z : Bool)  : (stepI Try.prog H1 (flL [(1, 2), (1, 6), (1, 13), (1, 14)]) 22 cf n [.str s] h).Goes [.ok (.bool false) h, .ok (.bool false) h, .ok (.int .u8 c) h, .ok (.bool false) h, .res (.ok (.exit 0) (frN3 s r i w x y z) h2)] (.ok (.bool true) h2) =
  (OR.ok (.bool (ilt (Int.ofNat (llen s)) 1)) h = .ok (.bool false) h ∧ OR.ok (.bool (ilt 24 (Int.ofNat (llen s)))) h = .ok (.bool false) h ∧ oSidx (xC (.str s)) (xC (i64 (wrapK .i64 (Int.ofNat (llen s) - 1)))) cf .nil [] h = .ok (.int .u8 c) h ∧ OR.ok (.bool (ieq c 46)) h = .ok (.bool false) h ∧ cLoop (bodyRun Try.prog H1 22) cf n (frN0 s false 0 false false false false) h = .ok (.exit 0) (frN3 s r i w x y z) h2 ∧ (.ok (.bool true) h2 : OR) = (.ok (.bool true) h2)) := by kernel_rfl
theorem nb_10 (cf : CallF) (n : Nat) (h : AHeap) (s : List Nat) (r : Bool) (i : Int) (w x y z : Bool) (c : Int) : (bodyI Try.prog H1 (flL [(4, 3), (6, 1), (6, 6), (6, 7), (7, 2), (9, 2), (9, 3), (9, 7)]) 22 cf n (frN0 s r i w x y z) h).Goes [.ok (.bool true) h, .ok (.bool true) h, .ok (.int .u8 c) h, .ok (.bool false) h] (.ok .ret (frN1 s false i true true true z) h) =
  (OR.ok (.bool (ilt i (Int.ofNat (llen s)))) h = .ok (.bool true) h ∧ OR.ok (.bool (ieq i 0)) h = .ok (.bool true) h ∧ oSidx (xC (.str s)) (xC (i64 i)) cf .nil [] h = .ok (.int .u8 c) h ∧ cf 40 [.int .u8 c] h = .ok (.bool false) h ∧ (.ok .ret (frN1 s false i true true true z) h : Res) = (.ok .ret (frN1 s false i true true true z) h)) := by kernel_rfl
theorem nb_20 (cf : CallF) (n : Nat) (h : AHeap) (s : List Nat) (r : Bool) (i : Int) (w x y z : Bool) (c : Int) : (bodyI Try.prog H1 (flL [(4, 3), (6, 1), (6, 6), (6, 7), (7, 2), (9, 2), (9, 3), (9, 7)]) 22 cf n (frN0 s r i w x y z) h).Goes [.ok (.bool true) h, .ok (.bool true) h, .ok (.int .u8 c) h, .ok (.bool true) h] (.ok .normal (frN1 s r (wrapK .i64 (i + 1)) true true false z) h) =
  (OR.ok (.bool (ilt i (Int.ofNat (llen s)))) h = .ok (.bool true) h ∧ OR.ok (.bool (ieq i 0)) h = .ok (.bool true) h ∧ oSidx (xC (.str s)) (xC (i64 i)) cf .nil [] h = .ok (.int .u8 c) h ∧ cf 40 [.int .u8 c] h = .ok (.bool true) h ∧ (.ok .normal (frN1 s r (wrapK .i64 (i + 1)) true true false z) h : Res) = (.ok .normal (frN1 s r (wrapK .i64 (i + 1)) true true false z) h)) := by kernel_rfl
theorem nb_01 (cf : CallF) (n : Nat) (h : AHeap) (s : List Nat) (r : Bool) (i : Int) (w x y z : Bool)  : (bodyI Try.prog H1 (flL [(4, 3), (6, 1), (6, 6), (6, 7), (7, 2), (9, 2), (9, 3), (9, 7)]) 22 cf n (frN1 s r i w x y z) h).Goes [.ok (.bool false) h] (.ok (.exit 0) (frN1 s r i false x y z) h) =
  (OR.ok (.bool (ilt i (Int.ofNat (llen s)))) h = .ok (.bool false) h ∧ (.ok (.exit 0) (frN1 s r i false x y z) h : Res) = (.ok (.exit 0) (frN1 s r i false x y z) h)) := by kernel_rfl
theorem nb_11 (cf : CallF) (n : Nat) (h : AHeap) (s : List Nat) (r : Bool) (i : Int) (w x y z : Bool) (c : Int) : (bodyI Try.prog H1 (flL [(4, 3), (6, 1), (6, 6), (6, 7), (7, 2), (9, 2), (9, 3), (9, 7)]) 22 cf n (frN1 s r i w x y z) h).Goes [.ok (.bool true) h, .ok (.bool true) h, .ok (.int .u8 c) h, .ok (.bool false) h] (.ok .ret (frN1 s false i true true true z) h) =
  (OR.ok (.bool (ilt i (Int.ofNat (llen s)))) h = .ok (.bool true) h ∧ OR.ok (.bool (ieq i 0)) h = .ok (.bool true) h ∧ oSidx (xC (.str s)) (xC (i64 i)) cf .nil [] h = .ok (.int .u8 c) h ∧ cf 40 [.int .u8 c] h = .ok (.bool false) h ∧ (.ok .ret (frN1 s false i true true true z) h : Res) = (.ok .ret (frN1 s false i true true true z) h)) := by kernel_rfl
theorem nb_21 (cf : CallF) (n : Nat) (h : AHeap) (s : List Nat) (r : Bool) (i : Int) (w x y z : Bool) (c : Int) : (bodyI Try.prog H1 (flL [(4, 3), (6, 1), (6, 6), (6, 7), (7, 2), (9, 2), (9, 3), (9, 7)]) 22 cf n (frN1 s r i w x y z) h).Goes [.ok (.bool true) h, .ok (.bool true) h, .ok (.int .u8 c) h, .ok (.bool true) h] (.ok .normal (frN1 s r (wrapK .i64 (i + 1)) true true false z) h) =
  (OR.ok (.bool (ilt i (Int.ofNat (llen s)))) h = .ok (.bool true) h ∧ OR.ok (.bool (ieq i 0)) h = .ok (.bool true) h ∧ oSidx (xC (.str s)) (xC (i64 i)) cf .nil [] h = .ok (.int .u8 c) h ∧ cf 40 [.int .u8 c] h = .ok (.bool true) h ∧ (.ok .normal (frN1 s r (wrapK .i64 (i + 1)) true true false z) h : Res) = (.ok .normal (frN1 s r (wrapK .i64 (i + 1)) true true false z) h)) := by kernel_rfl
theorem nb_31 (cf : CallF) (n : Nat) (h : AHeap) (s : List Nat) (r : Bool) (i : Int) (w x y z : Bool) (c c0 : Int) : (bodyI Try.prog H1 (flL [(4, 3), (6, 1), (6, 6), (6, 7), (7, 2), (9, 2), (9, 3), (9, 7)]) 22 cf n (frN1 s r i w x y z) h).Goes [.ok (.bool true) h, .ok (.bool false) h, .ok (.int .u8 c0) h, .ok (.bool true) h, .ok (.int .u8 c) h, .ok (.bool false) h] (.ok .ret (frN1 s false i true true true z) h) =
  (OR.ok (.bool (ilt i (Int.ofNat (llen s)))) h = .ok (.bool true) h ∧ OR.ok (.bool (ieq i 0)) h = .ok (.bool false) h ∧ oSidx (xC (.str s)) (xC (i64 (wrapK .i64 (i - 1)))) cf .nil [] h = .ok (.int .u8 c0) h ∧ OR.ok (.bool (ieq c0 46)) h = .ok (.bool true) h ∧ oSidx (xC (.str s)) (xC (i64 i)) cf .nil [] h = .ok (.int .u8 c) h ∧ cf 40 [.int .u8 c] h = .ok (.bool false) h ∧ (.ok .ret (frN1 s false i true true true z) h : Res) = (.ok .ret (frN1 s false i true true true z) h)) := by kernel_rfl
theorem nb_41 (cf : CallF) (n : Nat) (h : AHeap) (s : List Nat) (r : Bool) (i : Int) (w x y z : Bool) (c c0 : Int) : (bodyI Try.prog H1 (flL [(4, 3), (6, 1), (6, 6), (6, 7), (7, 2), (9, 2), (9, 3), (9, 7)]) 22 cf n (frN1 s r i w x y z) h).Goes [.ok (.bool true) h, .ok (.bool false) h, .ok (.int .u8 c0) h, .ok (.bool true) h, .ok (.int .u8 c) h, .ok (.bool true) h] (.ok .normal (frN1 s r (wrapK .i64 (i + 1)) true true false z) h) =
  (OR.ok (.bool (ilt i (Int.ofNat (llen s)))) h = .ok (.bool true) h ∧ OR.ok (.bool (ieq i 0)) h = .ok (.bool false) h ∧ oSidx (xC (.str s)) (xC (i64 (wrapK .i64 (i - 1)))) cf .nil [] h = .ok (.int .u8 c0) h ∧ OR.ok (.bool (ieq c0 46)) h = .ok (.bool true) h ∧ oSidx (xC (.str s)) (xC (i64 i)) cf .nil [] h = .ok (.int .u8 c) h ∧ cf 40 [.int .u8 c] h = .ok (.bool true) h ∧ (.ok .normal (frN1 s r (wrapK .i64 (i + 1)) true true false z) h : Res) = (.ok .normal (frN1 s r (wrapK .i64 (i + 1)) true true false z) h)) := by kernel_rfl
theorem nb_51 (cf : CallF) (n : Nat) (h : AHeap) (s : List Nat) (r : Bool) (i : Int) (w x y z : Bool) (c c0 : Int) : (bodyI Try.prog H1 (flL [(4, 3), (6, 1), (6, 6), (6, 7), (7, 2), (9, 2), (9, 3), (9, 7)]) 22 cf n (frN1 s r i w x y z) h).Goes [.ok (.bool true) h, .ok (.bool false) h, .ok (.int .u8 c0) h, .ok (.bool false) h, .ok (.int .u8 c) h, .ok (.bool false) h] (.ok .normal (frN3 s r (wrapK .i64 (i + 1)) true false y false) h) =
  (OR.ok (.bool (ilt i (Int.ofNat (llen s)))) h = .ok (.bool true) h ∧ OR.ok (.bool (ieq i 0)) h = .ok (.bool false) h ∧ oSidx (xC (.str s)) (xC (i64 (wrapK .i64 (i - 1)))) cf .nil [] h = .ok (.int .u8 c0) h ∧ OR.ok (.bool (ieq c0 46)) h = .ok (.bool false) h ∧ oSidx (xC (.str s)) (xC (i64 i)) cf .nil [] h = .ok (.int .u8 c) h ∧ OR.ok (.bool (!(ieq c 46))) h = .ok (.bool false) h ∧ (.ok .normal (frN3 s r (wrapK .i64 (i + 1)) true false y false) h : Res) = (.ok .normal (frN3 s r (wrapK .i64 (i + 1)) true false y false) h)) := by kernel_rfl
theorem nb_61 (cf : CallF) (n : Nat) (h : AHeap) (s : List Nat) (r : Bool) (i : Int) (w x y z : Bool) (c c0 : Int) : (bodyI Try.prog H1 (flL [(4, 3), (6, 1), (6, 6), (6, 7), (7, 2), (9, 2), (9, 3), (9, 7)]) 22 cf n (frN1 s r i w x y z) h).Goes [.ok (.bool true) h, .ok (.bool false) h, .ok (.int .u8 c0) h, .ok (.bool false) h, .ok (.int .u8 c) h, .ok (.bool true) h, .ok (.int .u8 c) h, .ok (.bool true) h] (.ok .normal (frN3 s r (wrapK .i64 (i + 1)) true false y false) h) =
  (OR.ok (.bool (ilt i (Int.ofNat (llen s)))) h = .ok (.bool true) h ∧ OR.ok (.bool (ieq i 0)) h = .ok (.bool false) h ∧ oSidx (xC (.str s)) (xC (i64 (wrapK .i64 (i - 1)))) cf .nil [] h = .ok (.int .u8 c0) h ∧ OR.ok (.bool (ieq c0 46)) h = .ok (.bool false) h ∧ oSidx (xC (.str s)) (xC (i64 i)) cf .nil [] h = .ok (.int .u8 c) h ∧ OR.ok (.bool (!(ieq c 46))) h = .ok (.bool true) h ∧ oSidx (xC (.str s)) (xC (i64 i)) cf .nil [] h = .ok (.int .u8 c) h ∧ cf 41 [.int .u8 c] h = .ok (.bool true) h ∧ (.ok .normal (frN3 s r (wrapK .i64 (i + 1)) true false y false) h : Res) = (.ok .normal (frN3 s r (wrapK .i64 (i + 1)) true false y false) h)) := by kernel_rfl
theorem nb_71 (cf : CallF) (n : Nat) (h : AHeap) (s : List Nat) (r : Bool) (i : Int) (w x y z : Bool) (c c0 : Int) : (bodyI Try.prog H1 (flL [(4, 3), (6, 1), (6, 6), (6, 7), (7, 2), (9, 2), (9, 3), (9, 7)]) 22 cf n (frN1 s r i w x y z) h).Goes [.ok (.bool true) h, .ok (.bool false) h, .ok (.int .u8 c0) h, .ok (.bool false) h, .ok (.int .u8 c) h, .ok (.bool true) h, .ok (.int .u8 c) h, .ok (.bool false) h] (.ok .ret (frN3 s false i true false y true) h) =
  (OR.ok (.bool (ilt i (Int.ofNat (llen s)))) h = .ok (.bool true) h ∧ OR.ok (.bool (ieq i 0)) h = .ok (.bool false) h ∧ oSidx (xC (.str s)) (xC (i64 (wrapK .i64 (i - 1)))) cf .nil [] h = .ok (.int .u8 c0) h ∧ OR.ok (.bool (ieq c0 46)) h = .ok (.bool false) h ∧ oSidx (xC (.str s)) (xC (i64 i)) cf .nil [] h = .ok (.int .u8 c) h ∧ OR.ok (.bool (!(ieq c 46))) h = .ok (.bool true) h ∧ oSidx (xC (.str s)) (xC (i64 i)) cf .nil [] h = .ok (.int .u8 c) h ∧ cf 41 [.int .u8 c] h = .ok (.bool false) h ∧ (.ok .ret (frN3 s false i true false y true) h : Res) = (.ok .ret (frN3 s false i true false y true) h)) := by kernel_rfl
theorem nb_03 (cf : CallF) (n : Nat) (h : AHeap) (s : List Nat) (r : Bool) (i : Int) (w x y z : Bool)  : (bodyI Try.prog H1 (flL [(4, 3), (6, 1), (6, 6), (6, 7), (7, 2), (9, 2), (9, 3), (9, 7)]) 22 cf n (frN3 s r i w x y z) h).Goes [.ok (.bool false) h] (.ok (.exit 0) (frN3 s r i false x y z) h) =
  (OR.ok (.bool (ilt i (Int.ofNat (llen s)))) h = .ok (.bool false) h ∧ (.ok (.exit 0) (frN3 s r i false x y z) h : Res) = (.ok (.exit 0) (frN3 s r i false x y z) h)) := by kernel_rfl
theorem nb_13 (cf : CallF) (n : Nat) (h : AHeap) (s : List Nat) (r : Bool) (i : Int) (w x y z : Bool) (c : Int) : (bodyI Try.prog H1 (flL [(4, 3), (6, 1), (6, 6), (6, 7), (7, 2), (9, 2), (9, 3), (9, 7)]) 22 cf n (frN3 s r i w x y z) h).Goes [.ok (.bool true) h, .ok (.bool true) h, .ok (.int .u8 c) h, .ok (.bool false) h] (.ok .ret (frN3 s false i true true true z) h) =
  (OR.ok (.bool (ilt i (Int.ofNat (llen s)))) h = .ok (.bool true) h ∧ OR.ok (.bool (ieq i 0)) h = .ok (.bool true) h ∧ oSidx (xC (.str s)) (xC (i64 i)) cf .nil [] h = .ok (.int .u8 c) h ∧ cf 40 [.int .u8 c] h = .ok (.bool false) h ∧ (.ok .ret (frN3 s false i true true true z) h : Res) = (.ok .ret (frN3 s false i true true true z) h)) := by kernel_rfl
theorem nb_23 (cf : CallF) (n : Nat) (h : AHeap) (s : List Nat) (r : Bool) (i : Int) (w x y z : Bool) (c : Int) : (bodyI Try.prog H1 (flL [(4, 3), (6, 1), (6, 6), (6, 7), (7, 2), (9, 2), (9, 3), (9, 7)]) 22 cf n (frN3 s r i w x y z) h).Goes [.ok (.bool true) h, .ok (.bool true) h, .ok (.int .u8 c) h, .ok (.bool true) h] (.ok .normal (frN3 s r (wrapK .i64 (i + 1)) true true false z) h) =
  (OR.ok (.bool (ilt i (Int.ofNat (llen s)))) h = .ok (.bool true) h ∧ OR.ok (.bool (ieq i 0)) h = .ok (.bool true) h ∧ oSidx (xC (.str s)) (xC (i64 i)) cf .nil [] h = .ok (.int .u8 c) h ∧ cf 40 [.int .u8 c] h = .ok (.bool true) h ∧ (.ok .normal (frN3 s r (wrapK .i64 (i + 1)) true true false z) h : Res) = (.ok .normal (frN3 s r (wrapK .i64 (i + 1)) true true false z) h)) := by kernel_rfl
theorem nb_33 (cf : CallF) (n : Nat) (h : AHeap) (s : List Nat) (r : Bool) (i : Int) (w x y z : Bool) (c c0 : Int) : (bodyI Try.prog H1 (flL [(4, 3), (6, 1), (6, 6), (6, 7), (7, 2), (9, 2), (9, 3), (9, 7)]) 22 cf n (frN3 s r i w x y z) h).Goes [.ok (.bool true) h, .ok (.bool false) h, .ok (.int .u8 c0) h, .ok (.bool true) h, .ok (.int .u8 c) h, .ok (.bool false) h] (.ok .ret (frN3 s false i true true true z) h) =
  (OR.ok (.bool (ilt i (Int.ofNat (llen s)))) h = .ok (.bool true) h ∧ OR.ok (.bool (ieq i 0)) h = .ok (.bool false) h ∧ oSidx (xC (.str s)) (xC (i64 (wrapK .i64 (i - 1)))) cf .nil [] h = .ok (.int .u8 c0) h ∧ OR.ok (.bool (ieq c0 46)) h = .ok (.bool true) h ∧ oSidx (xC (.str s)) (xC (i64 i)) cf .nil [] h = .ok (.int .u8 c) h ∧ cf 40 [.int .u8 c] h = .ok (.bool false) h ∧ (.ok .ret (frN3 s false i true true true z) h : Res) = (.ok .ret (frN3 s false i true true true z) h)) := by kernel_rfl
theorem nb_43 (cf : CallF) (n : Nat) (h : AHeap) (s : List Nat) (r : Bool) (i : Int) (w x y z : Bool) (c c0 : Int) : (bodyI Try.prog H1 (flL [(4, 3), (6, 1), (6, 6), (6, 7), (7, 2), (9, 2), (9, 3), (9, 7)]) 22 cf n (frN3 s r i w x y z) h).Goes [.ok (.bool true) h, .ok (.bool false) h, .ok (.int .u8 c0) h, .ok (.bool true) h, .ok (.int .u8 c) h, .ok (.bool true) h] (.ok .normal (frN3 s r (wrapK .i64 (i + 1)) true true false z) h) =
  (OR.ok (.bool (ilt i (Int.ofNat (llen s)))) h = .ok (.bool true) h ∧ OR.ok (.bool (ieq i 0)) h = .ok (.bool false) h ∧ oSidx (xC (.str s)) (xC (i64 (wrapK .i64 (i - 1)))) cf .nil [] h = .ok (.int .u8 c0) h ∧ OR.ok (.bool (ieq c0 46)) h = .ok (.bool true) h ∧ oSidx (xC (.str s)) (xC (i64 i)) cf .nil [] h = .ok (.int .u8 c) h ∧ cf 40 [.int .u8 c] h = .ok (.bool true) h ∧ (.ok .normal (frN3 s r (wrapK .i64 (i + 1)) true true false z) h : Res) = (.ok .normal (frN3 s r (wrapK .i64 (i + 1)) true true false z) h)) := by kernel_rfl
theorem nb_53 (cf : CallF) (n : Nat) (h : AHeap) (s : List Nat) (r : Bool) (i : Int) (w x y z : Bool) (c c0 : Int) : (bodyI Try.prog H1 (flL [(4, 3), (6, 1), (6, 6), (6, 7), (7, 2), (9, 2), (9, 3), (9, 7)]) 22 cf n (frN3 s r i w x y z) h).Goes [.ok (.bool true) h, .ok (.bool false) h, .ok (.int .u8 c0) h, .ok (.bool false) h, .ok (.int .u8 c) h, .ok (.bool false) h] (.ok .normal (frN3 s r (wrapK .i64 (i + 1)) true false y false) h) =
  (OR.ok (.bool (ilt i (Int.ofNat (llen s)))) h = .ok (.bool true) h ∧ OR.ok (.bool (ieq i 0)) h = .ok (.bool false) h ∧ oSidx (xC (.str s)) (xC (i64 (wrapK .i64 (i - 1)))) cf .nil [] h = .ok (.int .u8 c0) h ∧ OR.ok (.bool (ieq c0 46)) h = .ok (.bool false) h ∧ oSidx (xC (.str s)) (xC (i64 i)) cf .nil [] h = .ok (.int .u8 c) h ∧ OR.ok (.bool (!(ieq c 46))) h = .ok (.bool false) h ∧ (.ok .normal (frN3 s r (wrapK .i64 (i + 1)) true false y false) h : Res) = (.ok .normal (frN3 s r (wrapK .i64 (i + 1)) true false y false) h)) := by kernel_rfl
theorem nb_63 (cf : CallF) (n : Nat) (h : AHeap) (s : List Nat) (r : Bool) (i : Int) (w x y z : Bool) (c c0 : Int) : (bodyI Try.prog H1 (flL [(4, 3), (6, 1), (6, 6), (6, 7), (7, 2), (9, 2), (9, 3), (9, 7)]) 22 cf n (frN3 s r i w x y z) h).Goes [.ok (.bool true) h, .ok (.bool false) h, .ok (.int .u8 c0) h, .ok (.bool false) h, .ok (.int .u8 c) h, .ok (.bool true) h, .ok (.int .u8 c) h, .ok (.bool true) h] (.ok .normal (frN3 s r (wrapK .i64 (i + 1)) true false y false) h) =
  (OR.ok (.bool (ilt i (Int.ofNat (llen s)))) h = .ok (.bool true) h ∧ OR.ok (.bool (ieq i 0)) h = .ok (.bool false) h ∧ oSidx (xC (.str s)) (xC (i64 (wrapK .i64 (i - 1)))) cf .nil [] h = .ok (.int .u8 c0) h ∧ OR.ok (.bool (ieq c0 46)) h = .ok (.bool false) h ∧ oSidx (xC (.str s)) (xC (i64 i)) cf .nil [] h = .ok (.int .u8 c) h ∧ OR.ok (.bool (!(ieq c 46))) h = .ok (.bool true) h ∧ oSidx (xC (.str s)) (xC (i64 i)) cf .nil [] h = .ok (.int .u8 c) h ∧ cf 41 [.int .u8 c] h = .ok (.bool true) h ∧ (.ok .normal (frN3 s r (wrapK .i64 (i + 1)) true false y false) h : Res) = (.ok .normal (frN3 s r (wrapK .i64 (i + 1)) true false y false) h)) := by kernel_rfl
theorem nb_73 (cf : CallF) (n : Nat) (h : AHeap) (s : List Nat) (r : Bool) (i : Int) (w x y z : Bool) (c c0 : Int) : (bodyI Try.prog H1 (flL [(4, 3), (6, 1), (6, 6), (6, 7), (7, 2), (9, 2), (9, 3), (9, 7)]) 22 cf n (frN3 s r i w x y z) h).Goes [.ok (.bool true) h, .ok (.bool false) h, .ok (.int .u8 c0) h, .ok (.bool false) h, .ok (.int .u8 c) h, .ok (.bool true) h, .ok (.int .u8 c) h, .ok (.bool false) h] (.ok .ret (frN3 s false i true false y true) h) =
  (OR.ok (.bool (ilt i (Int.ofNat (llen s)))) h = .ok (.bool true) h ∧ OR.ok (.bool (ieq i 0)) h = .ok (.bool false) h ∧ oSidx (xC (.str s)) (xC (i64 (wrapK .i64 (i - 1)))) cf .nil [] h = .ok (.int .u8 c0) h ∧ OR.ok (.bool (ieq c0 46)) h = .ok (.bool false) h ∧ oSidx (xC (.str s)) (xC (i64 i)) cf .nil [] h = .ok (.int .u8 c) h ∧ OR.ok (.bool (!(ieq c 46))) h = .ok (.bool true) h ∧ oSidx (xC (.str s)) (xC (i64 i)) cf .nil [] h = .ok (.int .u8 c) h ∧ cf 41 [.int .u8 c] h = .ok (.bool false) h ∧ (.ok .ret (frN3 s false i true false y true) h : Res) = (.ok .ret (frN3 s false i true false y true) h)) := by kernel_rfl
theorem letter_1 (cf : CallF) (n : Nat) (h : AHeap) (c : Int) : (stepI Try.prog H1 (flL [(1, 1), (1, 4), (1, 8), (1, 11)]) 40 cf n [.int .u8 c] h).Goes [.ok (.bool true) h, .ok (.bool true) h] (.ok (.bool true) h) =
  (OR.ok (.bool (!(ilt c 97))) h = .ok (.bool true) h ∧ OR.ok (.bool (!(ilt 122 c))) h = .ok (.bool true) h ∧ (.ok (.bool true) h : OR) = (.ok (.bool true) h)) := by kernel_rfl
theorem letter_2 (cf : CallF) (n : Nat) (h : AHeap) (c : Int) (r : Bool) : (stepI Try.prog H1 (flL [(1, 1), (1, 4), (1, 8), (1, 11)]) 40 cf n [.int .u8 c] h).Goes [.ok (.bool true) h, .ok (.bool false) h, .ok (.bool true) h, .ok (.bool r) h] (.ok (.bool r) h) =
  (OR.ok (.bool (!(ilt c 97))) h = .ok (.bool true) h ∧ OR.ok (.bool (!(ilt 122 c))) h = .ok (.bool false) h ∧ OR.ok (.bool (!(ilt c 65))) h = .ok (.bool true) h ∧ OR.ok (.bool (!(ilt 90 c))) h = .ok (.bool r) h ∧ (.ok (.bool r) h : OR) = (.ok (.bool r) h)) := by kernel_rfl
theorem letter_3 (cf : CallF) (n : Nat) (h : AHeap) (c : Int) : (stepI Try.prog H1 (flL [(1, 1), (1, 4), (1, 8), (1, 11)]) 40 cf n [.int .u8 c] h).Goes [.ok (.bool true) h, .ok (.bool false) h, .ok (.bool false) h] (.ok (.bool false) h) =
  (OR.ok (.bool (!(ilt c 97))) h = .ok (.bool true) h ∧ OR.ok (.bool (!(ilt 122 c))) h = .ok (.bool false) h ∧ OR.ok (.bool (!(ilt c 65))) h = .ok (.bool false) h ∧ (.ok (.bool false) h : OR) = (.ok (.bool false) h)) := by kernel_rfl
theorem letter_4 (cf : CallF) (n : Nat) (h : AHeap) (c : Int) (r : Bool) : (stepI Try.prog H1 (flL [(1, 1), (1, 4), (1, 8), (1, 11)]) 40 cf n [.int .u8 c] h).Goes [.ok (.bool false) h, .ok (.bool true) h, .ok (.bool r) h] (.ok (.bool r) h) =
  (OR.ok (.bool (!(ilt c 97))) h = .ok (.bool false) h ∧ OR.ok (.bool (!(ilt c 65))) h = .ok (.bool true) h ∧ OR.ok (.bool (!(ilt 90 c))) h = .ok (.bool r) h ∧ (.ok (.bool r) h : OR) = (.ok (.bool r) h)) := by kernel_rfl
theorem letter_5 (cf : CallF) (n : Nat) (h : AHeap) (c : Int) : (stepI Try.prog H1 (flL [(1, 1), (1, 4), (1, 8), (1, 11)]) 40 cf n [.int .u8 c] h).Goes [.ok (.bool false) h, .ok (.bool false) h] (.ok (.bool false) h) =
  (OR.ok (.bool (!(ilt c 97))) h = .ok (.bool false) h ∧ OR.ok (.bool (!(ilt c 65))) h = .ok (.bool false) h ∧ (.ok (.bool false) h : OR) = (.ok (.bool false) h)) := by kernel_rfl
theorem plain_1 (cf : CallF) (n : Nat) (h : AHeap) (c : Int) : (stepI Try.prog H1 (flL [(1, 4), (1, 7), (1, 12)]) 41 cf n [.int .u8 c] h).Goes [.ok (.bool true) h] (.ok (.bool true) h) =
  (cf 40 [.int .u8 c] h = .ok (.bool true) h ∧ (.ok (.bool true) h : OR) = (.ok (.bool true) h)) := by kernel_rfl
theorem plain_2 (cf : CallF) (n : Nat) (h : AHeap) (c : Int) : (stepI Try.prog H1 (flL [(1, 4), (1, 7), (1, 12)]) 41 cf n [.int .u8 c] h).Goes [.ok (.bool false) h, .ok (.bool true) h, .ok (.bool true) h] (.ok (.bool true) h) =
  (cf 40 [.int .u8 c] h = .ok (.bool false) h ∧ OR.ok (.bool (!(ilt c 48))) h = .ok (.bool true) h ∧ OR.ok (.bool (!(ilt 57 c))) h = .ok (.bool true) h ∧ (.ok (.bool true) h : OR) = (.ok (.bool true) h)) := by kernel_rfl
theorem plain_3 (cf : CallF) (n : Nat) (h : AHeap) (c : Int) (r : Bool) : (stepI Try.prog H1 (flL [(1, 4), (1, 7), (1, 12)]) 41 cf n [.int .u8 c] h).Goes [.ok (.bool false) h, .ok (.bool true) h, .ok (.bool false) h, .ok (.bool r) h] (.ok (.bool r) h) =
  (cf 40 [.int .u8 c] h = .ok (.bool false) h ∧ OR.ok (.bool (!(ilt c 48))) h = .ok (.bool true) h ∧ OR.ok (.bool (!(ilt 57 c))) h = .ok (.bool false) h ∧ OR.ok (.bool (ieq c 95)) h = .ok (.bool r) h ∧ (.ok (.bool r) h : OR) = (.ok (.bool r) h)) := by kernel_rfl
theorem plain_4 (cf : CallF) (n : Nat) (h : AHeap) (c : Int) (r : Bool) : (stepI Try.prog H1 (flL [(1, 4), (1, 7), (1, 12)]) 41 cf n [.int .u8 c] h).Goes [.ok (.bool false) h, .ok (.bool false) h, .ok (.bool r) h] (.ok (.bool r) h) =
  (cf 40 [.int .u8 c] h = .ok (.bool false) h ∧ OR.ok (.bool (!(ilt c 48))) h = .ok (.bool false) h ∧ OR.ok (.bool (ieq c 95)) h = .ok (.bool r) h ∧ (.ok (.bool r) h : OR) = (.ok (.bool r) h)) := by kernel_rfl
end Go.Vd

namespace Go.Vd
open Go Go.RowKit Go.Proofs
set_option maxRecDepth 100000
theorem obE {b r : Bool} {h : AHeap} (e : b = r) : OR.ok (.bool b) h = .ok (.bool r) h := by rw [e]
noncomputable section
/-- A byte of a name's part. -/
def letterB (c : Int) : Bool := ((!(ilt c 97)) && (!(ilt 122 c))) || ((!(ilt c 65)) && (!(ilt 90 c)))
def plainB (c : Int) : Bool := letterB c || (((!(ilt c 48)) && (!(ilt 57 c))) || ieq c 95)
def okB (p : Option Nat) (c : Nat) : Bool :=
  match p with
  | none => letterB (Int.ofNat c)
  | some q => if q = 46 then letterB (Int.ofNat c) else (c == 46 || plainB (Int.ofNat c))
def nmLoop (p : Option Nat) : List Nat → Bool
  | [] => true
  | c :: r => okB p c && nmLoop (some c) r
end
theorem at_step {f : Nat} {args : List AV} {v : AV} (fl : Nat → Nat → Bool) {N : Nat} (k : ∀ n, N ≤ n → ∀ h, ∃ s, (stepI Try.prog H1 fl f (ev n) n args h).Goes s (.ok v h)) {n : Nat} (hn : N + 1 ≤ n) (h : AHeap) : ev n f args h = .ok v h := by
  obtain ⟨m, rfl⟩ : ∃ m, n = m + 1 := ⟨n - 1, by omega⟩
  obtain ⟨s, hs⟩ := k m (by omega) h
  exact goes_call fl hs (by simp)
theorem letter_at {n : Nat} (hn : 1 ≤ n) (c : Int) (h : AHeap) : ev n 40 [.int .u8 c] h = .ok (.bool (letterB c)) h := by
  refine at_step (N := 0) (flL [(1,1),(1,4),(1,8),(1,11)]) (fun n _ h => ?_) hn h
  unfold letterB
  cases h1 : (!(ilt c 97)) <;> cases h2 : (!(ilt 122 c)) <;> cases h3 : (!(ilt c 65)) <;> cases h4 : (!(ilt 90 c))
  all_goals first
    | exact ⟨_, (letter_1 (ev n) n h c).mpr ⟨obE h1, obE h2, rfl⟩⟩
    | exact ⟨_, (letter_2 (ev n) n h c _).mpr ⟨obE h1, obE h2, obE h3, obE h4, rfl⟩⟩
    | exact ⟨_, (letter_3 (ev n) n h c).mpr ⟨obE h1, obE h2, obE h3, rfl⟩⟩
    | exact ⟨_, (letter_4 (ev n) n h c _).mpr ⟨obE h1, obE h3, obE h4, rfl⟩⟩
    | exact ⟨_, (letter_5 (ev n) n h c).mpr ⟨obE h1, obE h3, rfl⟩⟩
theorem plain_at {n : Nat} (hn : 2 ≤ n) (c : Int) (h : AHeap) : ev n 41 [.int .u8 c] h = .ok (.bool (plainB c)) h := by
  refine at_step (N := 1) (flL [(1,4),(1,7),(1,12)]) (fun n hn h => ?_) hn h
  have e := letter_at hn c h
  unfold plainB
  cases h0 : letterB c <;> rw [h0] at e <;> cases h1 : (!(ilt c 48)) <;> cases h2 : (!(ilt 57 c)) <;> cases h3 : ieq c 95
  all_goals first
    | exact ⟨_, (plain_1 (ev n) n h c).mpr ⟨e, rfl⟩⟩
    | exact ⟨_, (plain_2 (ev n) n h c).mpr ⟨e, obE h1, obE h2, rfl⟩⟩
    | exact ⟨_, (plain_3 (ev n) n h c _).mpr ⟨e, obE h1, obE h2, obE h3, rfl⟩⟩
    | exact ⟨_, (plain_4 (ev n) n h c _).mpr ⟨e, obE h1, obE h3, rfl⟩⟩
theorem sidx_at {s : List Nat} {k c : Nat} (e : s[k]? = some c) (cf : CallF) (h : AHeap) : oSidx (xC (.str s)) (xC (i64 (Int.ofNat k))) cf .nil [] h = .ok (.int .u8 (Int.ofNat c)) h := by
  have e' : lget s k = some c := by rw [lget_eq]; exact e
  show (match lget s k with | some c => OR.ok (.int .u8 (Int.ofNat c)) h | none => .fail) = _
  rw [e']
theorem ilt_t {a b : Int} (h : a < b) : ilt a b = true := by rw [ilt_eq]; simpa using h
theorem ilt_f {a b : Int} (h : b ≤ a) : ilt a b = false := by rw [ilt_eq]; simp; omega
theorem ieq_t {a b : Int} (h : a = b) : ieq a b = true := by rw [ieq_eq]; simpa using h
theorem ieq_f {a b : Int} (h : a ≠ b) : ieq a b = false := by rw [ieq_eq]; simpa using h
def prevN (s : List Nat) (i : Nat) : Option Nat := if i = 0 then none else s[i - 1]?
/-- What a name is, as the reference says. -/
noncomputable def isNameB (s : List Nat) : Bool := decide (1 ≤ s.length) && (decide (s.length ≤ 24) && ((s[s.length - 1]? != some 46) && nmLoop none s))
/-- At a round's head. -/
def InvN (s : List Nat) (h0 : AHeap) (i : Nat) (g : PT AV) (h : AHeap) : Prop :=
  h = h0 ∧ i ≤ s.length ∧ nmLoop (prevN s i) (s.drop i) = nmLoop none s ∧
  ((i = 0 ∧ g = frN0 s false 0 false false false false) ∨ (0 < i ∧ ∃ w x y, g = frN1 s false (Int.ofNat i) w x y false) ∨ (0 < i ∧ ∃ w x y z, g = frN3 s false (Int.ofNat i) w x y z))
def EndN (s : List Nat) (h0 : AHeap) (r : Res) : Prop :=
  (nmLoop none s = false ∧ ((∃ i w x y, r = .ok .ret (frN1 s false i w x y false) h0) ∨ (∃ i w x y z, r = .ok .ret (frN3 s false i w x y z) h0))) ∨
  (nmLoop none s = true ∧ ((∃ i w x y, r = .ok (.exit 0) (frN1 s false i w x y false) h0) ∨ (∃ i w x y z, r = .ok (.exit 0) (frN3 s false i w x y z) h0)))
theorem nm_step {s : List Nat} {i c : Nat} (e : s[i]? = some c) (k : nmLoop (prevN s i) (s.drop i) = nmLoop none s) :
    (okB (prevN s i) c = true → nmLoop (prevN s (i + 1)) (s.drop (i + 1)) = nmLoop none s) ∧ (okB (prevN s i) c = false → nmLoop none s = false) := by
  have hd : s.drop i = c :: s.drop (i + 1) := by
    obtain ⟨h1, h2⟩ := List.getElem?_eq_some_iff.1 e
    rw [← h2]; exact List.drop_eq_getElem_cons h1
  rw [hd] at k
  simp only [nmLoop] at k
  constructor
  · intro q
    rw [q, Bool.true_and] at k
    rw [← k]
    simp [prevN, e]
  · intro q
    rw [q, Bool.false_and] at k
    exact k.symm
theorem wnx {k : Nat} (h : k ≤ 24) : wrapK .i64 (Int.ofNat k + 1) = Int.ofNat (k + 1) := by
  have h0 : (Int.ofNat k : Int) = (k : Int) := rfl
  rw [wrap_id (by omega) (by omega)]; rfl
theorem wpv {k : Nat} (h : k ≤ 24) : wrapK .i64 (Int.ofNat (k + 1) - 1) = Int.ofNat k := by
  have h0 : (Int.ofNat (k + 1) : Int) = (k : Int) + 1 := rfl
  have h1 : (Int.ofNat k : Int) = (k : Int) := rfl
  rw [wrap_id (by omega) (by omega)]; omega
theorem getE {s : List Nat} {i : Nat} (h : i < s.length) : ∃ c, s[i]? = some c := ⟨s[i], List.getElem?_eq_getElem h⟩
theorem ofNat_ne0 (j : Nat) : Int.ofNat (j + 1) ≠ 0 := fun q => by have : ((j + 1 : Nat) : Int) = 0 := q; omega
theorem ofNat_46 {c : Nat} (h : ¬ c = 46) : Int.ofNat c ≠ 46 := fun q => h (by have : ((c : Nat) : Int) = 46 := q; omega)
theorem nm_round {s : List Nat} (hs : s.length ≤ 24) {n N : Nat} (hL : ∀ c h, ev n 40 [.int .u8 (Int.ofNat c)] h = .ok (.bool (letterB (Int.ofNat c))) h) (hP : ∀ c h, ev n 41 [.int .u8 (Int.ofNat c)] h = .ok (.bool (plainB (Int.ofNat c))) h)
    (h1s : 1 ≤ s.length) (h0 : AHeap) : ∀ i g h, InvN s h0 i g h → (∃ g' h', bodyRun Try.prog H1 22 (ev n) N g h = .ok .normal g' h' ∧ InvN s h0 (i + 1) g' h') ∨
      (∃ e g' h', bodyRun Try.prog H1 22 (ev n) N g h = .ok e g' h' ∧ e ≠ .normal ∧ EndN s h0 (.ok e g' h')) := by
  intro i g h ⟨hh, hi, hk, hg⟩
  subst hh
  rcases hg with ⟨rfl, rfl⟩ | ⟨hp, w, x, y, rfl⟩ | ⟨hp, w, x, y, z, rfl⟩
  · obtain ⟨c, hc⟩ := getE (s := s) (i := 0) (by omega)
    obtain ⟨k1, k2⟩ := nm_step hc hk
    have e1 : OR.ok (.bool (ilt 0 (Int.ofNat (llen s)))) h = .ok (.bool true) h := by rw [ilt_t]; rw [llen_eq]; exact Int.ofNat_lt.2 h1s
    have e2 := sidx_at hc (ev n) h
    have e3 := hL c h
    cases q : letterB (Int.ofNat c) with
    | false =>
      rw [q] at e3
      exact .inr ⟨_, _, _, goes_body ((nb_10 (ev n) N h s false 0 false false false false _).mpr ⟨e1, rfl, e2, e3, rfl⟩), by simp, .inl ⟨k2 q, .inl ⟨_, _, _, _, rfl⟩⟩⟩
    | true =>
      rw [q] at e3
      exact .inl ⟨_, _, goes_body ((nb_20 (ev n) N h s false 0 false false false false _).mpr ⟨e1, rfl, e2, e3, rfl⟩), rfl, h1s, k1 q, .inr (.inl ⟨Nat.succ_pos _, _, _, _, rfl⟩)⟩
  all_goals
    obtain ⟨j, rfl⟩ : ∃ j, i = j + 1 := ⟨i - 1, by omega⟩
    by_cases hl : j + 1 < s.length
    · obtain ⟨c, hc⟩ := getE hl
      obtain ⟨c0, hc0⟩ := getE (s := s) (i := j) (by omega)
      obtain ⟨k1, k2⟩ := nm_step hc hk
      have hpr : prevN s (j + 1) = some c0 := by simp [prevN, hc0]
      rw [hpr] at k1 k2
      have e1 : OR.ok (.bool (ilt (Int.ofNat (j + 1)) (Int.ofNat (llen s)))) h = .ok (.bool true) h := by rw [ilt_t]; rw [llen_eq]; exact Int.ofNat_lt.2 hl
      have e2 : OR.ok (.bool (ieq (Int.ofNat (j + 1)) 0)) h = .ok (.bool false) h := by rw [ieq_f]; exact ofNat_ne0 j
      have e3 : oSidx (xC (.str s)) (xC (i64 (wrapK .i64 (Int.ofNat (j + 1) - 1)))) (ev n) .nil [] h = .ok (.int .u8 (Int.ofNat c0)) h := by rw [wpv (by omega)]; exact sidx_at hc0 _ _
      have e4 := sidx_at hc (ev n) h
      have e5 := hL c h
      have e6 := hP c h
      by_cases q0 : c0 = 46
      · have e7 : OR.ok (.bool (ieq (Int.ofNat c0) 46)) h = .ok (.bool true) h := by rw [ieq_t]; rw [q0]; rfl
        simp only [okB, q0, if_true] at k1 k2
        cases q : letterB (Int.ofNat c) with
        | false =>
          rw [q] at e5
          first
            | exact .inr ⟨_, _, _, goes_body ((nb_31 (ev n) N h s false _ w x y false _ _).mpr ⟨e1, e2, e3, e7, e4, e5, rfl⟩), by simp, .inl ⟨k2 q, .inl ⟨_, _, _, _, rfl⟩⟩⟩
            | exact .inr ⟨_, _, _, goes_body ((nb_33 (ev n) N h s false _ w x y z _ _).mpr ⟨e1, e2, e3, e7, e4, e5, rfl⟩), by simp, .inl ⟨k2 q, .inr ⟨_, _, _, _, _, rfl⟩⟩⟩
        | true =>
          rw [q] at e5
          first
            | exact .inl ⟨_, _, goes_body ((nb_41 (ev n) N h s false _ w x y false _ _).mpr ⟨e1, e2, e3, e7, e4, e5, rfl⟩), rfl, by omega, k1 q, .inr (.inl ⟨by omega, _, _, _, by rw [wnx (by omega)]⟩)⟩
            | exact .inl ⟨_, _, goes_body ((nb_43 (ev n) N h s false _ w x y z _ _).mpr ⟨e1, e2, e3, e7, e4, e5, rfl⟩), rfl, by omega, k1 q, .inr (.inr ⟨by omega, _, _, _, _, by rw [wnx (by omega)]⟩)⟩
      · have e7 : OR.ok (.bool (ieq (Int.ofNat c0) 46)) h = .ok (.bool false) h := by rw [ieq_f (ofNat_46 q0)]
        simp only [okB, q0, if_false] at k1 k2
        by_cases q1 : c = 46
        · have e8 : OR.ok (.bool (!(ieq (Int.ofNat c) 46))) h = .ok (.bool false) h := obE (by rw [ieq_t (by rw [q1]; rfl)]; rfl)
          have k3 := k1 (by simp [q1])
          first
            | exact .inl ⟨_, _, goes_body ((nb_51 (ev n) N h s false _ w x y false _ _).mpr ⟨e1, e2, e3, e7, e4, e8, rfl⟩), rfl, by omega, k3, .inr (.inr ⟨by omega, _, _, _, _, by rw [wnx (by omega)]⟩)⟩
            | exact .inl ⟨_, _, goes_body ((nb_53 (ev n) N h s false _ w x y z _ _).mpr ⟨e1, e2, e3, e7, e4, e8, rfl⟩), rfl, by omega, k3, .inr (.inr ⟨by omega, _, _, _, _, by rw [wnx (by omega)]⟩)⟩
        · have e8 : OR.ok (.bool (!(ieq (Int.ofNat c) 46))) h = .ok (.bool true) h := obE (by rw [ieq_f (ofNat_46 q1)]; rfl)
          have qb : (c == 46) = false := by simpa using q1
          simp only [qb, Bool.false_or] at k1 k2
          cases q : plainB (Int.ofNat c) with
          | false =>
            rw [q] at e6
            first
              | exact .inr ⟨_, _, _, goes_body ((nb_71 (ev n) N h s false _ w x y false _ _).mpr ⟨e1, e2, e3, e7, e4, e8, e4, e6, rfl⟩), by simp, .inl ⟨k2 q, .inr ⟨_, _, _, _, _, rfl⟩⟩⟩
              | exact .inr ⟨_, _, _, goes_body ((nb_73 (ev n) N h s false _ w x y z _ _).mpr ⟨e1, e2, e3, e7, e4, e8, e4, e6, rfl⟩), by simp, .inl ⟨k2 q, .inr ⟨_, _, _, _, _, rfl⟩⟩⟩
          | true =>
            rw [q] at e6
            first
              | exact .inl ⟨_, _, goes_body ((nb_61 (ev n) N h s false _ w x y false _ _).mpr ⟨e1, e2, e3, e7, e4, e8, e4, e6, rfl⟩), rfl, by omega, k1 q, .inr (.inr ⟨by omega, _, _, _, _, by rw [wnx (by omega)]⟩)⟩
              | exact .inl ⟨_, _, goes_body ((nb_63 (ev n) N h s false _ w x y z _ _).mpr ⟨e1, e2, e3, e7, e4, e8, e4, e6, rfl⟩), rfl, by omega, k1 q, .inr (.inr ⟨by omega, _, _, _, _, by rw [wnx (by omega)]⟩)⟩
    · have e1 : OR.ok (.bool (ilt (Int.ofNat (j + 1)) (Int.ofNat (llen s)))) h = .ok (.bool false) h := by rw [ilt_f]; rw [llen_eq]; exact Int.ofNat_le.2 (by omega)
      have kt : nmLoop none s = true := by rw [← hk, List.drop_eq_nil_of_le (by omega)]; rfl
      first
        | exact .inr ⟨_, _, _, goes_body ((nb_01 (ev n) N h s false _ w x y false).mpr ⟨e1, rfl⟩), by simp, .inr ⟨kt, .inl ⟨_, _, _, _, rfl⟩⟩⟩
        | exact .inr ⟨_, _, _, goes_body ((nb_03 (ev n) N h s false _ w x y z).mpr ⟨e1, rfl⟩), by simp, .inr ⟨kt, .inr ⟨_, _, _, _, _, rfl⟩⟩⟩
theorem ok_name (s : List Nat) : Ok 22 [.str s] (.bool (isNameB s)) := by
  have hlen : Int.ofNat (llen s) = (s.length : Int) := by rw [llen_eq]; rfl
  by_cases h1 : 1 ≤ s.length
  · by_cases h2 : s.length ≤ 24
    · obtain ⟨c, hc⟩ := getE (s := s) (i := s.length - 1) (by omega)
      have e1 : ∀ h : AHeap, OR.ok (.bool (ilt (Int.ofNat (llen s)) 1)) h = .ok (.bool false) h := fun h => obE (ilt_f (by omega))
      have e2 : ∀ h : AHeap, OR.ok (.bool (ilt 24 (Int.ofNat (llen s)))) h = .ok (.bool false) h := fun h => obE (ilt_f (by omega))
      have e3 : ∀ (cf : CallF) (h : AHeap), oSidx (xC (.str s)) (xC (i64 (wrapK .i64 (Int.ofNat (llen s) - 1)))) cf .nil [] h = .ok (.int .u8 (Int.ofNat c)) h := fun cf h => by
        rw [wrap_id (by omega) (by omega), show Int.ofNat (llen s) - 1 = Int.ofNat (s.length - 1) by rw [hlen]; show _ = ((s.length - 1 : Nat) : Int); omega]
        exact sidx_at hc cf h
      by_cases q : c = 46
      · have hv : isNameB s = false := by simp [isNameB, h1, h2, hc, q]
        rw [hv]
        exact ok_step (flL [(1,2),(1,6),(1,13),(1,14)]) 0 fun n _ h => ⟨_, (nm_3 (ev n) n h s _).mpr ⟨e1 h, e2 h, e3 _ h, obE (ieq_t (by rw [q]; rfl)), rfl⟩⟩
      · have hv : isNameB s = nmLoop none s := by simp [isNameB, h1, h2, hc, q]
        rw [hv]
        obtain ⟨N1, k1⟩ : ∃ N, ∀ n, N ≤ n → ∀ c h, ev n 40 [.int .u8 (Int.ofNat c)] h = .ok (.bool (letterB (Int.ofNat c))) h := ⟨1, fun n hn c h => letter_at (by omega) _ h⟩
        refine ok_step (flL [(1,2),(1,6),(1,13),(1,14)]) 30 fun n hn h => ?_
        have e4 : OR.ok (.bool (ieq (Int.ofNat c) 46)) h = .ok (.bool false) h := obE (ieq_f (ofNat_46 q))
        obtain ⟨e, g', h', e5, e6⟩ := loop_inv (bodyRun Try.prog H1 22 (ev n) n) (InvN s h) (EndN s h) s.length (fun i g h k => k.2.1)
          (nm_round h2 (fun c h => letter_at (by omega) _ h) (fun c h => plain_at (by omega) _ h) h1 h) n 0 (frN0 s false 0 false false false false) h
          ⟨rfl, by omega, rfl, .inl ⟨rfl, rfl⟩⟩ (by omega)
        rcases e6 with ⟨hv, ⟨i, w, x, y, r⟩ | ⟨i, w, x, y, z, r⟩⟩ | ⟨hv, ⟨i, w, x, y, r⟩ | ⟨i, w, x, y, z, r⟩⟩ <;> rw [r] at e5 <;> rw [hv]
        · exact ⟨_, (nm_41 (ev n) n h h s _ false i w x y false).mpr ⟨e1 h, e2 h, e3 _ h, e4, e5, rfl⟩⟩
        · exact ⟨_, (nm_43 (ev n) n h h s _ false i w x y z).mpr ⟨e1 h, e2 h, e3 _ h, e4, e5, rfl⟩⟩
        · exact ⟨_, (nm_51 (ev n) n h h s _ false i w x y false).mpr ⟨e1 h, e2 h, e3 _ h, e4, e5, rfl⟩⟩
        · exact ⟨_, (nm_53 (ev n) n h h s _ false i w x y z).mpr ⟨e1 h, e2 h, e3 _ h, e4, e5, rfl⟩⟩
    · have hv : isNameB s = false := by simp [isNameB, h2]
      rw [hv]
      exact ok_step (flL [(1,2),(1,6),(1,13),(1,14)]) 0 fun n _ h => ⟨_, (nm_2 (ev n) n h s).mpr ⟨obE (ilt_f (by omega)), obE (ilt_t (by omega)), rfl⟩⟩
  · have hv : isNameB s = false := by simp [isNameB, h1]
    rw [hv]
    exact ok_step (flL [(1,2),(1,6),(1,13),(1,14)]) 0 fun n _ h => ⟨_, (nm_1 (ev n) n h s).mpr ⟨obE (ilt_t (by omega)), rfl⟩⟩
end Go.Vd

namespace Go.Vd
open Go Go.RowKit Go.Proofs
set_option maxRecDepth 100000
set_option maxHeartbeats 0
noncomputable def ldO (h : AHeap) (a : AV) : OR := OR.of h (loadAV h none a)
/-- Take's frames. -/
abbrev frT0 (s : List Nat) (r2 : Int) (r3 : List Nat) (r4 x at' i : Int) : PT AV := (.node (some (.str s)) (.node none (.node (some (.str r3)) (.node (some (i64 i)) .nil .nil) .nil) (.node (some (i64 x)) .nil .nil)) (.node (some (i64 r2)) (.node (some (i64 r4)) .nil .nil) (.node (some (i64 at')) .nil .nil)))
abbrev frT1 (s : List Nat) (r2 : Int) (r3 : List Nat) (r4 x at' i : Int) (w : Bool) : PT AV := (.node (some (.str s)) (.node none (.node (some (.str r3)) (.node (some (i64 i)) .nil .nil) .nil) (.node (some (i64 x)) .nil .nil)) (.node (some (i64 r2)) (.node (some (i64 r4)) .nil (.node (some (.bool w)) .nil .nil)) (.node (some (i64 at')) .nil .nil)))
abbrev frT2 (s : List Nat) (r2 : Int) (r3 : List Nat) (r4 x at' i : Int) (w : Bool) (b : Int) (y z : Bool) : PT AV := (.node (some (.str s)) (.node none (.node (some (.str r3)) (.node (some (i64 i)) .nil .nil) (.node none .nil (.node none (.node (some (.bool z)) .nil .nil) .nil))) (.node (some (i64 x)) .nil .nil)) (.node (some (i64 r2)) (.node (some (i64 r4)) (.node (some (i64 b)) (.node none (.node (some (.bool y)) .nil .nil) .nil) .nil) (.node (some (.bool w)) .nil .nil)) (.node (some (i64 at')) .nil .nil)))
abbrev frT3 (s : List Nat) (r2 : Int) (r3 : List Nat) (r4 x at' i : Int) (w : Bool) (b : Int) (y : Bool) : PT AV := (.node (some (.str s)) (.node none (.node (some (.str r3)) (.node (some (i64 i)) .nil .nil) .nil) (.node (some (i64 x)) .nil .nil)) (.node (some (i64 r2)) (.node (some (i64 r4)) (.node (some (i64 b)) (.node none (.node (some (.bool y)) .nil .nil) .nil) .nil) (.node (some (.bool w)) .nil .nil)) (.node (some (i64 at')) .nil .nil)))
theorem tb_0e (cf : CallF) (n : Nat) (h : AHeap) (s : List Nat) (r2 : Int) (r3 : List Nat) (r4 x at' i : Int)  : (bodyI Try.prog H1 (flL [(3, 3), (5, 2), (6, 1), (6, 4), (6, 8), (6, 11), (10, 1), (11, 4)]) 48 cf n (frT0 s r2 r3 r4 x at' i) h).Goes [.ok (.bool false) h] (.ok (.exit 0) (frT1 s r2 r3 r4 x at' i false) h) =
  (OR.ok (.bool (ilt i (Int.ofNat (llen s)))) h = .ok (.bool false) h ∧ (.ok (.exit 0) (frT1 s r2 r3 r4 x at' i false) h : Res) = (.ok (.exit 0) (frT1 s r2 r3 r4 x at' i false) h)) := by kernel_rfl
theorem tb_0r (cf : CallF) (n : Nat) (h : AHeap) (s : List Nat) (r2 : Int) (r3 : List Nat) (r4 x at' i : Int) (c : Int) (rest : List Nat) : (bodyI Try.prog H1 (flL [(3, 3), (5, 2), (6, 1), (6, 4), (6, 8), (6, 11), (10, 1), (11, 4)]) 48 cf n (frT0 s r2 r3 r4 x at' i) h).Goes [.ok (.bool true) h, .ok (.int .u8 c) h, .ok (.bool false) h, .ok (.bool false) h, .ok (.bool true) h, .ok (.str rest) h] (.ok .ret (frT2 s (wrapK .i64 (x + wrapK .i64 (Int.tmod (wrapK .i64 c) 128 * at'))) rest 0 (wrapK .i64 (x + wrapK .i64 (Int.tmod (wrapK .i64 c) 128 * at'))) (wrapK .i64 (at' * 128)) i true (wrapK .i64 c) false true) h) =
  (OR.ok (.bool (ilt i (Int.ofNat (llen s)))) h = .ok (.bool true) h ∧ oSidx (xC (.str s)) (xC (i64 i)) cf .nil [] h = .ok (.int .u8 c) h ∧ OR.ok (.bool (ieq i 7)) h = .ok (.bool false) h ∧ OR.ok (.bool (ilt 0 i)) h = .ok (.bool false) h ∧ OR.ok (.bool (ilt (wrapK .i64 c) 128)) h = .ok (.bool true) h ∧ oSlice .str (xC (.str s)) (some (xC (i64 (wrapK .i64 (i + 1))))) none none cf .nil [] h = .ok (.str rest) h ∧ (.ok .ret (frT2 s (wrapK .i64 (x + wrapK .i64 (Int.tmod (wrapK .i64 c) 128 * at'))) rest 0 (wrapK .i64 (x + wrapK .i64 (Int.tmod (wrapK .i64 c) 128 * at'))) (wrapK .i64 (at' * 128)) i true (wrapK .i64 c) false true) h : Res) = (.ok .ret (frT2 s (wrapK .i64 (x + wrapK .i64 (Int.tmod (wrapK .i64 c) 128 * at'))) rest 0 (wrapK .i64 (x + wrapK .i64 (Int.tmod (wrapK .i64 c) 128 * at'))) (wrapK .i64 (at' * 128)) i true (wrapK .i64 c) false true) h)) := by kernel_rfl
theorem tb_0n (cf : CallF) (n : Nat) (h : AHeap) (s : List Nat) (r2 : Int) (r3 : List Nat) (r4 x at' i : Int) (c : Int) : (bodyI Try.prog H1 (flL [(3, 3), (5, 2), (6, 1), (6, 4), (6, 8), (6, 11), (10, 1), (11, 4)]) 48 cf n (frT0 s r2 r3 r4 x at' i) h).Goes [.ok (.bool true) h, .ok (.int .u8 c) h, .ok (.bool false) h, .ok (.bool false) h, .ok (.bool false) h] (.ok .normal (frT2 s r2 r3 r4 (wrapK .i64 (x + wrapK .i64 (Int.tmod (wrapK .i64 c) 128 * at'))) (wrapK .i64 (at' * 128)) (wrapK .i64 (i + 1)) true (wrapK .i64 c) false false) h) =
  (OR.ok (.bool (ilt i (Int.ofNat (llen s)))) h = .ok (.bool true) h ∧ oSidx (xC (.str s)) (xC (i64 i)) cf .nil [] h = .ok (.int .u8 c) h ∧ OR.ok (.bool (ieq i 7)) h = .ok (.bool false) h ∧ OR.ok (.bool (ilt 0 i)) h = .ok (.bool false) h ∧ OR.ok (.bool (ilt (wrapK .i64 c) 128)) h = .ok (.bool false) h ∧ (.ok .normal (frT2 s r2 r3 r4 (wrapK .i64 (x + wrapK .i64 (Int.tmod (wrapK .i64 c) 128 * at'))) (wrapK .i64 (at' * 128)) (wrapK .i64 (i + 1)) true (wrapK .i64 c) false false) h : Res) = (.ok .normal (frT2 s r2 r3 r4 (wrapK .i64 (x + wrapK .i64 (Int.tmod (wrapK .i64 c) 128 * at'))) (wrapK .i64 (at' * 128)) (wrapK .i64 (i + 1)) true (wrapK .i64 c) false false) h)) := by kernel_rfl
theorem tb_2e (cf : CallF) (n : Nat) (h : AHeap) (s : List Nat) (r2 : Int) (r3 : List Nat) (r4 x at' i : Int) (w : Bool) (b : Int) (y z : Bool)  : (bodyI Try.prog H1 (flL [(3, 3), (5, 2), (6, 1), (6, 4), (6, 8), (6, 11), (10, 1), (11, 4)]) 48 cf n (frT2 s r2 r3 r4 x at' i w b y z) h).Goes [.ok (.bool false) h] (.ok (.exit 0) (frT2 s r2 r3 r4 x at' i false b y z) h) =
  (OR.ok (.bool (ilt i (Int.ofNat (llen s)))) h = .ok (.bool false) h ∧ (.ok (.exit 0) (frT2 s r2 r3 r4 x at' i false b y z) h : Res) = (.ok (.exit 0) (frT2 s r2 r3 r4 x at' i false b y z) h)) := by kernel_rfl
theorem tb_2a (cf : CallF) (n : Nat) (h : AHeap) (s : List Nat) (r2 : Int) (r3 : List Nat) (r4 x at' i : Int) (w : Bool) (b : Int) (y z : Bool) (c : Int) : (bodyI Try.prog H1 (flL [(3, 3), (5, 2), (6, 1), (6, 4), (6, 8), (6, 11), (10, 1), (11, 4)]) 48 cf n (frT2 s r2 r3 r4 x at' i w b y z) h).Goes [.ok (.bool true) h, .ok (.int .u8 c) h, .ok (.bool true) h, .ok (.bool true) h] (.ok .ret (frT2 s 0 s 10 x at' i true (wrapK .i64 c) true z) h) =
  (OR.ok (.bool (ilt i (Int.ofNat (llen s)))) h = .ok (.bool true) h ∧ oSidx (xC (.str s)) (xC (i64 i)) cf .nil [] h = .ok (.int .u8 c) h ∧ OR.ok (.bool (ieq i 7)) h = .ok (.bool true) h ∧ OR.ok (.bool (ilt 127 (wrapK .i64 c))) h = .ok (.bool true) h ∧ (.ok .ret (frT2 s 0 s 10 x at' i true (wrapK .i64 c) true z) h : Res) = (.ok .ret (frT2 s 0 s 10 x at' i true (wrapK .i64 c) true z) h)) := by kernel_rfl
theorem tb_2b7 (cf : CallF) (n : Nat) (h : AHeap) (s : List Nat) (r2 : Int) (r3 : List Nat) (r4 x at' i : Int) (w : Bool) (b : Int) (y z : Bool) (c : Int) : (bodyI Try.prog H1 (flL [(3, 3), (5, 2), (6, 1), (6, 4), (6, 8), (6, 11), (10, 1), (11, 4)]) 48 cf n (frT2 s r2 r3 r4 x at' i w b y z) h).Goes [.ok (.bool true) h, .ok (.int .u8 c) h, .ok (.bool true) h, .ok (.bool false) h, .ok (.bool true) h, .ok (.bool true) h] (.ok .ret (frT2 s 0 s 10 x at' i true (wrapK .i64 c) true z) h) =
  (OR.ok (.bool (ilt i (Int.ofNat (llen s)))) h = .ok (.bool true) h ∧ oSidx (xC (.str s)) (xC (i64 i)) cf .nil [] h = .ok (.int .u8 c) h ∧ OR.ok (.bool (ieq i 7)) h = .ok (.bool true) h ∧ OR.ok (.bool (ilt 127 (wrapK .i64 c))) h = .ok (.bool false) h ∧ OR.ok (.bool (ilt 0 i)) h = .ok (.bool true) h ∧ OR.ok (.bool (ieq (wrapK .i64 c) 0)) h = .ok (.bool true) h ∧ (.ok .ret (frT2 s 0 s 10 x at' i true (wrapK .i64 c) true z) h : Res) = (.ok .ret (frT2 s 0 s 10 x at' i true (wrapK .i64 c) true z) h)) := by kernel_rfl
theorem tb_2r7 (cf : CallF) (n : Nat) (h : AHeap) (s : List Nat) (r2 : Int) (r3 : List Nat) (r4 x at' i : Int) (w : Bool) (b : Int) (y z : Bool) (c : Int) (rest : List Nat) : (bodyI Try.prog H1 (flL [(3, 3), (5, 2), (6, 1), (6, 4), (6, 8), (6, 11), (10, 1), (11, 4)]) 48 cf n (frT2 s r2 r3 r4 x at' i w b y z) h).Goes [.ok (.bool true) h, .ok (.int .u8 c) h, .ok (.bool true) h, .ok (.bool false) h, .ok (.bool true) h, .ok (.bool false) h, .ok (.bool true) h, .ok (.str rest) h] (.ok .ret (frT2 s (wrapK .i64 (x + wrapK .i64 (Int.tmod (wrapK .i64 c) 128 * at'))) rest 0 (wrapK .i64 (x + wrapK .i64 (Int.tmod (wrapK .i64 c) 128 * at'))) (wrapK .i64 (at' * 128)) i true (wrapK .i64 c) false true) h) =
  (OR.ok (.bool (ilt i (Int.ofNat (llen s)))) h = .ok (.bool true) h ∧ oSidx (xC (.str s)) (xC (i64 i)) cf .nil [] h = .ok (.int .u8 c) h ∧ OR.ok (.bool (ieq i 7)) h = .ok (.bool true) h ∧ OR.ok (.bool (ilt 127 (wrapK .i64 c))) h = .ok (.bool false) h ∧ OR.ok (.bool (ilt 0 i)) h = .ok (.bool true) h ∧ OR.ok (.bool (ieq (wrapK .i64 c) 0)) h = .ok (.bool false) h ∧ OR.ok (.bool (ilt (wrapK .i64 c) 128)) h = .ok (.bool true) h ∧ oSlice .str (xC (.str s)) (some (xC (i64 (wrapK .i64 (i + 1))))) none none cf .nil [] h = .ok (.str rest) h ∧ (.ok .ret (frT2 s (wrapK .i64 (x + wrapK .i64 (Int.tmod (wrapK .i64 c) 128 * at'))) rest 0 (wrapK .i64 (x + wrapK .i64 (Int.tmod (wrapK .i64 c) 128 * at'))) (wrapK .i64 (at' * 128)) i true (wrapK .i64 c) false true) h : Res) = (.ok .ret (frT2 s (wrapK .i64 (x + wrapK .i64 (Int.tmod (wrapK .i64 c) 128 * at'))) rest 0 (wrapK .i64 (x + wrapK .i64 (Int.tmod (wrapK .i64 c) 128 * at'))) (wrapK .i64 (at' * 128)) i true (wrapK .i64 c) false true) h)) := by kernel_rfl
theorem tb_2bn (cf : CallF) (n : Nat) (h : AHeap) (s : List Nat) (r2 : Int) (r3 : List Nat) (r4 x at' i : Int) (w : Bool) (b : Int) (y z : Bool) (c : Int) : (bodyI Try.prog H1 (flL [(3, 3), (5, 2), (6, 1), (6, 4), (6, 8), (6, 11), (10, 1), (11, 4)]) 48 cf n (frT2 s r2 r3 r4 x at' i w b y z) h).Goes [.ok (.bool true) h, .ok (.int .u8 c) h, .ok (.bool false) h, .ok (.bool true) h, .ok (.bool true) h] (.ok .ret (frT2 s 0 s 10 x at' i true (wrapK .i64 c) true z) h) =
  (OR.ok (.bool (ilt i (Int.ofNat (llen s)))) h = .ok (.bool true) h ∧ oSidx (xC (.str s)) (xC (i64 i)) cf .nil [] h = .ok (.int .u8 c) h ∧ OR.ok (.bool (ieq i 7)) h = .ok (.bool false) h ∧ OR.ok (.bool (ilt 0 i)) h = .ok (.bool true) h ∧ OR.ok (.bool (ieq (wrapK .i64 c) 0)) h = .ok (.bool true) h ∧ (.ok .ret (frT2 s 0 s 10 x at' i true (wrapK .i64 c) true z) h : Res) = (.ok .ret (frT2 s 0 s 10 x at' i true (wrapK .i64 c) true z) h)) := by kernel_rfl
theorem tb_2rn (cf : CallF) (n : Nat) (h : AHeap) (s : List Nat) (r2 : Int) (r3 : List Nat) (r4 x at' i : Int) (w : Bool) (b : Int) (y z : Bool) (c : Int) (rest : List Nat) : (bodyI Try.prog H1 (flL [(3, 3), (5, 2), (6, 1), (6, 4), (6, 8), (6, 11), (10, 1), (11, 4)]) 48 cf n (frT2 s r2 r3 r4 x at' i w b y z) h).Goes [.ok (.bool true) h, .ok (.int .u8 c) h, .ok (.bool false) h, .ok (.bool true) h, .ok (.bool false) h, .ok (.bool true) h, .ok (.str rest) h] (.ok .ret (frT2 s (wrapK .i64 (x + wrapK .i64 (Int.tmod (wrapK .i64 c) 128 * at'))) rest 0 (wrapK .i64 (x + wrapK .i64 (Int.tmod (wrapK .i64 c) 128 * at'))) (wrapK .i64 (at' * 128)) i true (wrapK .i64 c) false true) h) =
  (OR.ok (.bool (ilt i (Int.ofNat (llen s)))) h = .ok (.bool true) h ∧ oSidx (xC (.str s)) (xC (i64 i)) cf .nil [] h = .ok (.int .u8 c) h ∧ OR.ok (.bool (ieq i 7)) h = .ok (.bool false) h ∧ OR.ok (.bool (ilt 0 i)) h = .ok (.bool true) h ∧ OR.ok (.bool (ieq (wrapK .i64 c) 0)) h = .ok (.bool false) h ∧ OR.ok (.bool (ilt (wrapK .i64 c) 128)) h = .ok (.bool true) h ∧ oSlice .str (xC (.str s)) (some (xC (i64 (wrapK .i64 (i + 1))))) none none cf .nil [] h = .ok (.str rest) h ∧ (.ok .ret (frT2 s (wrapK .i64 (x + wrapK .i64 (Int.tmod (wrapK .i64 c) 128 * at'))) rest 0 (wrapK .i64 (x + wrapK .i64 (Int.tmod (wrapK .i64 c) 128 * at'))) (wrapK .i64 (at' * 128)) i true (wrapK .i64 c) false true) h : Res) = (.ok .ret (frT2 s (wrapK .i64 (x + wrapK .i64 (Int.tmod (wrapK .i64 c) 128 * at'))) rest 0 (wrapK .i64 (x + wrapK .i64 (Int.tmod (wrapK .i64 c) 128 * at'))) (wrapK .i64 (at' * 128)) i true (wrapK .i64 c) false true) h)) := by kernel_rfl
theorem tb_2n (cf : CallF) (n : Nat) (h : AHeap) (s : List Nat) (r2 : Int) (r3 : List Nat) (r4 x at' i : Int) (w : Bool) (b : Int) (y z : Bool) (c : Int) : (bodyI Try.prog H1 (flL [(3, 3), (5, 2), (6, 1), (6, 4), (6, 8), (6, 11), (10, 1), (11, 4)]) 48 cf n (frT2 s r2 r3 r4 x at' i w b y z) h).Goes [.ok (.bool true) h, .ok (.int .u8 c) h, .ok (.bool false) h, .ok (.bool true) h, .ok (.bool false) h, .ok (.bool false) h] (.ok .normal (frT2 s r2 r3 r4 (wrapK .i64 (x + wrapK .i64 (Int.tmod (wrapK .i64 c) 128 * at'))) (wrapK .i64 (at' * 128)) (wrapK .i64 (i + 1)) true (wrapK .i64 c) false false) h) =
  (OR.ok (.bool (ilt i (Int.ofNat (llen s)))) h = .ok (.bool true) h ∧ oSidx (xC (.str s)) (xC (i64 i)) cf .nil [] h = .ok (.int .u8 c) h ∧ OR.ok (.bool (ieq i 7)) h = .ok (.bool false) h ∧ OR.ok (.bool (ilt 0 i)) h = .ok (.bool true) h ∧ OR.ok (.bool (ieq (wrapK .i64 c) 0)) h = .ok (.bool false) h ∧ OR.ok (.bool (ilt (wrapK .i64 c) 128)) h = .ok (.bool false) h ∧ (.ok .normal (frT2 s r2 r3 r4 (wrapK .i64 (x + wrapK .i64 (Int.tmod (wrapK .i64 c) 128 * at'))) (wrapK .i64 (at' * 128)) (wrapK .i64 (i + 1)) true (wrapK .i64 c) false false) h : Res) = (.ok .normal (frT2 s r2 r3 r4 (wrapK .i64 (x + wrapK .i64 (Int.tmod (wrapK .i64 c) 128 * at'))) (wrapK .i64 (at' * 128)) (wrapK .i64 (i + 1)) true (wrapK .i64 c) false false) h)) := by kernel_rfl
theorem tk_1 (cf : CallF) (n : Nat) (h h2 : AHeap) (s : List Nat) (r2 : Int) (r3 : List Nat) (r4 x at' i : Int) (w : Bool) (b : Int) (y z : Bool)  : (stepI Try.prog H1 fl0 48 cf n [.str s] h).Goes [.res (.ok .ret (frT2 s r2 r3 r4 x at' i w b y z) h2)] (.ok (.tup [i64 r2, .str r3, i64 r4]) h2) =
  (cLoop (bodyRun Try.prog H1 48) cf n (frT0 s 0 [] 0 0 1 0) h = .ok .ret (frT2 s r2 r3 r4 x at' i w b y z) h2 ∧ (.ok (.tup [i64 r2, .str r3, i64 r4]) h2 : OR) = (.ok (.tup [i64 r2, .str r3, i64 r4]) h2)) := by kernel_rfl
theorem tk_2 (cf : CallF) (n : Nat) (h h2 : AHeap) (s : List Nat) (r2 : Int) (r3 : List Nat) (r4 x at' i : Int) (w : Bool) (b : Int) (y z : Bool)  : (stepI Try.prog H1 fl0 48 cf n [.str s] h).Goes [.res (.ok (.exit 0) (frT2 s r2 r3 r4 x at' i w b y z) h2)] (.ok (.tup [i64 0, .str s, i64 11]) h2) =
  (cLoop (bodyRun Try.prog H1 48) cf n (frT0 s 0 [] 0 0 1 0) h = .ok (.exit 0) (frT2 s r2 r3 r4 x at' i w b y z) h2 ∧ (.ok (.tup [i64 0, .str s, i64 11]) h2 : OR) = (.ok (.tup [i64 0, .str s, i64 11]) h2)) := by kernel_rfl
theorem tk_3 (cf : CallF) (n : Nat) (h h2 : AHeap) (s : List Nat) (r2 : Int) (r3 : List Nat) (r4 x at' i : Int) (w : Bool) : (stepI Try.prog H1 fl0 48 cf n [.str s] h).Goes [.res (.ok (.exit 0) (frT1 s r2 r3 r4 x at' i w) h2)] (.ok (.tup [i64 0, .str s, i64 11]) h2) =
  (cLoop (bodyRun Try.prog H1 48) cf n (frT0 s 0 [] 0 0 1 0) h = .ok (.exit 0) (frT1 s r2 r3 r4 x at' i w) h2 ∧ (.ok (.tup [i64 0, .str s, i64 11]) h2 : OR) = (.ok (.tup [i64 0, .str s, i64 11]) h2)) := by kernel_rfl
theorem tt_1 (cf : CallF) (n : Nat) (h : AHeap) (s r : List Nat) (x e : Int)  : (stepI Try.prog H1 (flL [(2, 1), (4, 2), (6, 3), (8, 2), (8, 5)]) 46 cf n [.str s, i64 24] h).Goes [.ok (.tup [i64 x, .str r, i64 e]) h, .ok (.bool true) h] (.ok (.tup [.str [], .str s, i64 e]) h) =
  (cf 48 [.str s] h = .ok (.tup [i64 x, .str r, i64 e]) h ∧ OR.ok (.bool (!(ieq e 0))) h = .ok (.bool true) h ∧ (.ok (.tup [.str [], .str s, i64 e]) h : OR) = (.ok (.tup [.str [], .str s, i64 e]) h)) := by kernel_rfl
theorem tt_2 (cf : CallF) (n : Nat) (h : AHeap) (s r : List Nat) (x e : Int)  : (stepI Try.prog H1 (flL [(2, 1), (4, 2), (6, 3), (8, 2), (8, 5)]) 46 cf n [.str s, i64 24] h).Goes [.ok (.tup [i64 x, .str r, i64 e]) h, .ok (.bool false) h, .ok (.bool true) h] (.ok (.tup [.str [], .str s, i64 13]) h) =
  (cf 48 [.str s] h = .ok (.tup [i64 x, .str r, i64 e]) h ∧ OR.ok (.bool (!(ieq e 0))) h = .ok (.bool false) h ∧ OR.ok (.bool (ilt 24 x)) h = .ok (.bool true) h ∧ (.ok (.tup [.str [], .str s, i64 13]) h : OR) = (.ok (.tup [.str [], .str s, i64 13]) h)) := by kernel_rfl
theorem tt_3 (cf : CallF) (n : Nat) (h : AHeap) (s r : List Nat) (x e : Int)  : (stepI Try.prog H1 (flL [(2, 1), (4, 2), (6, 3), (8, 2), (8, 5)]) 46 cf n [.str s, i64 24] h).Goes [.ok (.tup [i64 x, .str r, i64 e]) h, .ok (.bool false) h, .ok (.bool false) h, .ok (.bool true) h] (.ok (.tup [.str [], .str s, i64 11]) h) =
  (cf 48 [.str s] h = .ok (.tup [i64 x, .str r, i64 e]) h ∧ OR.ok (.bool (!(ieq e 0))) h = .ok (.bool false) h ∧ OR.ok (.bool (ilt 24 x)) h = .ok (.bool false) h ∧ OR.ok (.bool (ilt (Int.ofNat (llen r)) x)) h = .ok (.bool true) h ∧ (.ok (.tup [.str [], .str s, i64 11]) h : OR) = (.ok (.tup [.str [], .str s, i64 11]) h)) := by kernel_rfl
theorem tt_4 (cf : CallF) (n : Nat) (h : AHeap) (s r : List Nat) (x e : Int) (t u : List Nat) : (stepI Try.prog H1 (flL [(2, 1), (4, 2), (6, 3), (8, 2), (8, 5)]) 46 cf n [.str s, i64 24] h).Goes [.ok (.tup [i64 x, .str r, i64 e]) h, .ok (.bool false) h, .ok (.bool false) h, .ok (.bool false) h, .ok (.str t) h, .ok (.str u) h] (.ok (.tup [.str t, .str u, i64 0]) h) =
  (cf 48 [.str s] h = .ok (.tup [i64 x, .str r, i64 e]) h ∧ OR.ok (.bool (!(ieq e 0))) h = .ok (.bool false) h ∧ OR.ok (.bool (ilt 24 x)) h = .ok (.bool false) h ∧ OR.ok (.bool (ilt (Int.ofNat (llen r)) x)) h = .ok (.bool false) h ∧ oSlice .str (xC (.str r)) none (some (xC (i64 x))) none cf .nil [] h = .ok (.str t) h ∧ oSlice .str (xC (.str r)) (some (xC (i64 x))) none none cf .nil [] h = .ok (.str u) h ∧ (.ok (.tup [.str t, .str u, i64 0]) h : OR) = (.ok (.tup [.str t, .str u, i64 0]) h)) := by kernel_rfl
theorem rc_1 (cf : CallF) (n : Nat) (h : AHeap) (s : List Nat)  : (stepI Try.prog H1 (flL [(2, 1), (2, 5), (2, 6), (2, 11), (4, 2)]) 49 cf n [.str s] h).Goes [.ok (.bool true) h] (.ok (.tup [.str [], .bool false]) h) =
  (OR.ok (.bool (ilt (wrapK .i64 (Int.ofNat (llen s) - 4)) 1)) h = .ok (.bool true) h ∧ (.ok (.tup [.str [], .bool false]) h : OR) = (.ok (.tup [.str [], .bool false]) h)) := by kernel_rfl
theorem rc_2 (cf : CallF) (n : Nat) (h : AHeap) (s : List Nat) (t : List Nat)  : (stepI Try.prog H1 (flL [(2, 1), (2, 5), (2, 6), (2, 11), (4, 2)]) 49 cf n [.str s] h).Goes [.ok (.bool false) h, .ok (.str t) h, .ok (.bool true) h] (.ok (.tup [.str [], .bool false]) h) =
  (OR.ok (.bool (ilt (wrapK .i64 (Int.ofNat (llen s) - 4)) 1)) h = .ok (.bool false) h ∧ oSlice .str (xC (.str s)) (some (xC (i64 (wrapK .i64 (Int.ofNat (llen s) - 4))))) none none cf .nil [] h = .ok (.str t) h ∧ OR.ok (.bool (!(seq t [46, 114, 101, 99]))) h = .ok (.bool true) h ∧ (.ok (.tup [.str [], .bool false]) h : OR) = (.ok (.tup [.str [], .bool false]) h)) := by kernel_rfl
theorem rc_3 (cf : CallF) (n : Nat) (h : AHeap) (s : List Nat) (t u : List Nat)  : (stepI Try.prog H1 (flL [(2, 1), (2, 5), (2, 6), (2, 11), (4, 2)]) 49 cf n [.str s] h).Goes [.ok (.bool false) h, .ok (.str t) h, .ok (.bool false) h, .ok (.str u) h, .ok (.bool false) h] (.ok (.tup [.str [], .bool false]) h) =
  (OR.ok (.bool (ilt (wrapK .i64 (Int.ofNat (llen s) - 4)) 1)) h = .ok (.bool false) h ∧ oSlice .str (xC (.str s)) (some (xC (i64 (wrapK .i64 (Int.ofNat (llen s) - 4))))) none none cf .nil [] h = .ok (.str t) h ∧ OR.ok (.bool (!(seq t [46, 114, 101, 99]))) h = .ok (.bool false) h ∧ oSlice .str (xC (.str s)) none (some (xC (i64 (wrapK .i64 (Int.ofNat (llen s) - 4))))) none cf .nil [] h = .ok (.str u) h ∧ cf 22 [.str u] h = .ok (.bool false) h ∧ (.ok (.tup [.str [], .bool false]) h : OR) = (.ok (.tup [.str [], .bool false]) h)) := by kernel_rfl
theorem rc_4 (cf : CallF) (n : Nat) (h : AHeap) (s : List Nat) (t u : List Nat)  : (stepI Try.prog H1 (flL [(2, 1), (2, 5), (2, 6), (2, 11), (4, 2)]) 49 cf n [.str s] h).Goes [.ok (.bool false) h, .ok (.str t) h, .ok (.bool false) h, .ok (.str u) h, .ok (.bool true) h, .ok (.str u) h] (.ok (.tup [.str u, .bool true]) h) =
  (OR.ok (.bool (ilt (wrapK .i64 (Int.ofNat (llen s) - 4)) 1)) h = .ok (.bool false) h ∧ oSlice .str (xC (.str s)) (some (xC (i64 (wrapK .i64 (Int.ofNat (llen s) - 4))))) none none cf .nil [] h = .ok (.str t) h ∧ OR.ok (.bool (!(seq t [46, 114, 101, 99]))) h = .ok (.bool false) h ∧ oSlice .str (xC (.str s)) none (some (xC (i64 (wrapK .i64 (Int.ofNat (llen s) - 4))))) none cf .nil [] h = .ok (.str u) h ∧ cf 22 [.str u] h = .ok (.bool true) h ∧ oSlice .str (xC (.str s)) none (some (xC (i64 (wrapK .i64 (Int.ofNat (llen s) - 4))))) none cf .nil [] h = .ok (.str u) h ∧ (.ok (.tup [.str u, .bool true]) h : OR) = (.ok (.tup [.str u, .bool true]) h)) := by kernel_rfl
theorem kw_0 (cf : CallF) (n : Nat) (h : AHeap) (s : List Nat)  : (stepI Try.prog H1 (flL [(1, 1), (1, 4), (1, 8), (1, 12), (1, 17), (1, 20), (1, 21), (1, 25), (1, 26), (1, 30), (1, 31)]) 50 cf n [.str s] h).Goes [.ok (.bool true) h] (.ok (.bool true) h) =
  (OR.ok (.bool (seq s [102, 117, 110])) h = .ok (.bool true) h ∧ (.ok (.bool true) h : OR) = (.ok (.bool true) h)) := by kernel_rfl
theorem kw_1 (cf : CallF) (n : Nat) (h : AHeap) (s : List Nat)  : (stepI Try.prog H1 (flL [(1, 1), (1, 4), (1, 8), (1, 12), (1, 17), (1, 20), (1, 21), (1, 25), (1, 26), (1, 30), (1, 31)]) 50 cf n [.str s] h).Goes [.ok (.bool false) h, .ok (.bool true) h] (.ok (.bool true) h) =
  (OR.ok (.bool (seq s [102, 117, 110])) h = .ok (.bool false) h ∧ OR.ok (.bool (seq s [112, 105])) h = .ok (.bool true) h ∧ (.ok (.bool true) h : OR) = (.ok (.bool true) h)) := by kernel_rfl
theorem kw_2 (cf : CallF) (n : Nat) (h : AHeap) (s : List Nat)  : (stepI Try.prog H1 (flL [(1, 1), (1, 4), (1, 8), (1, 12), (1, 17), (1, 20), (1, 21), (1, 25), (1, 26), (1, 30), (1, 31)]) 50 cf n [.str s] h).Goes [.ok (.bool false) h, .ok (.bool false) h, .ok (.bool true) h] (.ok (.bool true) h) =
  (OR.ok (.bool (seq s [102, 117, 110])) h = .ok (.bool false) h ∧ OR.ok (.bool (seq s [112, 105])) h = .ok (.bool false) h ∧ OR.ok (.bool (seq s [108, 101, 116])) h = .ok (.bool true) h ∧ (.ok (.bool true) h : OR) = (.ok (.bool true) h)) := by kernel_rfl
theorem kw_3 (cf : CallF) (n : Nat) (h : AHeap) (s : List Nat)  : (stepI Try.prog H1 (flL [(1, 1), (1, 4), (1, 8), (1, 12), (1, 17), (1, 20), (1, 21), (1, 25), (1, 26), (1, 30), (1, 31)]) 50 cf n [.str s] h).Goes [.ok (.bool false) h, .ok (.bool false) h, .ok (.bool false) h, .ok (.bool true) h] (.ok (.bool true) h) =
  (OR.ok (.bool (seq s [102, 117, 110])) h = .ok (.bool false) h ∧ OR.ok (.bool (seq s [112, 105])) h = .ok (.bool false) h ∧ OR.ok (.bool (seq s [108, 101, 116])) h = .ok (.bool false) h ∧ OR.ok (.bool (seq s [105, 110])) h = .ok (.bool true) h ∧ (.ok (.bool true) h : OR) = (.ok (.bool true) h)) := by kernel_rfl
theorem kw_4 (cf : CallF) (n : Nat) (h : AHeap) (s : List Nat)  : (stepI Try.prog H1 (flL [(1, 1), (1, 4), (1, 8), (1, 12), (1, 17), (1, 20), (1, 21), (1, 25), (1, 26), (1, 30), (1, 31)]) 50 cf n [.str s] h).Goes [.ok (.bool false) h, .ok (.bool false) h, .ok (.bool false) h, .ok (.bool false) h, .ok (.bool false) h] (.ok (.bool false) h) =
  (OR.ok (.bool (seq s [102, 117, 110])) h = .ok (.bool false) h ∧ OR.ok (.bool (seq s [112, 105])) h = .ok (.bool false) h ∧ OR.ok (.bool (seq s [108, 101, 116])) h = .ok (.bool false) h ∧ OR.ok (.bool (seq s [105, 110])) h = .ok (.bool false) h ∧ OR.ok (.bool (ieq (Int.ofNat (llen s)) 5)) h = .ok (.bool false) h ∧ (.ok (.bool false) h : OR) = (.ok (.bool false) h)) := by kernel_rfl
theorem kw_5 (cf : CallF) (n : Nat) (h : AHeap) (s : List Nat) (t : List Nat) : (stepI Try.prog H1 (flL [(1, 1), (1, 4), (1, 8), (1, 12), (1, 17), (1, 20), (1, 21), (1, 25), (1, 26), (1, 30), (1, 31)]) 50 cf n [.str s] h).Goes [.ok (.bool false) h, .ok (.bool false) h, .ok (.bool false) h, .ok (.bool false) h, .ok (.bool true) h, .ok (.str t) h, .ok (.bool false) h] (.ok (.bool false) h) =
  (OR.ok (.bool (seq s [102, 117, 110])) h = .ok (.bool false) h ∧ OR.ok (.bool (seq s [112, 105])) h = .ok (.bool false) h ∧ OR.ok (.bool (seq s [108, 101, 116])) h = .ok (.bool false) h ∧ OR.ok (.bool (seq s [105, 110])) h = .ok (.bool false) h ∧ OR.ok (.bool (ieq (Int.ofNat (llen s)) 5)) h = .ok (.bool true) h ∧ oSlice .str (xC (.str s)) none (some (xC (i64 4))) none cf .nil [] h = .ok (.str t) h ∧ OR.ok (.bool (seq t [84, 121, 112, 101])) h = .ok (.bool false) h ∧ (.ok (.bool false) h : OR) = (.ok (.bool false) h)) := by kernel_rfl
theorem kw_6 (cf : CallF) (n : Nat) (h : AHeap) (s : List Nat) (t : List Nat) (c : Int) : (stepI Try.prog H1 (flL [(1, 1), (1, 4), (1, 8), (1, 12), (1, 17), (1, 20), (1, 21), (1, 25), (1, 26), (1, 30), (1, 31)]) 50 cf n [.str s] h).Goes [.ok (.bool false) h, .ok (.bool false) h, .ok (.bool false) h, .ok (.bool false) h, .ok (.bool true) h, .ok (.str t) h, .ok (.bool true) h, .ok (.int .u8 c) h, .ok (.bool false) h] (.ok (.bool false) h) =
  (OR.ok (.bool (seq s [102, 117, 110])) h = .ok (.bool false) h ∧ OR.ok (.bool (seq s [112, 105])) h = .ok (.bool false) h ∧ OR.ok (.bool (seq s [108, 101, 116])) h = .ok (.bool false) h ∧ OR.ok (.bool (seq s [105, 110])) h = .ok (.bool false) h ∧ OR.ok (.bool (ieq (Int.ofNat (llen s)) 5)) h = .ok (.bool true) h ∧ oSlice .str (xC (.str s)) none (some (xC (i64 4))) none cf .nil [] h = .ok (.str t) h ∧ OR.ok (.bool (seq t [84, 121, 112, 101])) h = .ok (.bool true) h ∧ oSidx (xC (.str s)) (xC (i64 4)) cf .nil [] h = .ok (.int .u8 c) h ∧ OR.ok (.bool (!(ilt c 48))) h = .ok (.bool false) h ∧ (.ok (.bool false) h : OR) = (.ok (.bool false) h)) := by kernel_rfl
theorem kw_7 (cf : CallF) (n : Nat) (h : AHeap) (s : List Nat) (t : List Nat) (c : Int) (r : Bool) : (stepI Try.prog H1 (flL [(1, 1), (1, 4), (1, 8), (1, 12), (1, 17), (1, 20), (1, 21), (1, 25), (1, 26), (1, 30), (1, 31)]) 50 cf n [.str s] h).Goes [.ok (.bool false) h, .ok (.bool false) h, .ok (.bool false) h, .ok (.bool false) h, .ok (.bool true) h, .ok (.str t) h, .ok (.bool true) h, .ok (.int .u8 c) h, .ok (.bool true) h, .ok (.int .u8 c) h, .ok (.bool r) h] (.ok (.bool r) h) =
  (OR.ok (.bool (seq s [102, 117, 110])) h = .ok (.bool false) h ∧ OR.ok (.bool (seq s [112, 105])) h = .ok (.bool false) h ∧ OR.ok (.bool (seq s [108, 101, 116])) h = .ok (.bool false) h ∧ OR.ok (.bool (seq s [105, 110])) h = .ok (.bool false) h ∧ OR.ok (.bool (ieq (Int.ofNat (llen s)) 5)) h = .ok (.bool true) h ∧ oSlice .str (xC (.str s)) none (some (xC (i64 4))) none cf .nil [] h = .ok (.str t) h ∧ OR.ok (.bool (seq t [84, 121, 112, 101])) h = .ok (.bool true) h ∧ oSidx (xC (.str s)) (xC (i64 4)) cf .nil [] h = .ok (.int .u8 c) h ∧ OR.ok (.bool (!(ilt c 48))) h = .ok (.bool true) h ∧ oSidx (xC (.str s)) (xC (i64 4)) cf .nil [] h = .ok (.int .u8 c) h ∧ OR.ok (.bool (!(ilt 57 c))) h = .ok (.bool r) h ∧ (.ok (.bool r) h : OR) = (.ok (.bool r) h)) := by kernel_rfl
theorem pa_4 (cf : CallF) (n : Nat) (h : AHeap) (x : Int)  : (stepI Try.prog H1 (flL [(2, 0), (3, 0), (4, 0), (6, 0)]) 33 cf n [i64 x] h).Goes [.ok (.bool true) h] (.ok (i64 2) h) =
  (OR.ok (.bool (ieq x 4)) h = .ok (.bool true) h ∧ (.ok (i64 2) h : OR) = (.ok (i64 2) h)) := by kernel_rfl
theorem pa_5 (cf : CallF) (n : Nat) (h : AHeap) (x : Int)  : (stepI Try.prog H1 (flL [(2, 0), (3, 0), (4, 0), (6, 0)]) 33 cf n [i64 x] h).Goes [.ok (.bool false) h, .ok (.bool true) h] (.ok (i64 2) h) =
  (OR.ok (.bool (ieq x 4)) h = .ok (.bool false) h ∧ OR.ok (.bool (ieq x 5)) h = .ok (.bool true) h ∧ (.ok (i64 2) h : OR) = (.ok (i64 2) h)) := by kernel_rfl
theorem pa_6 (cf : CallF) (n : Nat) (h : AHeap) (x : Int)  : (stepI Try.prog H1 (flL [(2, 0), (3, 0), (4, 0), (6, 0)]) 33 cf n [i64 x] h).Goes [.ok (.bool false) h, .ok (.bool false) h, .ok (.bool true) h] (.ok (i64 2) h) =
  (OR.ok (.bool (ieq x 4)) h = .ok (.bool false) h ∧ OR.ok (.bool (ieq x 5)) h = .ok (.bool false) h ∧ OR.ok (.bool (ieq x 6)) h = .ok (.bool true) h ∧ (.ok (i64 2) h : OR) = (.ok (i64 2) h)) := by kernel_rfl
theorem pa_7 (cf : CallF) (n : Nat) (h : AHeap) (x : Int)  : (stepI Try.prog H1 (flL [(2, 0), (3, 0), (4, 0), (6, 0)]) 33 cf n [i64 x] h).Goes [.ok (.bool false) h, .ok (.bool false) h, .ok (.bool false) h, .ok (.bool true) h] (.ok (i64 3) h) =
  (OR.ok (.bool (ieq x 4)) h = .ok (.bool false) h ∧ OR.ok (.bool (ieq x 5)) h = .ok (.bool false) h ∧ OR.ok (.bool (ieq x 6)) h = .ok (.bool false) h ∧ OR.ok (.bool (ieq x 7)) h = .ok (.bool true) h ∧ (.ok (i64 3) h : OR) = (.ok (i64 3) h)) := by kernel_rfl
theorem pa_0 (cf : CallF) (n : Nat) (h : AHeap) (x : Int)  : (stepI Try.prog H1 (flL [(2, 0), (3, 0), (4, 0), (6, 0)]) 33 cf n [i64 x] h).Goes [.ok (.bool false) h, .ok (.bool false) h, .ok (.bool false) h, .ok (.bool false) h] (.ok (i64 0) h) =
  (OR.ok (.bool (ieq x 4)) h = .ok (.bool false) h ∧ OR.ok (.bool (ieq x 5)) h = .ok (.bool false) h ∧ OR.ok (.bool (ieq x 6)) h = .ok (.bool false) h ∧ OR.ok (.bool (ieq x 7)) h = .ok (.bool false) h ∧ (.ok (i64 0) h : OR) = (.ok (i64 0) h)) := by kernel_rfl
end Go.Vd
