/-
  ShiftTells: whatever the input, the law returns true; no condition. Proved by an abstract evaluator of loaded code that is sound for every program, and by what each function of this seat does on trees.

-/
import Derived.Carry
import Derived.SliceStrings
import Derived.OpenShut
import Derived.Test.YtcafdimefhdfnaaXah
namespace Go.Vd
open Go Go.RowKit Go.Proofs
set_option maxRecDepth 100000
set_option maxHeartbeats 0
abbrev frA0 (L S : AV) (i : Int) : PT AV := (.node (some L) (.node none (.node (some S) .nil .nil) .nil) (.node (some .nils) (.node (some (i64 i)) .nil .nil) .nil))
abbrev frA1 (L S : AV) (i : Int) (w : Bool) : PT AV := (.node (some L) (.node none (.node (some S) .nil .nil) (.node none (.node (some (.bool w)) .nil .nil) .nil)) (.node (some .nils) (.node (some (i64 i)) .nil .nil) .nil))
abbrev frA2 (L S : AV) (i : Int) (w : Bool) (a : AV) (z : Bool) : PT AV := (.node (some L) (.node none (.node (some S) .nil .nil) (.node (some a) (.node (some (.bool w)) .nil .nil) .nil)) (.node (some .nils) (.node (some (i64 i)) .nil .nil) (.node none (.node none (.node (some (.bool z)) .nil .nil) .nil) .nil)))
abbrev frM0 (s u : AV) (by' fm at' : Int) (nm : List Nat) (L : AV) (r : Bool) (x1 x2 : List AV) (V : AV) (i : Int) : PT AV := (.node (some s) (.node (some u) (.node (some (.int .u8 fm)) (.node none (.node (some (.imm x1 0)) .nil .nil) (.node (some (.bool false)) .nil .nil)) .nil) (.node (some (.str nm)) (.node none (.node (some V) .nil .nil) .nil) .nil)) (.node (some (.int .u8 by')) (.node (some (.int .u8 at')) (.node none (.node (some (.imm x2 0)) .nil .nil) .nil) .nil) (.node (some L) (.node none (.node (some (i64 i)) .nil (.node (some (.bool false)) .nil .nil)) .nil) (.node (some (.bool r)) .nil .nil))))
abbrev frM1 (s u : AV) (by' fm at' : Int) (nm : List Nat) (L : AV) (r : Bool) (x1 x2 : List AV) (V : AV) (i : Int) (w : Bool) : PT AV := (.node (some s) (.node (some u) (.node (some (.int .u8 fm)) (.node none (.node (some (.imm x1 0)) .nil .nil) (.node (some (.bool false)) .nil .nil)) .nil) (.node (some (.str nm)) (.node none (.node (some V) .nil .nil) .nil) .nil)) (.node (some (.int .u8 by')) (.node (some (.int .u8 at')) (.node none (.node (some (.imm x2 0)) .nil .nil) (.node none .nil (.node (some (.bool w)) .nil .nil))) .nil) (.node (some L) (.node none (.node (some (i64 i)) .nil (.node (some (.bool false)) .nil .nil)) .nil) (.node (some (.bool r)) .nil .nil))))
abbrev frM2 (s u : AV) (by' fm at' : Int) (nm : List Nat) (L : AV) (r : Bool) (x1 x2 : List AV) (V : AV) (i : Int) (w z : Bool) : PT AV := (.node (some s) (.node (some u) (.node (some (.int .u8 fm)) (.node none (.node (some (.imm x1 0)) .nil .nil) (.node (some (.bool false)) .nil .nil)) .nil) (.node (some (.str nm)) (.node none (.node (some V) .nil .nil) .nil) (.node none (.node none (.node none (.node (some (.bool z)) .nil .nil) .nil) .nil) .nil))) (.node (some (.int .u8 by')) (.node (some (.int .u8 at')) (.node none (.node (some (.imm x2 0)) .nil .nil) (.node none .nil (.node (some (.bool w)) .nil .nil))) .nil) (.node (some L) (.node none (.node (some (i64 i)) .nil (.node (some (.bool false)) .nil .nil)) .nil) (.node (some (.bool r)) .nil .nil))))
theorem pt_nil {cf : CallF} {n : Nat} {h : AHeap} {u : AV} {at' : Int} {dp : Int} : (stepI Try.prog H1 (flL [(3, 4), (4, 7), (6, 7), (9, 5)]) 36 cf n [.nilp, u, i64 at', i64 dp] h).Goes [] (.ok .nilp h) =
  ((.ok .nilp h : OR) = (.ok .nilp h)) := by kernel_rfl
theorem pt_v1 {cf : CallF} {n : Nat} {h : AHeap} {m : Int} {u : AV} {at' : Int} {dp : Int} {w : AV} : (stepI Try.prog H1 (flL [(3, 4), (4, 7), (6, 7), (9, 5)]) 36 cf n [.imm (vc m) 0, u, i64 at', i64 dp] h).Goes [.ok (.bool true) h, .ok (.bool true) h, .ok w h] (.ok w h) =
  (OR.ok (.bool (ieq 2 2)) h = .ok (.bool true) h ∧ OR.ok (.bool (ieq m (wrapK .i64 (at' + dp)))) h = .ok (.bool true) h ∧ cf 14 [u, i64 dp, i64 0] h = .ok w h ∧ (.ok w h : OR) = (.ok w h)) := by kernel_rfl
theorem pt_v2 {cf : CallF} {n : Nat} {h : AHeap} {m : Int} {u : AV} {at' : Int} {dp : Int} {w : AV} : (stepI Try.prog H1 (flL [(3, 4), (4, 7), (6, 7), (9, 5)]) 36 cf n [.imm (vc m) 0, u, i64 at', i64 dp] h).Goes [.ok (.bool true) h, .ok (.bool false) h, .ok (.bool true) h, .ok w h] (.ok w h) =
  (OR.ok (.bool (ieq 2 2)) h = .ok (.bool true) h ∧ OR.ok (.bool (ieq m (wrapK .i64 (at' + dp)))) h = .ok (.bool false) h ∧ OR.ok (.bool (ilt (wrapK .i64 (at' + dp)) m)) h = .ok (.bool true) h ∧ cf 27 [i64 (wrapK .i64 (m - 1))] h = .ok w h ∧ (.ok w h : OR) = (.ok w h)) := by kernel_rfl
theorem pt_v3 {cf : CallF} {n : Nat} {h : AHeap} {m : Int} {u : AV} {at' : Int} {dp : Int} : (stepI Try.prog H1 (flL [(3, 4), (4, 7), (6, 7), (9, 5)]) 36 cf n [.imm (vc m) 0, u, i64 at', i64 dp] h).Goes [.ok (.bool true) h, .ok (.bool false) h, .ok (.bool false) h] (.ok (.imm (vc m) 0) h) =
  (OR.ok (.bool (ieq 2 2)) h = .ok (.bool true) h ∧ OR.ok (.bool (ieq m (wrapK .i64 (at' + dp)))) h = .ok (.bool false) h ∧ OR.ok (.bool (ilt (wrapK .i64 (at' + dp)) m)) h = .ok (.bool false) h ∧ (.ok (.imm (vc m) 0) h : OR) = (.ok (.imm (vc m) 0) h)) := by kernel_rfl
theorem pt_l {cf : CallF} {n : Nat} {h : AHeap} {k : Int} {m : Int} {s : List Nat} {a : AV} {b : AV} {u : AV} {at' : Int} {dp : Int} {p : Int} : (stepI Try.prog H1 (flL [(3, 4), (4, 7), (6, 7), (9, 5)]) 36 cf n [sz3 k m s a b .nilp, u, i64 at', i64 dp] h).Goes [.ok (.bool false) h, .ok (i64 p) h, .ok (.bool true) h] (.ok (sz3 k m s a b .nilp) h) =
  (OR.ok (.bool (ieq k 2)) h = .ok (.bool false) h ∧ cf 33 [i64 k] h = .ok (i64 p) h ∧ OR.ok (.bool (ieq p 0)) h = .ok (.bool true) h ∧ (.ok (sz3 k m s a b .nilp) h : OR) = (.ok (sz3 k m s a b .nilp) h)) := by kernel_rfl
theorem pt_n2 {cf : CallF} {n : Nat} {h : AHeap} {k : Int} {m : Int} {s : List Nat} {a : AV} {b : AV} {u : AV} {at' : Int} {dp : Int} {x : List AV} {y : List AV} {p : Int} {u1 : Int} {u2 : Int} : (stepI Try.prog H1 (flL [(3, 4), (4, 7), (6, 7), (9, 5)]) 36 cf n [sz3 k m s a b .nilp, u, i64 at', i64 dp] h).Goes [.ok (.bool false) h, .ok (i64 p) h, .ok (.bool false) h, .ok (.imm x 0) h, .ok (i64 u1) h, .ok (.imm y 0) h, .ok (i64 u2) h, .ok (.nilp) h] (.ok (.imm [i64 k, i64 0, .str [], .imm x 0, .imm y 0, .nilp] 0) h) =
  (OR.ok (.bool (ieq k 2)) h = .ok (.bool false) h ∧ cf 33 [i64 k] h = .ok (i64 p) h ∧ OR.ok (.bool (ieq p 0)) h = .ok (.bool false) h ∧ cf 36 [a, u, i64 at', i64 dp] h = .ok (.imm x 0) h ∧ cf 34 [sz3 k m s a b .nilp, i64 1] h = .ok (i64 u1) h ∧ cf 36 [b, u, i64 at', i64 (wrapK .i64 (dp + u1))] h = .ok (.imm y 0) h ∧ cf 34 [sz3 k m s a b .nilp, i64 2] h = .ok (i64 u2) h ∧ cf 36 [.nilp, u, i64 at', i64 (wrapK .i64 (dp + u2))] h = .ok (.nilp) h ∧ (.ok (.imm [i64 k, i64 0, .str [], .imm x 0, .imm y 0, .nilp] 0) h : OR) = (.ok (.imm [i64 k, i64 0, .str [], .imm x 0, .imm y 0, .nilp] 0) h)) := by kernel_rfl
theorem pt_n3 {cf : CallF} {n : Nat} {h : AHeap} {k : Int} {m : Int} {s : List Nat} {a : AV} {b : AV} {u : AV} {at' : Int} {dp : Int} {x : List AV} {y : List AV} {z : List AV} {p : Int} {u1 : Int} {u2 : Int} {w3 : List AV} : (stepI Try.prog H1 (flL [(3, 4), (4, 7), (6, 7), (9, 5)]) 36 cf n [sz3 k m s a b (.imm w3 0), u, i64 at', i64 dp] h).Goes [.ok (.bool false) h, .ok (i64 p) h, .ok (.bool false) h, .ok (.imm x 0) h, .ok (i64 u1) h, .ok (.imm y 0) h, .ok (i64 u2) h, .ok (.imm z 0) h] (.ok (.imm [i64 k, i64 0, .str [], .imm x 0, .imm y 0, .imm z 0] 0) h) =
  (OR.ok (.bool (ieq k 2)) h = .ok (.bool false) h ∧ cf 33 [i64 k] h = .ok (i64 p) h ∧ OR.ok (.bool (ieq p 0)) h = .ok (.bool false) h ∧ cf 36 [a, u, i64 at', i64 dp] h = .ok (.imm x 0) h ∧ cf 34 [sz3 k m s a b (.imm w3 0), i64 1] h = .ok (i64 u1) h ∧ cf 36 [b, u, i64 at', i64 (wrapK .i64 (dp + u1))] h = .ok (.imm y 0) h ∧ cf 34 [sz3 k m s a b (.imm w3 0), i64 2] h = .ok (i64 u2) h ∧ cf 36 [.imm w3 0, u, i64 at', i64 (wrapK .i64 (dp + u2))] h = .ok (.imm z 0) h ∧ (.ok (.imm [i64 k, i64 0, .str [], .imm x 0, .imm y 0, .imm z 0] 0) h : OR) = (.ok (.imm [i64 k, i64 0, .str [], .imm x 0, .imm y 0, .imm z 0] 0) h)) := by kernel_rfl
theorem put16 {cf : CallF} {n : Nat} {h : AHeap} {a : AV} {b : AV} {at' : Int} {w : AV} : (stepI Try.prog H1 fl0 16 cf n [a, b, i64 at'] h).Goes [.ok w h] (.ok w h) =
  (cf 36 [a, b, i64 at', i64 0] h = .ok w h ∧ (.ok w h : OR) = (.ok w h)) := by kernel_rfl
theorem bd_nil {cf : CallF} {n : Nat} {h : AHeap} {dp : Int} {nm : List Nat} : (stepI Try.prog H1 (flL [(3, 4), (3, 11), (3, 18), (5, 4), (5, 11), (7, 5)]) 38 cf n [.nilp, .str nm, i64 dp] h).Goes [] (.ok .nilp h) =
  ((.ok .nilp h : OR) = (.ok .nilp h)) := by kernel_rfl
theorem bd_c1 {cf : CallF} {n : Nat} {h : AHeap} {m : Int} {s : List Nat} {dp : Int} {w : AV} {nm : List Nat} : (stepI Try.prog H1 (flL [(3, 4), (3, 11), (3, 18), (5, 4), (5, 11), (7, 5)]) 38 cf n [.imm (kc s m) 0, .str nm, i64 dp] h).Goes [.ok (.bool true) h, .ok (.bool true) h, .ok (.bool true) h, .ok w h] (.ok w h) =
  (OR.ok (.bool (ieq 3 3)) h = .ok (.bool true) h ∧ OR.ok (.bool (seq s nm)) h = .ok (.bool true) h ∧ OR.ok (.bool (ieq m 0)) h = .ok (.bool true) h ∧ cf 27 [i64 dp] h = .ok w h ∧ (.ok w h : OR) = (.ok w h)) := by kernel_rfl
theorem bd_c2 {cf : CallF} {n : Nat} {h : AHeap} {m : Int} {s : List Nat} {dp : Int} {p : Int} {nm : List Nat} : (stepI Try.prog H1 (flL [(3, 4), (3, 11), (3, 18), (5, 4), (5, 11), (7, 5)]) 38 cf n [.imm (kc s m) 0, .str nm, i64 dp] h).Goes [.ok (.bool true) h, .ok (.bool true) h, .ok (.bool false) h, .ok (.bool false) h, .ok (i64 p) h, .ok (.bool true) h] (.ok (.imm (kc s m) 0) h) =
  (OR.ok (.bool (ieq 3 3)) h = .ok (.bool true) h ∧ OR.ok (.bool (seq s nm)) h = .ok (.bool true) h ∧ OR.ok (.bool (ieq m 0)) h = .ok (.bool false) h ∧ OR.ok (.bool (ieq 3 2)) h = .ok (.bool false) h ∧ cf 33 [i64 3] h = .ok (i64 p) h ∧ OR.ok (.bool (ieq p 0)) h = .ok (.bool true) h ∧ (.ok (.imm (kc s m) 0) h : OR) = (.ok (.imm (kc s m) 0) h)) := by kernel_rfl
theorem bd_c3 {cf : CallF} {n : Nat} {h : AHeap} {m : Int} {s : List Nat} {dp : Int} {p : Int} {nm : List Nat} : (stepI Try.prog H1 (flL [(3, 4), (3, 11), (3, 18), (5, 4), (5, 11), (7, 5)]) 38 cf n [.imm (kc s m) 0, .str nm, i64 dp] h).Goes [.ok (.bool true) h, .ok (.bool false) h, .ok (.bool false) h, .ok (i64 p) h, .ok (.bool true) h] (.ok (.imm (kc s m) 0) h) =
  (OR.ok (.bool (ieq 3 3)) h = .ok (.bool true) h ∧ OR.ok (.bool (seq s nm)) h = .ok (.bool false) h ∧ OR.ok (.bool (ieq 3 2)) h = .ok (.bool false) h ∧ cf 33 [i64 3] h = .ok (i64 p) h ∧ OR.ok (.bool (ieq p 0)) h = .ok (.bool true) h ∧ (.ok (.imm (kc s m) 0) h : OR) = (.ok (.imm (kc s m) 0) h)) := by kernel_rfl
theorem bd_v1 {cf : CallF} {n : Nat} {h : AHeap} {m : Int} {dp : Int} {w : AV} {nm : List Nat} : (stepI Try.prog H1 (flL [(3, 4), (3, 11), (3, 18), (5, 4), (5, 11), (7, 5)]) 38 cf n [.imm (vc m) 0, .str nm, i64 dp] h).Goes [.ok (.bool false) h, .ok (.bool true) h, .ok (.bool true) h, .ok w h] (.ok w h) =
  (OR.ok (.bool (ieq 2 3)) h = .ok (.bool false) h ∧ OR.ok (.bool (ieq 2 2)) h = .ok (.bool true) h ∧ OR.ok (.bool (!(ilt m dp))) h = .ok (.bool true) h ∧ cf 27 [i64 (wrapK .i64 (m + 1))] h = .ok w h ∧ (.ok w h : OR) = (.ok w h)) := by kernel_rfl
theorem bd_v2 {cf : CallF} {n : Nat} {h : AHeap} {m : Int} {dp : Int} {p : Int} {nm : List Nat} : (stepI Try.prog H1 (flL [(3, 4), (3, 11), (3, 18), (5, 4), (5, 11), (7, 5)]) 38 cf n [.imm (vc m) 0, .str nm, i64 dp] h).Goes [.ok (.bool false) h, .ok (.bool true) h, .ok (.bool false) h, .ok (i64 p) h, .ok (.bool true) h] (.ok (.imm (vc m) 0) h) =
  (OR.ok (.bool (ieq 2 3)) h = .ok (.bool false) h ∧ OR.ok (.bool (ieq 2 2)) h = .ok (.bool true) h ∧ OR.ok (.bool (!(ilt m dp))) h = .ok (.bool false) h ∧ cf 33 [i64 2] h = .ok (i64 p) h ∧ OR.ok (.bool (ieq p 0)) h = .ok (.bool true) h ∧ (.ok (.imm (vc m) 0) h : OR) = (.ok (.imm (vc m) 0) h)) := by kernel_rfl
theorem bd_l {cf : CallF} {n : Nat} {h : AHeap} {k : Int} {m : Int} {s : List Nat} {a : AV} {b : AV} {dp : Int} {p : Int} {nm : List Nat} : (stepI Try.prog H1 (flL [(3, 4), (3, 11), (3, 18), (5, 4), (5, 11), (7, 5)]) 38 cf n [sz3 k m s a b .nilp, .str nm, i64 dp] h).Goes [.ok (.bool false) h, .ok (.bool false) h, .ok (i64 p) h, .ok (.bool true) h] (.ok (sz3 k m s a b .nilp) h) =
  (OR.ok (.bool (ieq k 3)) h = .ok (.bool false) h ∧ OR.ok (.bool (ieq k 2)) h = .ok (.bool false) h ∧ cf 33 [i64 k] h = .ok (i64 p) h ∧ OR.ok (.bool (ieq p 0)) h = .ok (.bool true) h ∧ (.ok (sz3 k m s a b .nilp) h : OR) = (.ok (sz3 k m s a b .nilp) h)) := by kernel_rfl
theorem bd_n2 {cf : CallF} {n : Nat} {h : AHeap} {k : Int} {m : Int} {s : List Nat} {a : AV} {b : AV} {dp : Int} {x : List AV} {y : List AV} {p : Int} {u1 : Int} {u2 : Int} {nm : List Nat} : (stepI Try.prog H1 (flL [(3, 4), (3, 11), (3, 18), (5, 4), (5, 11), (7, 5)]) 38 cf n [sz3 k m s a b .nilp, .str nm, i64 dp] h).Goes [.ok (.bool false) h, .ok (.bool false) h, .ok (i64 p) h, .ok (.bool false) h, .ok (.imm x 0) h, .ok (i64 u1) h, .ok (.imm y 0) h, .ok (i64 u2) h, .ok (.nilp) h] (.ok (.imm [i64 k, i64 0, .str [], .imm x 0, .imm y 0, .nilp] 0) h) =
  (OR.ok (.bool (ieq k 3)) h = .ok (.bool false) h ∧ OR.ok (.bool (ieq k 2)) h = .ok (.bool false) h ∧ cf 33 [i64 k] h = .ok (i64 p) h ∧ OR.ok (.bool (ieq p 0)) h = .ok (.bool false) h ∧ cf 38 [a, .str nm, i64 dp] h = .ok (.imm x 0) h ∧ cf 34 [sz3 k m s a b .nilp, i64 1] h = .ok (i64 u1) h ∧ cf 38 [b, .str nm, i64 (wrapK .i64 (dp + u1))] h = .ok (.imm y 0) h ∧ cf 34 [sz3 k m s a b .nilp, i64 2] h = .ok (i64 u2) h ∧ cf 38 [.nilp, .str nm, i64 (wrapK .i64 (dp + u2))] h = .ok (.nilp) h ∧ (.ok (.imm [i64 k, i64 0, .str [], .imm x 0, .imm y 0, .nilp] 0) h : OR) = (.ok (.imm [i64 k, i64 0, .str [], .imm x 0, .imm y 0, .nilp] 0) h)) := by kernel_rfl
theorem bd_n3 {cf : CallF} {n : Nat} {h : AHeap} {k : Int} {m : Int} {s : List Nat} {a : AV} {b : AV} {dp : Int} {x : List AV} {y : List AV} {z : List AV} {p : Int} {u1 : Int} {u2 : Int} {nm : List Nat} {w3 : List AV} : (stepI Try.prog H1 (flL [(3, 4), (3, 11), (3, 18), (5, 4), (5, 11), (7, 5)]) 38 cf n [sz3 k m s a b (.imm w3 0), .str nm, i64 dp] h).Goes [.ok (.bool false) h, .ok (.bool false) h, .ok (i64 p) h, .ok (.bool false) h, .ok (.imm x 0) h, .ok (i64 u1) h, .ok (.imm y 0) h, .ok (i64 u2) h, .ok (.imm z 0) h] (.ok (.imm [i64 k, i64 0, .str [], .imm x 0, .imm y 0, .imm z 0] 0) h) =
  (OR.ok (.bool (ieq k 3)) h = .ok (.bool false) h ∧ OR.ok (.bool (ieq k 2)) h = .ok (.bool false) h ∧ cf 33 [i64 k] h = .ok (i64 p) h ∧ OR.ok (.bool (ieq p 0)) h = .ok (.bool false) h ∧ cf 38 [a, .str nm, i64 dp] h = .ok (.imm x 0) h ∧ cf 34 [sz3 k m s a b (.imm w3 0), i64 1] h = .ok (i64 u1) h ∧ cf 38 [b, .str nm, i64 (wrapK .i64 (dp + u1))] h = .ok (.imm y 0) h ∧ cf 34 [sz3 k m s a b (.imm w3 0), i64 2] h = .ok (i64 u2) h ∧ cf 38 [.imm w3 0, .str nm, i64 (wrapK .i64 (dp + u2))] h = .ok (.imm z 0) h ∧ (.ok (.imm [i64 k, i64 0, .str [], .imm x 0, .imm y 0, .imm z 0] 0) h : OR) = (.ok (.imm [i64 k, i64 0, .str [], .imm x 0, .imm y 0, .imm z 0] 0) h)) := by kernel_rfl
theorem bind18 {cf : CallF} {n : Nat} {h : AHeap} {a : AV} {w : AV} {nm : List Nat} : (stepI Try.prog H1 fl0 18 cf n [a, .str nm] h).Goes [.ok w h] (.ok w h) =
  (cf 38 [a, .str nm, i64 0] h = .ok w h ∧ (.ok w h : OR) = (.ok w h)) := by kernel_rfl
theorem al_nil {cf : CallF} {n : Nat} {h : AHeap} {dp : Int} {l : AV} : (stepI Try.prog H1 (flL [(3, 4), (5, 1), (7, 2), (7, 3), (8, 2), (8, 6), (8, 7), (9, 5), (10, 5)]) 39 cf n [.nilp, l, i64 dp] h).Goes [] (.ok .nilp h) =
  ((.ok .nilp h : OR) = (.ok .nilp h)) := by kernel_rfl
theorem al_v1 {cf : CallF} {n : Nat} {h : AHeap} {m : Int} {dp : Int} {l : AV} : (stepI Try.prog H1 (flL [(3, 4), (5, 1), (7, 2), (7, 3), (8, 2), (8, 6), (8, 7), (9, 5), (10, 5)]) 39 cf n [.imm (vc m) 0, l, i64 dp] h).Goes [.ok (.bool true) h, .ok (.bool true) h] (.ok (.imm (vc m) 0) h) =
  (OR.ok (.bool (ieq 2 2)) h = .ok (.bool true) h ∧ OR.ok (.bool (ilt (wrapK .i64 (m - dp)) 0)) h = .ok (.bool true) h ∧ (.ok (.imm (vc m) 0) h : OR) = (.ok (.imm (vc m) 0) h)) := by kernel_rfl
theorem al_v2 {cf : CallF} {n : Nat} {h : AHeap} {m : Int} {u : AV} {dp : Int} {w : AV} {l : AV} {fs : List AV} {j : Nat} {ln : Int} : (stepI Try.prog H1 (flL [(3, 4), (5, 1), (7, 2), (7, 3), (8, 2), (8, 6), (8, 7), (9, 5), (10, 5)]) 39 cf n [.imm (vc m) 0, l, i64 dp] h).Goes [.ok (.bool true) h, .ok (.bool false) h, .ok (i64 ln) h, .ok (.bool true) h, .ok (i64 ln) h, .ok (.imm fs j) h, .ok u h, .ok w h] (.ok w h) =
  (OR.ok (.bool (ieq 2 2)) h = .ok (.bool true) h ∧ OR.ok (.bool (ilt (wrapK .i64 (m - dp)) 0)) h = .ok (.bool false) h ∧ OR.of h (lenSl l) = .ok (i64 ln) h ∧ OR.ok (.bool (ilt (wrapK .i64 (m - dp)) ln)) h = .ok (.bool true) h ∧ OR.of h (lenSl l) = .ok (i64 ln) h ∧ oIaddr (.sl 1) (xC l) (xC (i64 (wrapK .i64 (wrapK .i64 (ln - 1) - (wrapK .i64 (m - dp)))))) cf .nil [] h = .ok (.imm fs j) h ∧ ldO h (.imm fs j) = .ok u h ∧ cf 14 [u, i64 dp, i64 0] h = .ok w h ∧ (.ok w h : OR) = (.ok w h)) := by kernel_rfl
theorem al_v3 {cf : CallF} {n : Nat} {h : AHeap} {m : Int} {dp : Int} {w : AV} {l : AV} {ln : Int} : (stepI Try.prog H1 (flL [(3, 4), (5, 1), (7, 2), (7, 3), (8, 2), (8, 6), (8, 7), (9, 5), (10, 5)]) 39 cf n [.imm (vc m) 0, l, i64 dp] h).Goes [.ok (.bool true) h, .ok (.bool false) h, .ok (i64 ln) h, .ok (.bool false) h, .ok (i64 ln) h, .ok w h] (.ok w h) =
  (OR.ok (.bool (ieq 2 2)) h = .ok (.bool true) h ∧ OR.ok (.bool (ilt (wrapK .i64 (m - dp)) 0)) h = .ok (.bool false) h ∧ OR.of h (lenSl l) = .ok (i64 ln) h ∧ OR.ok (.bool (ilt (wrapK .i64 (m - dp)) ln)) h = .ok (.bool false) h ∧ OR.of h (lenSl l) = .ok (i64 ln) h ∧ cf 27 [i64 (wrapK .i64 (m - ln))] h = .ok w h ∧ (.ok w h : OR) = (.ok w h)) := by kernel_rfl
theorem al_l {cf : CallF} {n : Nat} {h : AHeap} {k : Int} {m : Int} {s : List Nat} {a : AV} {b : AV} {dp : Int} {p : Int} {l : AV} : (stepI Try.prog H1 (flL [(3, 4), (5, 1), (7, 2), (7, 3), (8, 2), (8, 6), (8, 7), (9, 5), (10, 5)]) 39 cf n [sz3 k m s a b .nilp, l, i64 dp] h).Goes [.ok (.bool false) h, .ok (i64 p) h, .ok (.bool true) h] (.ok (sz3 k m s a b .nilp) h) =
  (OR.ok (.bool (ieq k 2)) h = .ok (.bool false) h ∧ cf 33 [i64 k] h = .ok (i64 p) h ∧ OR.ok (.bool (ieq p 0)) h = .ok (.bool true) h ∧ (.ok (sz3 k m s a b .nilp) h : OR) = (.ok (sz3 k m s a b .nilp) h)) := by kernel_rfl
theorem al_n2 {cf : CallF} {n : Nat} {h : AHeap} {k : Int} {m : Int} {s : List Nat} {a : AV} {b : AV} {dp : Int} {x : List AV} {y : List AV} {p : Int} {u1 : Int} {u2 : Int} {l : AV} : (stepI Try.prog H1 (flL [(3, 4), (5, 1), (7, 2), (7, 3), (8, 2), (8, 6), (8, 7), (9, 5), (10, 5)]) 39 cf n [sz3 k m s a b .nilp, l, i64 dp] h).Goes [.ok (.bool false) h, .ok (i64 p) h, .ok (.bool false) h, .ok (.imm x 0) h, .ok (i64 u1) h, .ok (.imm y 0) h, .ok (i64 u2) h, .ok (.nilp) h] (.ok (.imm [i64 k, i64 0, .str [], .imm x 0, .imm y 0, .nilp] 0) h) =
  (OR.ok (.bool (ieq k 2)) h = .ok (.bool false) h ∧ cf 33 [i64 k] h = .ok (i64 p) h ∧ OR.ok (.bool (ieq p 0)) h = .ok (.bool false) h ∧ cf 39 [a, l, i64 dp] h = .ok (.imm x 0) h ∧ cf 34 [sz3 k m s a b .nilp, i64 1] h = .ok (i64 u1) h ∧ cf 39 [b, l, i64 (wrapK .i64 (dp + u1))] h = .ok (.imm y 0) h ∧ cf 34 [sz3 k m s a b .nilp, i64 2] h = .ok (i64 u2) h ∧ cf 39 [.nilp, l, i64 (wrapK .i64 (dp + u2))] h = .ok (.nilp) h ∧ (.ok (.imm [i64 k, i64 0, .str [], .imm x 0, .imm y 0, .nilp] 0) h : OR) = (.ok (.imm [i64 k, i64 0, .str [], .imm x 0, .imm y 0, .nilp] 0) h)) := by kernel_rfl
theorem al_n3 {cf : CallF} {n : Nat} {h : AHeap} {k : Int} {m : Int} {s : List Nat} {a : AV} {b : AV} {dp : Int} {x : List AV} {y : List AV} {z : List AV} {p : Int} {u1 : Int} {u2 : Int} {l : AV} {w3 : List AV} : (stepI Try.prog H1 (flL [(3, 4), (5, 1), (7, 2), (7, 3), (8, 2), (8, 6), (8, 7), (9, 5), (10, 5)]) 39 cf n [sz3 k m s a b (.imm w3 0), l, i64 dp] h).Goes [.ok (.bool false) h, .ok (i64 p) h, .ok (.bool false) h, .ok (.imm x 0) h, .ok (i64 u1) h, .ok (.imm y 0) h, .ok (i64 u2) h, .ok (.imm z 0) h] (.ok (.imm [i64 k, i64 0, .str [], .imm x 0, .imm y 0, .imm z 0] 0) h) =
  (OR.ok (.bool (ieq k 2)) h = .ok (.bool false) h ∧ cf 33 [i64 k] h = .ok (i64 p) h ∧ OR.ok (.bool (ieq p 0)) h = .ok (.bool false) h ∧ cf 39 [a, l, i64 dp] h = .ok (.imm x 0) h ∧ cf 34 [sz3 k m s a b (.imm w3 0), i64 1] h = .ok (i64 u1) h ∧ cf 39 [b, l, i64 (wrapK .i64 (dp + u1))] h = .ok (.imm y 0) h ∧ cf 34 [sz3 k m s a b (.imm w3 0), i64 2] h = .ok (i64 u2) h ∧ cf 39 [.imm w3 0, l, i64 (wrapK .i64 (dp + u2))] h = .ok (.imm z 0) h ∧ (.ok (.imm [i64 k, i64 0, .str [], .imm x 0, .imm y 0, .imm z 0] 0) h : OR) = (.ok (.imm [i64 k, i64 0, .str [], .imm x 0, .imm y 0, .imm z 0] 0) h)) := by kernel_rfl
theorem all20 {cf : CallF} {n : Nat} {h : AHeap} {a : AV} {w : AV} {l : AV} : (stepI Try.prog H1 fl0 20 cf n [a, l] h).Goes [.ok w h] (.ok w h) =
  (cf 39 [a, l, i64 0] h = .ok w h ∧ (.ok w h : OR) = (.ok w h)) := by kernel_rfl
theorem ab_e0 {cf : CallF} {n : Nat} {h : AHeap} {L : AV} {S : AV} {i : Int} {ln : Int} : (bodyI Try.prog H1 (flL [(3, 2), (3, 3), (5, 2), (5, 3), (7, 3)]) 11 cf n (frA0 L S i) h).Goes [.ok (i64 ln) h, .ok (.bool false) h] (.ok (.exit 0) (frA1 L S i false) h) =
  (OR.of h (lenSl L) = .ok (i64 ln) h ∧ OR.ok (.bool (ilt i ln)) h = .ok (.bool false) h ∧ (.ok (.exit 0) (frA1 L S i false) h : Res) = (.ok (.exit 0) (frA1 L S i false) h)) := by kernel_rfl
theorem ab_n0 {cf : CallF} {n : Nat} {h : AHeap} {h2 : AHeap} {L : AV} {S : AV} {i : Int} {ln : Int} {u : AV} {fs : List AV} {j : Nat} : (bodyI Try.prog H1 (flL [(3, 2), (3, 3), (5, 2), (5, 3), (7, 3)]) 11 cf n (frA0 L S i) h).Goes [.ok (i64 ln) h, .ok (.bool true) h, .ok (.imm fs j) h, .ok u h, .ok .nilp h2] (.ok .normal (frA2 L S (wrapK .i64 (i + 1)) true .nilp false) h2) =
  (OR.of h (lenSl L) = .ok (i64 ln) h ∧ OR.ok (.bool (ilt i ln)) h = .ok (.bool true) h ∧ oIaddr (.sl 1) (xC L) (xC (i64 i)) cf .nil [] h = .ok (.imm fs j) h ∧ ldO h (.imm fs j) = .ok u h ∧ cf 9 [u] h = .ok .nilp h2 ∧ (.ok .normal (frA2 L S (wrapK .i64 (i + 1)) true .nilp false) h2 : Res) = (.ok .normal (frA2 L S (wrapK .i64 (i + 1)) true .nilp false) h2)) := by kernel_rfl
theorem ab_t0 {cf : CallF} {n : Nat} {h : AHeap} {h2 : AHeap} {h3 : AHeap} {L : AV} {S : AV} {S2 : AV} {i : Int} {ln : Int} {u : AV} {x : List AV} {fs : List AV} {j : Nat} : (bodyI Try.prog H1 (flL [(3, 2), (3, 3), (5, 2), (5, 3), (7, 3)]) 11 cf n (frA0 L S i) h).Goes [.ok (i64 ln) h, .ok (.bool true) h, .ok (.imm fs j) h, .ok u h, .ok (.imm x 0) h2, .ok S2 h3] (.ok .normal (frA2 L S2 (wrapK .i64 (i + 1)) true (.imm x 0) true) h3) =
  (OR.of h (lenSl L) = .ok (i64 ln) h ∧ OR.ok (.bool (ilt i ln)) h = .ok (.bool true) h ∧ oIaddr (.sl 1) (xC L) (xC (i64 i)) cf .nil [] h = .ok (.imm fs j) h ∧ ldO h (.imm fs j) = .ok u h ∧ cf 9 [u] h = .ok (.imm x 0) h2 ∧ OR.of2 (appAV h2 1 8 S (.fl [.imm x 0] 0 1 1 true)) = .ok S2 h3 ∧ (.ok .normal (frA2 L S2 (wrapK .i64 (i + 1)) true (.imm x 0) true) h3 : Res) = (.ok .normal (frA2 L S2 (wrapK .i64 (i + 1)) true (.imm x 0) true) h3)) := by kernel_rfl
theorem ab_e2 {cf : CallF} {n : Nat} {h : AHeap} {L : AV} {S : AV} {i : Int} {ln : Int} {w : Bool} {z : Bool} {a : AV} : (bodyI Try.prog H1 (flL [(3, 2), (3, 3), (5, 2), (5, 3), (7, 3)]) 11 cf n (frA2 L S i w a z) h).Goes [.ok (i64 ln) h, .ok (.bool false) h] (.ok (.exit 0) (frA2 L S i false a z) h) =
  (OR.of h (lenSl L) = .ok (i64 ln) h ∧ OR.ok (.bool (ilt i ln)) h = .ok (.bool false) h ∧ (.ok (.exit 0) (frA2 L S i false a z) h : Res) = (.ok (.exit 0) (frA2 L S i false a z) h)) := by kernel_rfl
theorem ab_n2 {cf : CallF} {n : Nat} {h : AHeap} {h2 : AHeap} {L : AV} {S : AV} {i : Int} {ln : Int} {w : Bool} {z : Bool} {a : AV} {u : AV} {fs : List AV} {j : Nat} : (bodyI Try.prog H1 (flL [(3, 2), (3, 3), (5, 2), (5, 3), (7, 3)]) 11 cf n (frA2 L S i w a z) h).Goes [.ok (i64 ln) h, .ok (.bool true) h, .ok (.imm fs j) h, .ok u h, .ok .nilp h2] (.ok .normal (frA2 L S (wrapK .i64 (i + 1)) true .nilp false) h2) =
  (OR.of h (lenSl L) = .ok (i64 ln) h ∧ OR.ok (.bool (ilt i ln)) h = .ok (.bool true) h ∧ oIaddr (.sl 1) (xC L) (xC (i64 i)) cf .nil [] h = .ok (.imm fs j) h ∧ ldO h (.imm fs j) = .ok u h ∧ cf 9 [u] h = .ok .nilp h2 ∧ (.ok .normal (frA2 L S (wrapK .i64 (i + 1)) true .nilp false) h2 : Res) = (.ok .normal (frA2 L S (wrapK .i64 (i + 1)) true .nilp false) h2)) := by kernel_rfl
theorem ab_t2 {cf : CallF} {n : Nat} {h : AHeap} {h2 : AHeap} {h3 : AHeap} {L : AV} {S : AV} {S2 : AV} {i : Int} {ln : Int} {w : Bool} {z : Bool} {a : AV} {u : AV} {x : List AV} {fs : List AV} {j : Nat} : (bodyI Try.prog H1 (flL [(3, 2), (3, 3), (5, 2), (5, 3), (7, 3)]) 11 cf n (frA2 L S i w a z) h).Goes [.ok (i64 ln) h, .ok (.bool true) h, .ok (.imm fs j) h, .ok u h, .ok (.imm x 0) h2, .ok S2 h3] (.ok .normal (frA2 L S2 (wrapK .i64 (i + 1)) true (.imm x 0) true) h3) =
  (OR.of h (lenSl L) = .ok (i64 ln) h ∧ OR.ok (.bool (ilt i ln)) h = .ok (.bool true) h ∧ oIaddr (.sl 1) (xC L) (xC (i64 i)) cf .nil [] h = .ok (.imm fs j) h ∧ ldO h (.imm fs j) = .ok u h ∧ cf 9 [u] h = .ok (.imm x 0) h2 ∧ OR.of2 (appAV h2 1 8 S (.fl [.imm x 0] 0 1 1 true)) = .ok S2 h3 ∧ (.ok .normal (frA2 L S2 (wrapK .i64 (i + 1)) true (.imm x 0) true) h3 : Res) = (.ok .normal (frA2 L S2 (wrapK .i64 (i + 1)) true (.imm x 0) true) h3)) := by kernel_rfl
theorem tms_1 {cf : CallF} {n : Nat} {h : AHeap} {h2 : AHeap} {h3 : AHeap} {L : AV} {S : AV} {V : AV} {i : Int} {w : Bool} : (stepI Try.prog H1 (flL [(8, 1)]) 11 cf n [L] h).Goes [.res (.ok (.exit 0) (frA1 L S i w) h2), .ok V h3] (.ok V h3) =
  (cLoop (bodyRun Try.prog H1 11) cf n (frA0 L .nils 0) h = .ok (.exit 0) (frA1 L S i w) h2 ∧ frO h2 S = .ok V h3 ∧ (.ok V h3 : OR) = (.ok V h3)) := by kernel_rfl
theorem tms_2 {cf : CallF} {n : Nat} {h : AHeap} {h2 : AHeap} {h3 : AHeap} {L : AV} {S : AV} {V : AV} {i : Int} {w : Bool} {z : Bool} {a : AV} : (stepI Try.prog H1 (flL [(8, 1)]) 11 cf n [L] h).Goes [.res (.ok (.exit 0) (frA2 L S i w a z) h2), .ok V h3] (.ok V h3) =
  (cLoop (bodyRun Try.prog H1 11) cf n (frA0 L .nils 0) h = .ok (.exit 0) (frA2 L S i w a z) h2 ∧ frO h2 S = .ok V h3 ∧ (.ok V h3 : OR) = (.ok V h3)) := by kernel_rfl
theorem te_n1 {cf : CallF} {n : Nat} {h : AHeap} {h1 : AHeap} {h2 : AHeap} {h3 : AHeap} {s : AV} {u : AV} {L : AV} {v2 : AV} {nm : List Nat} {by' : Int} {fm : Int} {at' : Int} : (stepI Try.prog H1 (flL [(4, 9), (4, 13), (4, 14)]) 3 cf n [s, u, .int .u8 by', .int .u8 fm, .int .u8 at', .str nm, L] h).Goes [.ok (.bool true) h1, .ok .nilp h2, .ok v2 h3] (.ok (.bool true) h3) =
  (cf 8 [] h = .ok (.bool true) h1 ∧ cf 9 [s] h1 = .ok .nilp h2 ∧ cf 9 [u] h2 = .ok v2 h3 ∧ (.ok (.bool true) h3 : OR) = (.ok (.bool true) h3)) := by kernel_rfl
theorem te_n2 {cf : CallF} {n : Nat} {h : AHeap} {h1 : AHeap} {h2 : AHeap} {h3 : AHeap} {s : AV} {u : AV} {L : AV} {x1 : List AV} {nm : List Nat} {by' : Int} {fm : Int} {at' : Int} : (stepI Try.prog H1 (flL [(4, 9), (4, 13), (4, 14)]) 3 cf n [s, u, .int .u8 by', .int .u8 fm, .int .u8 at', .str nm, L] h).Goes [.ok (.bool true) h1, .ok (.imm x1 0) h2, .ok .nilp h3] (.ok (.bool true) h3) =
  (cf 8 [] h = .ok (.bool true) h1 ∧ cf 9 [s] h1 = .ok (.imm x1 0) h2 ∧ cf 9 [u] h2 = .ok .nilp h3 ∧ (.ok (.bool true) h3 : OR) = (.ok (.bool true) h3)) := by kernel_rfl
theorem te_n3 {cf : CallF} {n : Nat} {h : AHeap} {h1 : AHeap} {h2 : AHeap} {h3 : AHeap} {s : AV} {u : AV} {L : AV} {x1 : List AV} {x2 : List AV} {nm : List Nat} {by' : Int} {fm : Int} {at' : Int} : (stepI Try.prog H1 (flL [(4, 9), (4, 13), (4, 14)]) 3 cf n [s, u, .int .u8 by', .int .u8 fm, .int .u8 at', .str nm, L] h).Goes [.ok (.bool true) h1, .ok (.imm x1 0) h2, .ok (.imm x2 0) h3, .ok (.bool true) h3] (.ok (.bool true) h3) =
  (cf 8 [] h = .ok (.bool true) h1 ∧ cf 9 [s] h1 = .ok (.imm x1 0) h2 ∧ cf 9 [u] h2 = .ok (.imm x2 0) h3 ∧ OR.ok (.bool (ilt 40 (Int.ofNat (llen nm)))) h3 = .ok (.bool true) h3 ∧ (.ok (.bool true) h3 : OR) = (.ok (.bool true) h3)) := by kernel_rfl
theorem te_n4 {cf : CallF} {n : Nat} {h : AHeap} {h1 : AHeap} {h2 : AHeap} {h3 : AHeap} {s : AV} {u : AV} {L : AV} {x1 : List AV} {x2 : List AV} {nm : List Nat} {ln : Int} {by' : Int} {fm : Int} {at' : Int} : (stepI Try.prog H1 (flL [(4, 9), (4, 13), (4, 14)]) 3 cf n [s, u, .int .u8 by', .int .u8 fm, .int .u8 at', .str nm, L] h).Goes [.ok (.bool true) h1, .ok (.imm x1 0) h2, .ok (.imm x2 0) h3, .ok (.bool false) h3, .ok (i64 ln) h3, .ok (.bool true) h3] (.ok (.bool true) h3) =
  (cf 8 [] h = .ok (.bool true) h1 ∧ cf 9 [s] h1 = .ok (.imm x1 0) h2 ∧ cf 9 [u] h2 = .ok (.imm x2 0) h3 ∧ OR.ok (.bool (ilt 40 (Int.ofNat (llen nm)))) h3 = .ok (.bool false) h3 ∧ OR.of h3 (lenSl L) = .ok (i64 ln) h3 ∧ OR.ok (.bool (ilt 6 ln)) h3 = .ok (.bool true) h3 ∧ (.ok (.bool true) h3 : OR) = (.ok (.bool true) h3)) := by kernel_rfl
theorem te_n5 {cf : CallF} {n : Nat} {h : AHeap} {h1 : AHeap} {h2 : AHeap} {h3 : AHeap} {h4 : AHeap} {s : AV} {u : AV} {L : AV} {x1 : List AV} {x2 : List AV} {nm : List Nat} {ln : Int} {by' : Int} {fm : Int} {at' : Int} : (stepI Try.prog H1 (flL [(4, 9), (4, 13), (4, 14)]) 3 cf n [s, u, .int .u8 by', .int .u8 fm, .int .u8 at', .str nm, L] h).Goes [.ok (.bool true) h1, .ok (.imm x1 0) h2, .ok (.imm x2 0) h3, .ok (.bool false) h3, .ok (i64 ln) h3, .ok (.bool false) h3, .ok (.bool false) h4] (.ok (.bool true) h4) =
  (cf 8 [] h = .ok (.bool true) h1 ∧ cf 9 [s] h1 = .ok (.imm x1 0) h2 ∧ cf 9 [u] h2 = .ok (.imm x2 0) h3 ∧ OR.ok (.bool (ilt 40 (Int.ofNat (llen nm)))) h3 = .ok (.bool false) h3 ∧ OR.of h3 (lenSl L) = .ok (i64 ln) h3 ∧ OR.ok (.bool (ilt 6 ln)) h3 = .ok (.bool false) h3 ∧ cf 10 [.imm x1 0, .imm x2 0, .imm x2 0] h3 = .ok (.bool false) h4 ∧ (.ok (.bool true) h4 : OR) = (.ok (.bool true) h4)) := by kernel_rfl
theorem te_r {cf : CallF} {n : Nat} {h : AHeap} {h1 : AHeap} {h2 : AHeap} {h3 : AHeap} {h4 : AHeap} {h5 : AHeap} {h6 : AHeap} {s : AV} {u : AV} {L : AV} {V : AV} {x1 : List AV} {x2 : List AV} {nm : List Nat} {ln : Int} {i : Int} {r : Bool} {w : Bool} {z : Bool} {by' : Int} {fm : Int} {at' : Int} : (stepI Try.prog H1 (flL [(4, 9), (4, 13), (4, 14)]) 3 cf n [s, u, .int .u8 by', .int .u8 fm, .int .u8 at', .str nm, L] h).Goes [.ok (.bool true) h1, .ok (.imm x1 0) h2, .ok (.imm x2 0) h3, .ok (.bool false) h3, .ok (i64 ln) h3, .ok (.bool false) h3, .ok (.bool true) h4, .ok V h5, .res (.ok .ret (frM2 s u by' fm at' nm L r x1 x2 V i w z) h6)] (.ok (.bool r) h6) =
  (cf 8 [] h = .ok (.bool true) h1 ∧ cf 9 [s] h1 = .ok (.imm x1 0) h2 ∧ cf 9 [u] h2 = .ok (.imm x2 0) h3 ∧ OR.ok (.bool (ilt 40 (Int.ofNat (llen nm)))) h3 = .ok (.bool false) h3 ∧ OR.of h3 (lenSl L) = .ok (i64 ln) h3 ∧ OR.ok (.bool (ilt 6 ln)) h3 = .ok (.bool false) h3 ∧ cf 10 [.imm x1 0, .imm x2 0, .imm x2 0] h3 = .ok (.bool true) h4 ∧ cf 11 [L] h4 = .ok V h5 ∧ cLoop (bodyRun Try.prog H1 3) cf n (frM0 s u by' fm at' nm L false x1 x2 V 0) h5 = .ok .ret (frM2 s u by' fm at' nm L r x1 x2 V i w z) h6 ∧ (.ok (.bool r) h6 : OR) = (.ok (.bool r) h6)) := by kernel_rfl
theorem te_e1 {cf : CallF} {n : Nat} {h : AHeap} {h1 : AHeap} {h2 : AHeap} {h3 : AHeap} {h4 : AHeap} {h5 : AHeap} {h6 : AHeap} {h7 : AHeap} {h8 : AHeap} {h9 : AHeap} {h10 : AHeap} {h11 : AHeap} {h12 : AHeap} {h13 : AHeap} {h14 : AHeap} {h15 : AHeap} {h16 : AHeap} {h17 : AHeap} {h18 : AHeap} {s : AV} {u : AV} {L : AV} {V : AV} {x1 : List AV} {x2 : List AV} {nm : List Nat} {ln : Int} {i : Int} {r : Bool} {w : Bool} {by' : Int} {fm : Int} {at' : Int} {a1 : AV} {a2 : AV} {a3 : AV} {a4 : AV} {a5 : AV} {a6 : AV} {a7 : AV} {a8 : AV} : (stepI Try.prog H1 (flL [(4, 9), (4, 13), (4, 14)]) 3 cf n [s, u, .int .u8 by', .int .u8 fm, .int .u8 at', .str nm, L] h).Goes [.ok (.bool true) h1, .ok (.imm x1 0) h2, .ok (.imm x2 0) h3, .ok (.bool false) h3, .ok (i64 ln) h3, .ok (.bool false) h3, .ok (.bool true) h4, .ok V h5, .res (.ok (.exit 0) (frM1 s u by' fm at' nm L r x1 x2 V i w) h6), .ok a1 h7, .ok a2 h8, .ok (.bool true) h9, .ok a3 h10, .ok a4 h11, .ok (.bool true) h12, .ok a5 h13, .ok a6 h14, .ok (.bool true) h15, .ok a7 h16, .ok a8 h17, .ok (.bool true) h18] (.ok (.bool true) h18) =
  (cf 8 [] h = .ok (.bool true) h1 ∧ cf 9 [s] h1 = .ok (.imm x1 0) h2 ∧ cf 9 [u] h2 = .ok (.imm x2 0) h3 ∧ OR.ok (.bool (ilt 40 (Int.ofNat (llen nm)))) h3 = .ok (.bool false) h3 ∧ OR.of h3 (lenSl L) = .ok (i64 ln) h3 ∧ OR.ok (.bool (ilt 6 ln)) h3 = .ok (.bool false) h3 ∧ cf 10 [.imm x1 0, .imm x2 0, .imm x2 0] h3 = .ok (.bool true) h4 ∧ cf 11 [L] h4 = .ok V h5 ∧ cLoop (bodyRun Try.prog H1 3) cf n (frM0 s u by' fm at' nm L false x1 x2 V 0) h5 = .ok (.exit 0) (frM1 s u by' fm at' nm L r x1 x2 V i w) h6 ∧ cf 13 [.imm x1 0, i64 (wrapK .i64 (Int.tmod by' 20)), i64 (wrapK .i64 (Int.tmod fm 20))] h6 = .ok a1 h7 ∧ cf 14 [.imm x1 0, i64 (wrapK .i64 (Int.tmod by' 20)), i64 (wrapK .i64 (Int.tmod fm 20))] h7 = .ok a2 h8 ∧ cf 12 [a1, a2] h8 = .ok (.bool true) h9 ∧ cf 15 [.imm x1 0, .imm x2 0, i64 (wrapK .i64 (Int.tmod at' 20))] h9 = .ok a3 h10 ∧ cf 16 [.imm x1 0, .imm x2 0, i64 (wrapK .i64 (Int.tmod at' 20))] h10 = .ok a4 h11 ∧ cf 12 [a3, a4] h11 = .ok (.bool true) h12 ∧ cf 17 [.imm x1 0, .str nm] h12 = .ok a5 h13 ∧ cf 18 [.imm x1 0, .str nm] h13 = .ok a6 h14 ∧ cf 12 [a5, a6] h14 = .ok (.bool true) h15 ∧ cf 19 [.imm x1 0, V] h15 = .ok a7 h16 ∧ cf 20 [.imm x1 0, V] h16 = .ok a8 h17 ∧ cf 12 [a7, a8] h17 = .ok (.bool true) h18 ∧ (.ok (.bool true) h18 : OR) = (.ok (.bool true) h18)) := by kernel_rfl
theorem te_e2 {cf : CallF} {n : Nat} {h : AHeap} {h1 : AHeap} {h2 : AHeap} {h3 : AHeap} {h4 : AHeap} {h5 : AHeap} {h6 : AHeap} {h7 : AHeap} {h8 : AHeap} {h9 : AHeap} {h10 : AHeap} {h11 : AHeap} {h12 : AHeap} {h13 : AHeap} {h14 : AHeap} {h15 : AHeap} {h16 : AHeap} {h17 : AHeap} {h18 : AHeap} {s : AV} {u : AV} {L : AV} {V : AV} {x1 : List AV} {x2 : List AV} {nm : List Nat} {ln : Int} {i : Int} {r : Bool} {w : Bool} {z : Bool} {by' : Int} {fm : Int} {at' : Int} {a1 : AV} {a2 : AV} {a3 : AV} {a4 : AV} {a5 : AV} {a6 : AV} {a7 : AV} {a8 : AV} : (stepI Try.prog H1 (flL [(4, 9), (4, 13), (4, 14)]) 3 cf n [s, u, .int .u8 by', .int .u8 fm, .int .u8 at', .str nm, L] h).Goes [.ok (.bool true) h1, .ok (.imm x1 0) h2, .ok (.imm x2 0) h3, .ok (.bool false) h3, .ok (i64 ln) h3, .ok (.bool false) h3, .ok (.bool true) h4, .ok V h5, .res (.ok (.exit 0) (frM2 s u by' fm at' nm L r x1 x2 V i w z) h6), .ok a1 h7, .ok a2 h8, .ok (.bool true) h9, .ok a3 h10, .ok a4 h11, .ok (.bool true) h12, .ok a5 h13, .ok a6 h14, .ok (.bool true) h15, .ok a7 h16, .ok a8 h17, .ok (.bool true) h18] (.ok (.bool true) h18) =
  (cf 8 [] h = .ok (.bool true) h1 ∧ cf 9 [s] h1 = .ok (.imm x1 0) h2 ∧ cf 9 [u] h2 = .ok (.imm x2 0) h3 ∧ OR.ok (.bool (ilt 40 (Int.ofNat (llen nm)))) h3 = .ok (.bool false) h3 ∧ OR.of h3 (lenSl L) = .ok (i64 ln) h3 ∧ OR.ok (.bool (ilt 6 ln)) h3 = .ok (.bool false) h3 ∧ cf 10 [.imm x1 0, .imm x2 0, .imm x2 0] h3 = .ok (.bool true) h4 ∧ cf 11 [L] h4 = .ok V h5 ∧ cLoop (bodyRun Try.prog H1 3) cf n (frM0 s u by' fm at' nm L false x1 x2 V 0) h5 = .ok (.exit 0) (frM2 s u by' fm at' nm L r x1 x2 V i w z) h6 ∧ cf 13 [.imm x1 0, i64 (wrapK .i64 (Int.tmod by' 20)), i64 (wrapK .i64 (Int.tmod fm 20))] h6 = .ok a1 h7 ∧ cf 14 [.imm x1 0, i64 (wrapK .i64 (Int.tmod by' 20)), i64 (wrapK .i64 (Int.tmod fm 20))] h7 = .ok a2 h8 ∧ cf 12 [a1, a2] h8 = .ok (.bool true) h9 ∧ cf 15 [.imm x1 0, .imm x2 0, i64 (wrapK .i64 (Int.tmod at' 20))] h9 = .ok a3 h10 ∧ cf 16 [.imm x1 0, .imm x2 0, i64 (wrapK .i64 (Int.tmod at' 20))] h10 = .ok a4 h11 ∧ cf 12 [a3, a4] h11 = .ok (.bool true) h12 ∧ cf 17 [.imm x1 0, .str nm] h12 = .ok a5 h13 ∧ cf 18 [.imm x1 0, .str nm] h13 = .ok a6 h14 ∧ cf 12 [a5, a6] h14 = .ok (.bool true) h15 ∧ cf 19 [.imm x1 0, V] h15 = .ok a7 h16 ∧ cf 20 [.imm x1 0, V] h16 = .ok a8 h17 ∧ cf 12 [a7, a8] h17 = .ok (.bool true) h18 ∧ (.ok (.bool true) h18 : OR) = (.ok (.bool true) h18)) := by kernel_rfl
theorem mb_e0 {cf : CallF} {n : Nat} {h : AHeap} {s : AV} {u : AV} {L : AV} {V : AV} {x1 : List AV} {x2 : List AV} {nm : List Nat} {ln : Int} {i : Int} {r : Bool} {by' : Int} {fm : Int} {at' : Int} : (bodyI Try.prog H1 (flL [(8, 2), (8, 3), (10, 3), (10, 4), (10, 7), (10, 8)]) 3 cf n (frM0 s u by' fm at' nm L r x1 x2 V i) h).Goes [.ok (i64 ln) h, .ok (.bool false) h] (.ok (.exit 0) (frM1 s u by' fm at' nm L r x1 x2 V i false) h) =
  (OR.of h (lenSl V) = .ok (i64 ln) h ∧ OR.ok (.bool (ilt i ln)) h = .ok (.bool false) h ∧ (.ok (.exit 0) (frM1 s u by' fm at' nm L r x1 x2 V i false) h : Res) = (.ok (.exit 0) (frM1 s u by' fm at' nm L r x1 x2 V i false) h)) := by kernel_rfl
theorem mb_r0 {cf : CallF} {n : Nat} {h : AHeap} {s : AV} {u : AV} {L : AV} {V : AV} {x1 : List AV} {x2 : List AV} {nm : List Nat} {ln : Int} {i : Int} {r : Bool} {fs : List AV} {j : Nat} {gs : List AV} {j2 : Nat} {c : AV} {d : AV} {by' : Int} {fm : Int} {at' : Int} : (bodyI Try.prog H1 (flL [(8, 2), (8, 3), (10, 3), (10, 4), (10, 7), (10, 8)]) 3 cf n (frM0 s u by' fm at' nm L r x1 x2 V i) h).Goes [.ok (i64 ln) h, .ok (.bool true) h, .ok (.imm fs j) h, .ok c h, .ok (.imm gs j2) h, .ok d h, .ok (.bool false) h] (.ok .ret (frM2 s u by' fm at' nm L true x1 x2 V i true true) h) =
  (OR.of h (lenSl V) = .ok (i64 ln) h ∧ OR.ok (.bool (ilt i ln)) h = .ok (.bool true) h ∧ oIaddr (.sl 1) (xC V) (xC (i64 i)) cf .nil [] h = .ok (.imm fs j) h ∧ ldO h (.imm fs j) = .ok c h ∧ oIaddr (.sl 1) (xC V) (xC (i64 i)) cf .nil [] h = .ok (.imm gs j2) h ∧ ldO h (.imm gs j2) = .ok d h ∧ cf 10 [.imm x1 0, c, d] h = .ok (.bool false) h ∧ (.ok .ret (frM2 s u by' fm at' nm L true x1 x2 V i true true) h : Res) = (.ok .ret (frM2 s u by' fm at' nm L true x1 x2 V i true true) h)) := by kernel_rfl
theorem mb_n0 {cf : CallF} {n : Nat} {h : AHeap} {s : AV} {u : AV} {L : AV} {V : AV} {x1 : List AV} {x2 : List AV} {nm : List Nat} {ln : Int} {i : Int} {r : Bool} {fs : List AV} {j : Nat} {gs : List AV} {j2 : Nat} {c : AV} {d : AV} {by' : Int} {fm : Int} {at' : Int} : (bodyI Try.prog H1 (flL [(8, 2), (8, 3), (10, 3), (10, 4), (10, 7), (10, 8)]) 3 cf n (frM0 s u by' fm at' nm L r x1 x2 V i) h).Goes [.ok (i64 ln) h, .ok (.bool true) h, .ok (.imm fs j) h, .ok c h, .ok (.imm gs j2) h, .ok d h, .ok (.bool true) h] (.ok .normal (frM2 s u by' fm at' nm L r x1 x2 V (wrapK .i64 (i + 1)) true false) h) =
  (OR.of h (lenSl V) = .ok (i64 ln) h ∧ OR.ok (.bool (ilt i ln)) h = .ok (.bool true) h ∧ oIaddr (.sl 1) (xC V) (xC (i64 i)) cf .nil [] h = .ok (.imm fs j) h ∧ ldO h (.imm fs j) = .ok c h ∧ oIaddr (.sl 1) (xC V) (xC (i64 i)) cf .nil [] h = .ok (.imm gs j2) h ∧ ldO h (.imm gs j2) = .ok d h ∧ cf 10 [.imm x1 0, c, d] h = .ok (.bool true) h ∧ (.ok .normal (frM2 s u by' fm at' nm L r x1 x2 V (wrapK .i64 (i + 1)) true false) h : Res) = (.ok .normal (frM2 s u by' fm at' nm L r x1 x2 V (wrapK .i64 (i + 1)) true false) h)) := by kernel_rfl
theorem mb_e2 {cf : CallF} {n : Nat} {h : AHeap} {s : AV} {u : AV} {L : AV} {V : AV} {x1 : List AV} {x2 : List AV} {nm : List Nat} {ln : Int} {i : Int} {r : Bool} {w : Bool} {z : Bool} {by' : Int} {fm : Int} {at' : Int} : (bodyI Try.prog H1 (flL [(8, 2), (8, 3), (10, 3), (10, 4), (10, 7), (10, 8)]) 3 cf n (frM2 s u by' fm at' nm L r x1 x2 V i w z) h).Goes [.ok (i64 ln) h, .ok (.bool false) h] (.ok (.exit 0) (frM2 s u by' fm at' nm L r x1 x2 V i false z) h) =
  (OR.of h (lenSl V) = .ok (i64 ln) h ∧ OR.ok (.bool (ilt i ln)) h = .ok (.bool false) h ∧ (.ok (.exit 0) (frM2 s u by' fm at' nm L r x1 x2 V i false z) h : Res) = (.ok (.exit 0) (frM2 s u by' fm at' nm L r x1 x2 V i false z) h)) := by kernel_rfl
theorem mb_r2 {cf : CallF} {n : Nat} {h : AHeap} {s : AV} {u : AV} {L : AV} {V : AV} {x1 : List AV} {x2 : List AV} {nm : List Nat} {ln : Int} {i : Int} {r : Bool} {w : Bool} {z : Bool} {fs : List AV} {j : Nat} {gs : List AV} {j2 : Nat} {c : AV} {d : AV} {by' : Int} {fm : Int} {at' : Int} : (bodyI Try.prog H1 (flL [(8, 2), (8, 3), (10, 3), (10, 4), (10, 7), (10, 8)]) 3 cf n (frM2 s u by' fm at' nm L r x1 x2 V i w z) h).Goes [.ok (i64 ln) h, .ok (.bool true) h, .ok (.imm fs j) h, .ok c h, .ok (.imm gs j2) h, .ok d h, .ok (.bool false) h] (.ok .ret (frM2 s u by' fm at' nm L true x1 x2 V i true true) h) =
  (OR.of h (lenSl V) = .ok (i64 ln) h ∧ OR.ok (.bool (ilt i ln)) h = .ok (.bool true) h ∧ oIaddr (.sl 1) (xC V) (xC (i64 i)) cf .nil [] h = .ok (.imm fs j) h ∧ ldO h (.imm fs j) = .ok c h ∧ oIaddr (.sl 1) (xC V) (xC (i64 i)) cf .nil [] h = .ok (.imm gs j2) h ∧ ldO h (.imm gs j2) = .ok d h ∧ cf 10 [.imm x1 0, c, d] h = .ok (.bool false) h ∧ (.ok .ret (frM2 s u by' fm at' nm L true x1 x2 V i true true) h : Res) = (.ok .ret (frM2 s u by' fm at' nm L true x1 x2 V i true true) h)) := by kernel_rfl
theorem mb_n2 {cf : CallF} {n : Nat} {h : AHeap} {s : AV} {u : AV} {L : AV} {V : AV} {x1 : List AV} {x2 : List AV} {nm : List Nat} {ln : Int} {i : Int} {r : Bool} {w : Bool} {z : Bool} {fs : List AV} {j : Nat} {gs : List AV} {j2 : Nat} {c : AV} {d : AV} {by' : Int} {fm : Int} {at' : Int} : (bodyI Try.prog H1 (flL [(8, 2), (8, 3), (10, 3), (10, 4), (10, 7), (10, 8)]) 3 cf n (frM2 s u by' fm at' nm L r x1 x2 V i w z) h).Goes [.ok (i64 ln) h, .ok (.bool true) h, .ok (.imm fs j) h, .ok c h, .ok (.imm gs j2) h, .ok d h, .ok (.bool true) h] (.ok .normal (frM2 s u by' fm at' nm L r x1 x2 V (wrapK .i64 (i + 1)) true false) h) =
  (OR.of h (lenSl V) = .ok (i64 ln) h ∧ OR.ok (.bool (ilt i ln)) h = .ok (.bool true) h ∧ oIaddr (.sl 1) (xC V) (xC (i64 i)) cf .nil [] h = .ok (.imm fs j) h ∧ ldO h (.imm fs j) = .ok c h ∧ oIaddr (.sl 1) (xC V) (xC (i64 i)) cf .nil [] h = .ok (.imm gs j2) h ∧ ldO h (.imm gs j2) = .ok d h ∧ cf 10 [.imm x1 0, c, d] h = .ok (.bool true) h ∧ (.ok .normal (frM2 s u by' fm at' nm L r x1 x2 V (wrapK .i64 (i + 1)) true false) h : Res) = (.ok .normal (frM2 s u by' fm at' nm L r x1 x2 V (wrapK .i64 (i + 1)) true false) h)) := by kernel_rfl
end Go.Vd

namespace Go.Vd
open Go Go.RowKit Go.Proofs
set_option maxRecDepth 100000
theorem lift_eq (d : Int) : ∀ (t : Tm) (k : Int), lift d t k = mapT (φL d) t k
  | .sort _, _ => rfl
  | .con _ _, _ => rfl
  | .var m, k => by
    rw [L_var]; simp only [lift]
    by_cases q : m < k
    · rw [if_pos q, if_neg (by omega)]
    · rw [if_neg q, if_pos (by omega)]
  | .pi a b, k => by simp only [lift, mapT, lift_eq d a, lift_eq d b]
  | .lam a b, k => by simp only [lift, mapT, lift_eq d a, lift_eq d b]
  | .app a b, k => by simp only [lift, mapT, lift_eq d a, lift_eq d b]
  | .lett a b c, k => by simp only [lift, mapT, lift_eq d a, lift_eq d b, lift_eq d c]
theorem okr_lift {d : Int} (hd : 0 ≤ d) (hd2 : d ≤ 2 ^ 40) (t : Tm) (k : Int) (hb : Bd (2 ^ 61) t) (hk : 0 ≤ k) (hh : k + ht t ≤ 2 ^ 41) : Ok 14 [tw t, i64 d, i64 k] (tw (mapT (φL d) t k)) := by
  by_cases q : d = 0
  · subst q
    rw [L_zero]
    exact ok_step fl0 0 fun n _ h => ⟨_, (lift_z (ev n) n h (cellsT t) k).mpr rfl⟩
  · rw [← lift_eq]
    exact ok_lift (by omega) hd2 t k hb hk hh
theorem eq_t {a b : Int} (q : a = b) (h : AHeap) : OR.ok (.bool (ieq a b)) h = .ok (.bool true) h := obE (ieq_t q)
theorem eq_f {a b : Int} (q : a ≠ b) (h : AHeap) : OR.ok (.bool (ieq a b)) h = .ok (.bool false) h := obE (ieq_f q)
theorem wadd {k u : Int} (h1 : 0 ≤ k) (h2 : k ≤ 2 ^ 42) (h3 : 0 ≤ u) (h4 : u ≤ 1) : wrapK .i64 (k + u) = k + u := wrap_id (by omega) (by omega)

theorem pt_node2 (U : AV) (at' : Int) {k dp u1 p : Int} {a b : AV} {x y : List AV} (h2 : k ≠ 2) (h3 : k ≠ 3) (hp : Ok 33 [i64 k] (i64 p)) (hp0 : p ≠ 0) (hd0 : 0 ≤ dp) (hd1 : dp ≤ 2 ^ 42) (hu0 : 0 ≤ u1) (hu1 : u1 ≤ 1) (k1 : Ok 34 [sz3 k 0 [] a b .nilp, i64 1] (i64 u1)) (k2 : Ok 34 [sz3 k 0 [] a b .nilp, i64 2] (i64 1))
    (ha : Ok 36 [a, U, i64 at', i64 dp] (.imm x 0)) (hb : Ok 36 [b, U, i64 at', i64 (dp + u1)] (.imm y 0)) : Ok 36 [sz3 k 0 [] a b .nilp, U, i64 at', i64 dp] (.imm [i64 k, i64 0, .str [], .imm x 0, .imm y 0, .nilp] 0) := by
  obtain ⟨N1, hp⟩ := hp; obtain ⟨N2, k1⟩ := k1; obtain ⟨N3, k2⟩ := k2; obtain ⟨N4, ha⟩ := ha; obtain ⟨N5, hb⟩ := hb
  have _ := h3
  have nl : ∀ n, 1 ≤ n → ∀ h, ev n 36 [.nilp, U, i64 at', i64 (wrapK .i64 (dp + 1))] h = .ok .nilp h := fun n hn h => at_step (N := 0) (flL [(3, 4), (4, 7), (6, 7), (9, 5)]) (fun n _ h => ⟨_, pt_nil.mpr rfl⟩) hn h
  exact ok_step (flL [(3, 4), (4, 7), (6, 7), (9, 5)]) (N1 + N2 + N3 + N4 + N5 + 1) fun n hn h => ⟨_, pt_n2.mpr ⟨eq_f h2 h, hp n (by omega) h, eq_f hp0 h, ha n (by omega) h, k1 n (by omega) h, by rw [wadd hd0 hd1 hu0 hu1]; exact hb n (by omega) h, k2 n (by omega) h, nl n (by omega) h, rfl⟩⟩
theorem pt_node3 (U : AV) (at' : Int) {k dp u1 p : Int} {a b : AV} {x y w3 z : List AV} (h2 : k ≠ 2) (h3 : k ≠ 3) (hp : Ok 33 [i64 k] (i64 p)) (hp0 : p ≠ 0) (hd0 : 0 ≤ dp) (hd1 : dp ≤ 2 ^ 42) (hu0 : 0 ≤ u1) (hu1 : u1 ≤ 1) (k1 : Ok 34 [sz3 k 0 [] a b (.imm w3 0), i64 1] (i64 u1)) (k2 : Ok 34 [sz3 k 0 [] a b (.imm w3 0), i64 2] (i64 1))
    (ha : Ok 36 [a, U, i64 at', i64 dp] (.imm x 0)) (hb : Ok 36 [b, U, i64 at', i64 (dp + u1)] (.imm y 0)) (hc : Ok 36 [.imm w3 0, U, i64 at', i64 (dp + 1)] (.imm z 0)) : Ok 36 [sz3 k 0 [] a b (.imm w3 0), U, i64 at', i64 dp] (.imm [i64 k, i64 0, .str [], .imm x 0, .imm y 0, .imm z 0] 0) := by
  obtain ⟨N1, hp⟩ := hp; obtain ⟨N2, k1⟩ := k1; obtain ⟨N3, k2⟩ := k2; obtain ⟨N4, ha⟩ := ha; obtain ⟨N5, hb⟩ := hb; obtain ⟨N6, hc⟩ := hc
  have _ := h3
  exact ok_step (flL [(3, 4), (4, 7), (6, 7), (9, 5)]) (N1 + N2 + N3 + N4 + N5 + N6) fun n hn h => ⟨_, pt_n3.mpr ⟨eq_f h2 h, hp n (by omega) h, eq_f hp0 h, ha n (by omega) h, k1 n (by omega) h, by rw [wadd hd0 hd1 hu0 hu1]; exact hb n (by omega) h, k2 n (by omega) h, by rw [wadd hd0 hd1 (by omega) (Int.le_refl 1)]; exact hc n (by omega) h, rfl⟩⟩
theorem pt_leaf (U : AV) (at' : Int) {k m dp : Int} {a b : AV} {s : List Nat} (h2 : k ≠ 2) (h3 : k ≠ 3) (hp : Ok 33 [i64 k] (i64 0)) : Ok 36 [sz3 k m s a b .nilp, U, i64 at', i64 dp] (sz3 k m s a b .nilp) := by
  obtain ⟨N1, hp⟩ := hp
  have _ := h3
  exact ok_step (flL [(3, 4), (4, 7), (6, 7), (9, 5)]) N1 fun n hn h => ⟨_, pt_l.mpr ⟨eq_f h2 h, hp n (by omega) h, eq_t rfl h, rfl⟩⟩
theorem bd_node2 (nm : List Nat) {k dp u1 p : Int} {a b : AV} {x y : List AV} (h2 : k ≠ 2) (h3 : k ≠ 3) (hp : Ok 33 [i64 k] (i64 p)) (hp0 : p ≠ 0) (hd0 : 0 ≤ dp) (hd1 : dp ≤ 2 ^ 42) (hu0 : 0 ≤ u1) (hu1 : u1 ≤ 1) (k1 : Ok 34 [sz3 k 0 [] a b .nilp, i64 1] (i64 u1)) (k2 : Ok 34 [sz3 k 0 [] a b .nilp, i64 2] (i64 1))
    (ha : Ok 38 [a, .str nm, i64 dp] (.imm x 0)) (hb : Ok 38 [b, .str nm, i64 (dp + u1)] (.imm y 0)) : Ok 38 [sz3 k 0 [] a b .nilp, .str nm, i64 dp] (.imm [i64 k, i64 0, .str [], .imm x 0, .imm y 0, .nilp] 0) := by
  obtain ⟨N1, hp⟩ := hp; obtain ⟨N2, k1⟩ := k1; obtain ⟨N3, k2⟩ := k2; obtain ⟨N4, ha⟩ := ha; obtain ⟨N5, hb⟩ := hb
  have _ := h3
  have nl : ∀ n, 1 ≤ n → ∀ h, ev n 38 [.nilp, .str nm, i64 (wrapK .i64 (dp + 1))] h = .ok .nilp h := fun n hn h => at_step (N := 0) (flL [(3, 4), (3, 11), (3, 18), (5, 4), (5, 11), (7, 5)]) (fun n _ h => ⟨_, bd_nil.mpr rfl⟩) hn h
  exact ok_step (flL [(3, 4), (3, 11), (3, 18), (5, 4), (5, 11), (7, 5)]) (N1 + N2 + N3 + N4 + N5 + 1) fun n hn h => ⟨_, bd_n2.mpr ⟨eq_f h3 h, eq_f h2 h, hp n (by omega) h, eq_f hp0 h, ha n (by omega) h, k1 n (by omega) h, by rw [wadd hd0 hd1 hu0 hu1]; exact hb n (by omega) h, k2 n (by omega) h, nl n (by omega) h, rfl⟩⟩
theorem bd_node3 (nm : List Nat) {k dp u1 p : Int} {a b : AV} {x y w3 z : List AV} (h2 : k ≠ 2) (h3 : k ≠ 3) (hp : Ok 33 [i64 k] (i64 p)) (hp0 : p ≠ 0) (hd0 : 0 ≤ dp) (hd1 : dp ≤ 2 ^ 42) (hu0 : 0 ≤ u1) (hu1 : u1 ≤ 1) (k1 : Ok 34 [sz3 k 0 [] a b (.imm w3 0), i64 1] (i64 u1)) (k2 : Ok 34 [sz3 k 0 [] a b (.imm w3 0), i64 2] (i64 1))
    (ha : Ok 38 [a, .str nm, i64 dp] (.imm x 0)) (hb : Ok 38 [b, .str nm, i64 (dp + u1)] (.imm y 0)) (hc : Ok 38 [.imm w3 0, .str nm, i64 (dp + 1)] (.imm z 0)) : Ok 38 [sz3 k 0 [] a b (.imm w3 0), .str nm, i64 dp] (.imm [i64 k, i64 0, .str [], .imm x 0, .imm y 0, .imm z 0] 0) := by
  obtain ⟨N1, hp⟩ := hp; obtain ⟨N2, k1⟩ := k1; obtain ⟨N3, k2⟩ := k2; obtain ⟨N4, ha⟩ := ha; obtain ⟨N5, hb⟩ := hb; obtain ⟨N6, hc⟩ := hc
  have _ := h3
  exact ok_step (flL [(3, 4), (3, 11), (3, 18), (5, 4), (5, 11), (7, 5)]) (N1 + N2 + N3 + N4 + N5 + N6) fun n hn h => ⟨_, bd_n3.mpr ⟨eq_f h3 h, eq_f h2 h, hp n (by omega) h, eq_f hp0 h, ha n (by omega) h, k1 n (by omega) h, by rw [wadd hd0 hd1 hu0 hu1]; exact hb n (by omega) h, k2 n (by omega) h, by rw [wadd hd0 hd1 (by omega) (Int.le_refl 1)]; exact hc n (by omega) h, rfl⟩⟩
theorem bd_leaf (nm : List Nat) {k m dp : Int} {a b : AV} {s : List Nat} (h2 : k ≠ 2) (h3 : k ≠ 3) (hp : Ok 33 [i64 k] (i64 0)) : Ok 38 [sz3 k m s a b .nilp, .str nm, i64 dp] (sz3 k m s a b .nilp) := by
  obtain ⟨N1, hp⟩ := hp
  have _ := h3
  exact ok_step (flL [(3, 4), (3, 11), (3, 18), (5, 4), (5, 11), (7, 5)]) N1 fun n hn h => ⟨_, bd_l.mpr ⟨eq_f h3 h, eq_f h2 h, hp n (by omega) h, eq_t rfl h, rfl⟩⟩
theorem al_node2 (U : AV) {k dp u1 p : Int} {a b : AV} {x y : List AV} (h2 : k ≠ 2) (h3 : k ≠ 3) (hp : Ok 33 [i64 k] (i64 p)) (hp0 : p ≠ 0) (hd0 : 0 ≤ dp) (hd1 : dp ≤ 2 ^ 42) (hu0 : 0 ≤ u1) (hu1 : u1 ≤ 1) (k1 : Ok 34 [sz3 k 0 [] a b .nilp, i64 1] (i64 u1)) (k2 : Ok 34 [sz3 k 0 [] a b .nilp, i64 2] (i64 1))
    (ha : Ok 39 [a, U, i64 dp] (.imm x 0)) (hb : Ok 39 [b, U, i64 (dp + u1)] (.imm y 0)) : Ok 39 [sz3 k 0 [] a b .nilp, U, i64 dp] (.imm [i64 k, i64 0, .str [], .imm x 0, .imm y 0, .nilp] 0) := by
  obtain ⟨N1, hp⟩ := hp; obtain ⟨N2, k1⟩ := k1; obtain ⟨N3, k2⟩ := k2; obtain ⟨N4, ha⟩ := ha; obtain ⟨N5, hb⟩ := hb
  have _ := h3
  have nl : ∀ n, 1 ≤ n → ∀ h, ev n 39 [.nilp, U, i64 (wrapK .i64 (dp + 1))] h = .ok .nilp h := fun n hn h => at_step (N := 0) (flL [(3, 4), (5, 1), (7, 2), (7, 3), (8, 2), (8, 6), (8, 7), (9, 5), (10, 5)]) (fun n _ h => ⟨_, al_nil.mpr rfl⟩) hn h
  exact ok_step (flL [(3, 4), (5, 1), (7, 2), (7, 3), (8, 2), (8, 6), (8, 7), (9, 5), (10, 5)]) (N1 + N2 + N3 + N4 + N5 + 1) fun n hn h => ⟨_, al_n2.mpr ⟨eq_f h2 h, hp n (by omega) h, eq_f hp0 h, ha n (by omega) h, k1 n (by omega) h, by rw [wadd hd0 hd1 hu0 hu1]; exact hb n (by omega) h, k2 n (by omega) h, nl n (by omega) h, rfl⟩⟩
theorem al_node3 (U : AV) {k dp u1 p : Int} {a b : AV} {x y w3 z : List AV} (h2 : k ≠ 2) (h3 : k ≠ 3) (hp : Ok 33 [i64 k] (i64 p)) (hp0 : p ≠ 0) (hd0 : 0 ≤ dp) (hd1 : dp ≤ 2 ^ 42) (hu0 : 0 ≤ u1) (hu1 : u1 ≤ 1) (k1 : Ok 34 [sz3 k 0 [] a b (.imm w3 0), i64 1] (i64 u1)) (k2 : Ok 34 [sz3 k 0 [] a b (.imm w3 0), i64 2] (i64 1))
    (ha : Ok 39 [a, U, i64 dp] (.imm x 0)) (hb : Ok 39 [b, U, i64 (dp + u1)] (.imm y 0)) (hc : Ok 39 [.imm w3 0, U, i64 (dp + 1)] (.imm z 0)) : Ok 39 [sz3 k 0 [] a b (.imm w3 0), U, i64 dp] (.imm [i64 k, i64 0, .str [], .imm x 0, .imm y 0, .imm z 0] 0) := by
  obtain ⟨N1, hp⟩ := hp; obtain ⟨N2, k1⟩ := k1; obtain ⟨N3, k2⟩ := k2; obtain ⟨N4, ha⟩ := ha; obtain ⟨N5, hb⟩ := hb; obtain ⟨N6, hc⟩ := hc
  have _ := h3
  exact ok_step (flL [(3, 4), (5, 1), (7, 2), (7, 3), (8, 2), (8, 6), (8, 7), (9, 5), (10, 5)]) (N1 + N2 + N3 + N4 + N5 + N6) fun n hn h => ⟨_, al_n3.mpr ⟨eq_f h2 h, hp n (by omega) h, eq_f hp0 h, ha n (by omega) h, k1 n (by omega) h, by rw [wadd hd0 hd1 hu0 hu1]; exact hb n (by omega) h, k2 n (by omega) h, by rw [wadd hd0 hd1 (by omega) (Int.le_refl 1)]; exact hc n (by omega) h, rfl⟩⟩
theorem al_leaf (U : AV) {k m dp : Int} {a b : AV} {s : List Nat} (h2 : k ≠ 2) (h3 : k ≠ 3) (hp : Ok 33 [i64 k] (i64 0)) : Ok 39 [sz3 k m s a b .nilp, U, i64 dp] (sz3 k m s a b .nilp) := by
  obtain ⟨N1, hp⟩ := hp
  have _ := h3
  exact ok_step (flL [(3, 4), (5, 1), (7, 2), (7, 3), (8, 2), (8, 6), (8, 7), (9, 5), (10, 5)]) N1 fun n hn h => ⟨_, al_l.mpr ⟨eq_f h2 h, hp n (by omega) h, eq_t rfl h, rfl⟩⟩
theorem okr_putk {u : Tm} {a0 : Int} (ha : 0 ≤ a0) (ha2 : a0 ≤ 2 ^ 41) (hbu : Bd (2 ^ 61) u) (hhu : ht u ≤ 2 ^ 41) : ∀ (t : Tm) (k : Int), Bd (2 ^ 61) t → 0 ≤ k → k + ht t ≤ 2 ^ 40 → Ok 36 [tw t, tw u, i64 a0, i64 k] (tw (mapT (φP [u] a0) t k))
  | .sort m, k, _, _, _ => pt_leaf (tw u) a0 (by decide) (by decide) (ok_parts1)
  | .con s m, k, hb, hk, hh => by
    obtain ⟨N, kk⟩ := ok_parts3
    exact ok_step (flL [(3, 4), (4, 7), (6, 7), (9, 5)]) N fun n hn h => ⟨_, (pt_l (k := 3) (m := m) (s := s) (a := .nilp) (b := .nilp)).mpr ⟨eq_f (by decide) h, kk n hn h, eq_t rfl h, rfl⟩⟩
  | .var m, k, hb, hk, hh => by
    simp only [ht] at hh
    have h0 := hb.1; have h1 := hb.2
    have hw : wrapK .i64 (a0 + k) = a0 + k := wrap_id (by omega) (by omega)
    rw [P_var1 u a0 m k ha]
    by_cases q : m < k + a0
    · rw [if_pos q]
      exact ok_step (flL [(3, 4), (4, 7), (6, 7), (9, 5)]) 0 fun n _ h => ⟨_, pt_v3.mpr ⟨eq_t rfl h, eq_f (by rw [hw]; omega) h, obE (ilt_f (by rw [hw]; omega)), rfl⟩⟩
    · rw [if_neg q]
      by_cases q2 : m = k + a0
      · rw [if_pos q2]
        obtain ⟨N, kk⟩ := okr_lift hk (by omega) u 0 hbu (Int.le_refl _) (by omega)
        exact ok_step (flL [(3, 4), (4, 7), (6, 7), (9, 5)]) N fun n hn h => ⟨_, pt_v1.mpr ⟨eq_t rfl h, eq_t (by rw [hw]; omega) h, kk n hn h, rfl⟩⟩
      · rw [if_neg q2]
        obtain ⟨N, kk⟩ := ok_var (m - 1)
        exact ok_step (flL [(3, 4), (4, 7), (6, 7), (9, 5)]) N fun n hn h => ⟨_, pt_v2.mpr ⟨eq_t rfl h, eq_f (by rw [hw]; omega) h, obE (ilt_t (by rw [hw]; omega)), by rw [wrap_id (by omega) (by omega)]; exact kk n hn h, rfl⟩⟩
  | .pi a b, k, hb, hk, hh => by
    simp only [ht] at hh
    have pa := ht_nonneg a; have pb := ht_nonneg b
    have ka := okr_putk ha ha2 hbu hhu a k hb.1 hk (by omega)
    have kb := okr_putk ha ha2 hbu hhu b (k + 1) (hb.2) (by omega) (by omega)
    have := pt_node2 (tw u) a0 (k := 4) (dp := k) (u1 := 1) (by decide) (by decide) ok_parts4 (by decide) hk (by omega) (by decide) (by decide) (ok_under4 (tw a) (tw b) .nilp) (ok_underc4 (tw a) (tw b) .nilp) ka kb
    simp only [mapT]
    skip
    exact this
  | .lam a b, k, hb, hk, hh => by
    simp only [ht] at hh
    have pa := ht_nonneg a; have pb := ht_nonneg b
    have ka := okr_putk ha ha2 hbu hhu a k hb.1 hk (by omega)
    have kb := okr_putk ha ha2 hbu hhu b (k + 1) (hb.2) (by omega) (by omega)
    have := pt_node2 (tw u) a0 (k := 5) (dp := k) (u1 := 1) (by decide) (by decide) ok_parts5 (by decide) hk (by omega) (by decide) (by decide) (ok_under5 (tw a) (tw b) .nilp) (ok_underc5 (tw a) (tw b) .nilp) ka kb
    simp only [mapT]
    skip
    exact this
  | .app a b, k, hb, hk, hh => by
    simp only [ht] at hh
    have pa := ht_nonneg a; have pb := ht_nonneg b
    have ka := okr_putk ha ha2 hbu hhu a k hb.1 hk (by omega)
    have kb := okr_putk ha ha2 hbu hhu b (k + 0) (hb.2) (by omega) (by omega)
    have := pt_node2 (tw u) a0 (k := 6) (dp := k) (u1 := 0) (by decide) (by decide) ok_parts6 (by decide) hk (by omega) (by decide) (by decide) (ok_under6 (tw a) (tw b) .nilp) (ok_underc6 (tw a) (tw b) .nilp) ka kb
    simp only [mapT]
    rw [show mapT (φP [u] a0) b k = mapT (φP [u] a0) b (k + 0) by rw [Int.add_zero]]
    exact this
  | .lett a b c, k, hb, hk, hh => by
    simp only [ht] at hh
    have pa := ht_nonneg a; have pb := ht_nonneg b; have pc := ht_nonneg c
    have ka := okr_putk ha ha2 hbu hhu a k hb.1 hk (by omega)
    have kb := okr_putk ha ha2 hbu hhu b (k + 0) hb.2.1 (by omega) (by omega)
    have kc := okr_putk ha ha2 hbu hhu c (k + 1) hb.2.2 (by omega) (by omega)
    have := pt_node3 (tw u) a0 (k := 7) (dp := k) (u1 := 0) (by decide) (by decide) ok_parts7 (by decide) hk (by omega) (by decide) (by decide) (ok_under7 (tw a) (tw b) (tw c)) (ok_underc7 (tw a) (tw b) (tw c)) ka kb kc
    simp only [mapT]
    rw [show mapT (φP [u] a0) b k = mapT (φP [u] a0) b (k + 0) by rw [Int.add_zero]]
    exact this
theorem okr_bindk {nm : List Nat} : ∀ (t : Tm) (k : Int), Bd (2 ^ 61) t → 0 ≤ k → k + ht t ≤ 2 ^ 40 → Ok 38 [tw t, .str nm, i64 k] (tw (mapT (φB nm) t k))
  | .sort m, k, _, _, _ => bd_leaf nm (by decide) (by decide) (ok_parts1)
  | .con s m, k, hb, hk, hh => by
    show Ok 38 [tw (.con s m), .str nm, i64 k] (tw ((φB nm (.con s m) k).getD (.con s m)))
    simp only [φB]
    obtain ⟨N, kk⟩ := ok_parts3
    by_cases q : s = nm
    · by_cases q2 : m = 0
      · rw [if_pos ⟨q, q2⟩]
        obtain ⟨N, kk⟩ := ok_var k
        exact ok_step (flL [(3, 4), (3, 11), (3, 18), (5, 4), (5, 11), (7, 5)]) N fun n hn h => ⟨_, bd_c1.mpr ⟨eq_t rfl h, obE (by rw [seq_iff, decide_eq_true q]), eq_t q2 h, kk n hn h, rfl⟩⟩
      · rw [if_neg (fun e => q2 e.2)]
        exact ok_step (flL [(3, 4), (3, 11), (3, 18), (5, 4), (5, 11), (7, 5)]) N fun n hn h => ⟨_, bd_c2.mpr ⟨eq_t rfl h, obE (by rw [seq_iff, decide_eq_true q]), eq_f q2 h, eq_f (by decide) h, kk n hn h, eq_t rfl h, rfl⟩⟩
    · rw [if_neg (fun e => q e.1)]
      exact ok_step (flL [(3, 4), (3, 11), (3, 18), (5, 4), (5, 11), (7, 5)]) N fun n hn h => ⟨_, bd_c3.mpr ⟨eq_t rfl h, obE (by rw [seq_iff, decide_eq_false q]), eq_f (by decide) h, kk n hn h, eq_t rfl h, rfl⟩⟩
  | .var m, k, hb, hk, hh => by
    simp only [ht] at hh
    have h0 := hb.1; have h1 := hb.2
    show Ok 38 [tw (.var m), .str nm, i64 k] (tw ((φB nm (.var m) k).getD (.var m)))
    simp only [φB]
    by_cases q : m < k
    · rw [if_pos q]
      obtain ⟨N, kk⟩ := ok_parts2
      exact ok_step (flL [(3, 4), (3, 11), (3, 18), (5, 4), (5, 11), (7, 5)]) N fun n hn h => ⟨_, bd_v2.mpr ⟨eq_f (by decide) h, eq_t rfl h, obE (leb_f (by omega)), kk n hn h, eq_t rfl h, rfl⟩⟩
    · rw [if_neg q]
      obtain ⟨N, kk⟩ := ok_var (m + 1)
      exact ok_step (flL [(3, 4), (3, 11), (3, 18), (5, 4), (5, 11), (7, 5)]) N fun n hn h => ⟨_, bd_v1.mpr ⟨eq_f (by decide) h, eq_t rfl h, obE (leb (by omega)), by rw [wrap_id (by omega) (by omega)]; exact kk n hn h, rfl⟩⟩
  | .pi a b, k, hb, hk, hh => by
    simp only [ht] at hh
    have pa := ht_nonneg a; have pb := ht_nonneg b
    have ka := okr_bindk (nm := nm) a k hb.1 hk (by omega)
    have kb := okr_bindk (nm := nm) b (k + 1) (hb.2) (by omega) (by omega)
    have := bd_node2 nm (k := 4) (dp := k) (u1 := 1) (by decide) (by decide) ok_parts4 (by decide) hk (by omega) (by decide) (by decide) (ok_under4 (tw a) (tw b) .nilp) (ok_underc4 (tw a) (tw b) .nilp) ka kb
    simp only [mapT]
    skip
    exact this
  | .lam a b, k, hb, hk, hh => by
    simp only [ht] at hh
    have pa := ht_nonneg a; have pb := ht_nonneg b
    have ka := okr_bindk (nm := nm) a k hb.1 hk (by omega)
    have kb := okr_bindk (nm := nm) b (k + 1) (hb.2) (by omega) (by omega)
    have := bd_node2 nm (k := 5) (dp := k) (u1 := 1) (by decide) (by decide) ok_parts5 (by decide) hk (by omega) (by decide) (by decide) (ok_under5 (tw a) (tw b) .nilp) (ok_underc5 (tw a) (tw b) .nilp) ka kb
    simp only [mapT]
    skip
    exact this
  | .app a b, k, hb, hk, hh => by
    simp only [ht] at hh
    have pa := ht_nonneg a; have pb := ht_nonneg b
    have ka := okr_bindk (nm := nm) a k hb.1 hk (by omega)
    have kb := okr_bindk (nm := nm) b (k + 0) (hb.2) (by omega) (by omega)
    have := bd_node2 nm (k := 6) (dp := k) (u1 := 0) (by decide) (by decide) ok_parts6 (by decide) hk (by omega) (by decide) (by decide) (ok_under6 (tw a) (tw b) .nilp) (ok_underc6 (tw a) (tw b) .nilp) ka kb
    simp only [mapT]
    rw [show mapT (φB nm) b k = mapT (φB nm) b (k + 0) by rw [Int.add_zero]]
    exact this
  | .lett a b c, k, hb, hk, hh => by
    simp only [ht] at hh
    have pa := ht_nonneg a; have pb := ht_nonneg b; have pc := ht_nonneg c
    have ka := okr_bindk (nm := nm) a k hb.1 hk (by omega)
    have kb := okr_bindk (nm := nm) b (k + 0) hb.2.1 (by omega) (by omega)
    have kc := okr_bindk (nm := nm) c (k + 1) hb.2.2 (by omega) (by omega)
    have := bd_node3 nm (k := 7) (dp := k) (u1 := 0) (by decide) (by decide) ok_parts7 (by decide) hk (by omega) (by decide) (by decide) (ok_under7 (tw a) (tw b) (tw c)) (ok_underc7 (tw a) (tw b) (tw c)) ka kb kc
    simp only [mapT]
    rw [show mapT (φB nm) b k = mapT (φB nm) b (k + 0) by rw [Int.add_zero]]
    exact this
/-- A row of trees that isn't written again. -/
def SlAt (V : AV) (us : List Tm) : Prop := (∀ h, OR.of h (lenSl V) = .ok (i64 (Int.ofNat us.length)) h) ∧ ∀ j u, us[j]? = some u → ∃ fs i, (∀ cf h, oIaddr (.sl 1) (xC V) (xC (i64 (Int.ofNat j))) cf .nil [] h = .ok (.imm fs i) h) ∧ ∀ h, ldO h (.imm fs i) = .ok (tw u) h
/-- Cells that lie one by one. -/
theorem fl_at {vs : List AV} {ex : Bool} {j : Nat} {v : AV} (e : vs[j]? = some v) : ∃ fs i, (∀ cf h, oIaddr (.sl 1) (xC (.fl vs 0 vs.length 1 ex)) (xC (i64 (Int.ofNat j))) cf .nil [] h = .ok (.imm fs i) h) ∧ ∀ h, ldO h (.imm fs i) = .ok v h := by
  have hj : j < vs.length := (List.getElem?_eq_some_iff.1 e).1
  refine ⟨vs, Nat.add 0 (Nat.mul j 1), fun cf h => ?_, fun h => ?_⟩
  · show OR.of h (iaddrAV (.sl 1) (.fl vs 0 vs.length 1 ex) j) = _
    have e3 : iaddrAV (.sl 1) (.fl vs 0 vs.length 1 ex) j = some (.imm vs (Nat.add 0 (Nat.mul j 1))) := by
      unfold iaddrAV
      simp only
      rw [show Nat.beq 1 1 = true from rfl, show Nat.ble (Nat.succ j) vs.length = true from ble_iff.2 hj]
    rw [e3]; rfl
  · have e4 : lpart vs (Nat.add 0 (Nat.mul j 1)) 1 = some [v] := by
      apply lpart_one
      rw [show Nat.add 0 (Nat.mul j 1) = j by show 0 + j * 1 = j; omega]
      exact e
    show OR.of h (match lpart vs (Nat.add 0 (Nat.mul j 1)) ((none : Option Nat).getD 1) with | some cs => asVal none cs | none => none) = _
    rw [show ((none : Option Nat).getD 1) = 1 from rfl, e4]; rfl
theorem slAt_fl (us : List Tm) (ex : Bool) : SlAt (.fl (us.map tw) 0 us.length 1 ex) us := by
  refine ⟨fun h => rfl, fun j u e => ?_⟩
  have := fl_at (vs := us.map tw) (ex := ex) (j := j) (v := tw u) (by simp [e])
  rwa [List.length_map] at this
theorem slAt_nils : SlAt .nils [] := ⟨fun h => rfl, fun j u e => by simp at e⟩
theorem okr_allk {V : AV} {us : List Tm} (hV : SlAt V us) (hl : us.length ≤ 2 ^ 40) (hu : ∀ u ∈ us, Bd (2 ^ 61) u ∧ ht u ≤ 2 ^ 41) : ∀ (t : Tm) (k : Int), Bd (2 ^ 61) t → 0 ≤ k → k + ht t ≤ 2 ^ 40 → Ok 39 [tw t, V, i64 k] (tw (mapT (φP us 0) t k))
  | .sort m, k, _, _, _ => al_leaf V (by decide) (by decide) (ok_parts1)
  | .con s m, k, hb, hk, hh => by
    obtain ⟨N, kk⟩ := ok_parts3
    exact ok_step (flL [(3, 4), (5, 1), (7, 2), (7, 3), (8, 2), (8, 6), (8, 7), (9, 5), (10, 5)]) N fun n hn h => ⟨_, (al_l (k := 3) (m := m) (s := s) (a := .nilp) (b := .nilp)).mpr ⟨eq_f (by decide) h, kk n hn h, eq_t rfl h, rfl⟩⟩
  | .var m, k, hb, hk, hh => by
    simp only [ht] at hh
    have h0 := hb.1; have h1 := hb.2
    have hw : wrapK .i64 (m - k) = m - k := wrap_id (by omega) (by omega)
    have hof : Int.ofNat us.length = (us.length : Int) := rfl
    show Ok 39 [tw (.var m), V, i64 k] (tw ((φP us 0 (.var m) k).getD (.var m)))
    simp only [φP]
    by_cases q : m - k - 0 < 0
    · rw [if_pos q]
      exact ok_step (flL [(3, 4), (5, 1), (7, 2), (7, 3), (8, 2), (8, 6), (8, 7), (9, 5), (10, 5)]) 0 fun n _ h => ⟨_, al_v1.mpr ⟨eq_t rfl h, obE (ilt_t (by rw [hw]; omega)), rfl⟩⟩
    · rw [if_neg q]
      have e1 : ∀ h : AHeap, OR.ok (.bool (ilt (wrapK .i64 (m - k)) 0)) h = .ok (.bool false) h := fun h => obE (ilt_f (by rw [hw]; omega))
      by_cases q2 : m - k - 0 < us.length
      · rw [if_pos q2]
        obtain ⟨j, hj⟩ : ∃ j, us.length - 1 - (m - k - 0).toNat = j := ⟨_, rfl⟩
        have hjl : j < us.length := by omega
        have hget : us.getD j (.sort 0) = us[j] := by simp [List.getD, hjl]
        rw [hj, hget]
        obtain ⟨fs, i, e2, e3⟩ := hV.2 j us[j] (List.getElem?_eq_getElem hjl)
        obtain ⟨bu, hhu⟩ := hu us[j] (List.getElem_mem hjl)
        obtain ⟨N, kk⟩ := okr_lift hk (by omega) us[j] 0 bu (Int.le_refl _) (by omega)
        refine ok_step (flL [(3, 4), (5, 1), (7, 2), (7, 3), (8, 2), (8, 6), (8, 7), (9, 5), (10, 5)]) N fun n hn h => ⟨_, al_v2.mpr ⟨eq_t rfl h, e1 h, hV.1 h, obE (ilt_t (by rw [hw, hof]; omega)), hV.1 h, ?_, e3 h, kk n hn h, rfl⟩⟩
        rw [hw, hof, wrap_id (x := (us.length : Int) - 1) (by omega) (by omega), wrap_id (by omega) (by omega), show (us.length : Int) - 1 - (m - k) = Int.ofNat j by show _ = (j : Int); omega]
        exact e2 _ h
      · rw [if_neg q2]
        obtain ⟨N, kk⟩ := ok_var (m - us.length)
        exact ok_step (flL [(3, 4), (5, 1), (7, 2), (7, 3), (8, 2), (8, 6), (8, 7), (9, 5), (10, 5)]) N fun n hn h => ⟨_, al_v3.mpr ⟨eq_t rfl h, e1 h, hV.1 h, obE (ilt_f (by rw [hw, hof]; omega)), hV.1 h, by rw [hof, wrap_id (by omega) (by omega)]; exact kk n hn h, rfl⟩⟩
  | .pi a b, k, hb, hk, hh => by
    simp only [ht] at hh
    have pa := ht_nonneg a; have pb := ht_nonneg b
    have ka := okr_allk hV hl hu a k hb.1 hk (by omega)
    have kb := okr_allk hV hl hu b (k + 1) (hb.2) (by omega) (by omega)
    have := al_node2 V (k := 4) (dp := k) (u1 := 1) (by decide) (by decide) ok_parts4 (by decide) hk (by omega) (by decide) (by decide) (ok_under4 (tw a) (tw b) .nilp) (ok_underc4 (tw a) (tw b) .nilp) ka kb
    simp only [mapT]
    skip
    exact this
  | .lam a b, k, hb, hk, hh => by
    simp only [ht] at hh
    have pa := ht_nonneg a; have pb := ht_nonneg b
    have ka := okr_allk hV hl hu a k hb.1 hk (by omega)
    have kb := okr_allk hV hl hu b (k + 1) (hb.2) (by omega) (by omega)
    have := al_node2 V (k := 5) (dp := k) (u1 := 1) (by decide) (by decide) ok_parts5 (by decide) hk (by omega) (by decide) (by decide) (ok_under5 (tw a) (tw b) .nilp) (ok_underc5 (tw a) (tw b) .nilp) ka kb
    simp only [mapT]
    skip
    exact this
  | .app a b, k, hb, hk, hh => by
    simp only [ht] at hh
    have pa := ht_nonneg a; have pb := ht_nonneg b
    have ka := okr_allk hV hl hu a k hb.1 hk (by omega)
    have kb := okr_allk hV hl hu b (k + 0) (hb.2) (by omega) (by omega)
    have := al_node2 V (k := 6) (dp := k) (u1 := 0) (by decide) (by decide) ok_parts6 (by decide) hk (by omega) (by decide) (by decide) (ok_under6 (tw a) (tw b) .nilp) (ok_underc6 (tw a) (tw b) .nilp) ka kb
    simp only [mapT]
    rw [show mapT (φP us 0) b k = mapT (φP us 0) b (k + 0) by rw [Int.add_zero]]
    exact this
  | .lett a b c, k, hb, hk, hh => by
    simp only [ht] at hh
    have pa := ht_nonneg a; have pb := ht_nonneg b; have pc := ht_nonneg c
    have ka := okr_allk hV hl hu a k hb.1 hk (by omega)
    have kb := okr_allk hV hl hu b (k + 0) hb.2.1 (by omega) (by omega)
    have kc := okr_allk hV hl hu c (k + 1) hb.2.2 (by omega) (by omega)
    have := al_node3 V (k := 7) (dp := k) (u1 := 0) (by decide) (by decide) ok_parts7 (by decide) hk (by omega) (by decide) (by decide) (ok_under7 (tw a) (tw b) (tw c)) (ok_underc7 (tw a) (tw b) (tw c)) ka kb kc
    simp only [mapT]
    rw [show mapT (φP us 0) b k = mapT (φP us 0) b (k + 0) by rw [Int.add_zero]]
    exact this
theorem okr_put (t u : Tm) {a : Int} (ha : 0 ≤ a) (ha2 : a ≤ 2 ^ 41) (hb : Bd (2 ^ 61) t) (hh : ht t ≤ 2 ^ 40) (hbu : Bd (2 ^ 61) u) (hhu : ht u ≤ 2 ^ 41) : Ok 16 [tw t, tw u, i64 a] (tw (mapT (φP [u] a) t 0)) := by
  obtain ⟨N, k⟩ := okr_putk ha ha2 hbu hhu t 0 hb (Int.le_refl _) (by omega)
  exact ok_step fl0 N fun n hn h => ⟨_, put16.mpr ⟨k n hn h, rfl⟩⟩
theorem okr_bind (nm : List Nat) (t : Tm) (hb : Bd (2 ^ 61) t) (hh : ht t ≤ 2 ^ 40) : Ok 18 [tw t, .str nm] (tw (mapT (φB nm) t 0)) := by
  obtain ⟨N, k⟩ := okr_bindk (nm := nm) t 0 hb (Int.le_refl _) (by omega)
  exact ok_step fl0 N fun n hn h => ⟨_, bind18.mpr ⟨k n hn h, rfl⟩⟩
theorem okr_all {V : AV} {us : List Tm} (hV : SlAt V us) (hl : us.length ≤ 2 ^ 40) (hu : ∀ u ∈ us, Bd (2 ^ 61) u ∧ ht u ≤ 2 ^ 41) (t : Tm) (hb : Bd (2 ^ 61) t) (hh : ht t ≤ 2 ^ 40) : Ok 20 [tw t, V] (tw (mapT (φP us 0) t 0)) := by
  obtain ⟨N, k⟩ := okr_allk hV hl hu t 0 hb (Int.le_refl _) (by omega)
  exact ok_step fl0 N fun n hn h => ⟨_, all20.mpr ⟨k n hn h, rfl⟩⟩
end Go.Vd

namespace Go.Vd
open Go Go.RowKit Go.Proofs
set_option maxRecDepth 100000
/-- A row of texts that isn't written. -/
def LsAt (L : AV) (ls : List (List Nat)) : Prop := (∀ h, OR.of h (lenSl L) = .ok (i64 (Int.ofNat ls.length)) h) ∧ ∀ j s, ls[j]? = some s → ∃ fs i, (∀ cf h, oIaddr (.sl 1) (xC L) (xC (i64 (Int.ofNat j))) cf .nil [] h = .ok (.imm fs i) h) ∧ ∀ h, ldO h (.imm fs i) = .ok (.str s) h
theorem lsAt_fl (ls : List (List Nat)) (ex : Bool) : LsAt (.fl (ls.map .str) 0 ls.length 1 ex) ls := by
  refine ⟨fun h => rfl, fun j s e => ?_⟩
  have := fl_at (vs := ls.map .str) (ex := ex) (j := j) (v := .str s) (by simp [e])
  rwa [List.length_map] at this
theorem lsAt_nils : LsAt .nils [] := ⟨fun h => rfl, fun j s e => by simp at e⟩
/-- A row of trees that grows. -/
def AccS (S : AV) (h : AHeap) (us : List Tm) : Prop := (S = .nils ∧ us = []) ∨ ∃ b g A, S = .slice b 0 g us.length us.length 1 false ∧ us ≠ [] ∧ b < h.next ∧ h.m.get b = some (.blk A) ∧ A.n = us.length ∧ A.gen = g ∧ ∀ i, i < us.length → A.cells.get i = (us.map tw)[i]?
theorem AccS.ext {S : AV} {h h' : AHeap} {us : List Tm} (a : AccS S h us) (E : Ext h h') : AccS S h' us := by
  rcases a with a | ⟨b, g, A, e1, e2, e3, e4, e5⟩
  · exact .inl a
  · exact .inr ⟨b, g, A, e1, e2, Nat.lt_of_lt_of_le e3 E.next, (E.old b e3).trans e4, e5⟩
theorem elems_one (h : AHeap) (x : AV) : elemsAV h 1 (.fl [x] 0 1 1 true) = some (1, [x]) := rfl
theorem AccS.app {S : AV} {h : AHeap} {us : List Tm} (a : AccS S h us) (hl : us.length ≤ 1000) (t : Tm) : ∃ S' h', OR.of2 (appAV h 1 8 S (.fl [tw t] 0 1 1 true)) = .ok S' h' ∧ AccS S' h' (us ++ [t]) := by
  rcases a with ⟨rfl, rfl⟩ | ⟨b, g, A, rfl, e2, e3, e4, e5, e6, e7⟩
  · obtain ⟨C, c1, c2⟩ := own_alloc h [tw t]
    exact ⟨.slice h.next 0 0 1 1 1 false, h.alloc [tw t], rfl, .inr ⟨h.next, 0, _, rfl, by simp, by rw [alloc_next]; omega, c1, rfl, rfl, c2⟩⟩
  · have hb : h.blk? b = some A := by unfold AHeap.blk?; rw [e4]
    have r : appAV h 1 8 (.slice b 0 g us.length us.length 1 false) (.fl [tw t] 0 1 1 true) = some (.slice b 0 (Nat.succ g) (Nat.add us.length 1) (Nat.add us.length 1) 1 false, { h with m := h.m.put b (some (.blk (extA A [tw t]))) }) := by
      unfold appAV
      rw [elems_one]
      simp only
      rw [show Nat.beq 1 1 = true from rfl, show Nat.ble (Nat.mul (Nat.add us.length 1) (Nat.succ 8)) 1099511627776 = true from ble_iff.2 (by show (us.length + 1) * 9 ≤ _; omega)]
      simp only
      rw [show Nat.ble (Nat.add us.length 1) us.length = false from ble_ff.2 (by show ¬ us.length + 1 ≤ us.length; omega)]
      simp only
      rw [hb]
      simp only
      rw [beq_iff.2 e6.symm, show Nat.beq (Nat.add 0 (Nat.mul us.length 1)) A.n = true from beq_iff.2 (by show 0 + us.length * 1 = A.n; omega)]
      rfl
    refine ⟨.slice b 0 (Nat.succ g) (Nat.add us.length 1) (Nat.add us.length 1) 1 false, { h with m := h.m.put b (some (.blk (extA A [tw t]))) }, by rw [r]; rfl, .inr ⟨b, Nat.succ g, extA A [tw t], by simp, by simp, e3, ?_, ?_, ?_, fun i hi => ?_⟩⟩
    · show (h.m.put b _).get b = _
      rw [PT.get_put, if_pos rfl]
    · show A.n + 1 = _
      simp [e5]
    · show Nat.succ A.gen = _
      rw [e6]
    · show (ptFill [tw t] A.cells A.n).get i = _
      simp only [List.length_append, List.length_singleton] at hi
      rw [get_ptFill, e5]
      by_cases q : i < us.length
      · rw [if_neg (by omega), e7 i q, List.map_append, List.getElem?_append_left (by simpa using q)]
      · rw [if_pos ⟨by omega, by simpa using hi⟩, List.map_append, List.getElem?_append_right (by simpa using Nat.le_of_not_lt q)]
        simp
theorem AccS.frz {S : AV} {h : AHeap} {us : List Tm} (a : AccS S h us) : ∃ h', frO h S = .ok (match us with | [] => .nils | us => .fl (us.map tw) 0 us.length 1 false) h' := by
  rcases a with ⟨rfl, rfl⟩ | ⟨b, g, A, rfl, e2, e3, e4, e5, e6, e7⟩
  · exact ⟨h, rfl⟩
  · have hb : h.blk? b = some A := by unfold AHeap.blk?; rw [e4]
    refine ⟨{ h with m := h.m.put b none }, ?_⟩
    have hp : ptPart A.cells 0 us.length = some (us.map tw) := by
      have := ptPart_of_get (t := A.cells) (us.map tw) 0 (fun i hi => by rw [Nat.zero_add]; exact e7 i (by simpa using hi))
      rwa [List.length_map] at this
    have hm : (match us with | [] => AV.nils | us => .fl (us.map tw) 0 us.length 1 false) = .fl (us.map tw) 0 us.length 1 false := by
      cases us with
      | nil => exact absurd rfl e2
      | cons _ _ => rfl
    rw [hm]
    unfold frO frzAV
    simp only
    rw [hb]
    simp only
    rw [beq_iff.2 e6.symm, show Nat.ble (Nat.add 0 (Nat.mul us.length 1)) A.n = true from ble_iff.2 (by show 0 + us.length * 1 ≤ A.n; omega), show Nat.mul us.length 1 = us.length from Nat.mul_one _, hp]
    rfl
abbrev fl11 : Nat → Nat → Bool := flL [(3, 2), (3, 3), (5, 2), (5, 3), (7, 3)]
/-- One round: from either head to a head of the second kind. -/
theorem tm_round {L : AV} {ls : List (List Nat)} (hL : LsAt L ls) {i : Nat} {s : List Nat} (he : ls[i]? = some s) (hs : By s) (hi : i ≤ 1000) : ∃ us1 : List Tm, us1.length ≤ 1 ∧ (∀ u ∈ us1, Bd (2 ^ 30) u ∧ ht u ≤ 3000) ∧ ∃ N, ∀ n, N ≤ n → ∀ nf h S us, AccS S h us → us.length ≤ 1000 →
    ∃ S' h' a' z', AccS S' h' (us ++ us1) ∧ bodyRun Try.prog H1 11 (ev n) nf (frA0 L S (Int.ofNat i)) h = .ok .normal (frA2 L S' (Int.ofNat (i + 1)) true a' z') h' ∧
      ∀ w a z, bodyRun Try.prog H1 11 (ev n) nf (frA2 L S (Int.ofNat i) w a z) h = .ok .normal (frA2 L S' (Int.ofNat (i + 1)) true a' z') h' := by
  obtain ⟨fs, j, e1, e2⟩ := hL.2 i s he
  have hlt : i < ls.length := (List.getElem?_eq_some_iff.1 he).1
  have e0 : ∀ h : AHeap, OR.ok (.bool (ilt (Int.ofNat i) (Int.ofNat ls.length))) h = .ok (.bool true) h := fun h => obE (ilt_t (Int.ofNat_lt.2 hlt))
  have hw : wrapK .i64 (Int.ofNat i + 1) = Int.ofNat (i + 1) := by
    have h0 : (Int.ofNat i : Int) = (i : Int) := rfl
    rw [wrap_id (by omega) (by omega)]; rfl
  rcases termX hs with ⟨N, k⟩ | ⟨t, hb, hh, N, k⟩
  · refine ⟨[], by simp, by simp, N, fun n hn nf h S us ac hl => ?_⟩
    obtain ⟨h2, e3, E⟩ := k n hn h
    refine ⟨S, h2, .nilp, false, by rw [List.append_nil]; exact ac.ext E, ?_, fun w a z => ?_⟩
    · rw [← hw]; exact goes_body (ab_n0.mpr ⟨hL.1 h, e0 h, e1 _ h, e2 h, e3, rfl⟩)
    · rw [← hw]; exact goes_body (ab_n2.mpr ⟨hL.1 h, e0 h, e1 _ h, e2 h, e3, rfl⟩)
  · refine ⟨[t], by simp, by intro u hu; simp at hu; subst hu; exact ⟨hb, hh⟩, N, fun n hn nf h S us ac hl => ?_⟩
    obtain ⟨h2, e3, E⟩ := k n hn h
    obtain ⟨S', h3, e4, ac'⟩ := (ac.ext E).app hl t
    refine ⟨S', h3, tw t, true, ac', ?_, fun w a z => ?_⟩
    · rw [← hw]; exact goes_body (ab_t0.mpr ⟨hL.1 h, e0 h, e1 _ h, e2 h, e3, e4, rfl⟩)
    · rw [← hw]; exact goes_body (ab_t2.mpr ⟨hL.1 h, e0 h, e1 _ h, e2 h, e3, e4, rfl⟩)
theorem tm_loop {L : AV} {ls : List (List Nat)} (hL : LsAt L ls) (hB : ∀ s ∈ ls, By s) (h6 : ls.length ≤ 6) : ∀ (m i : Nat), ls.length - i = m → i ≤ ls.length → ∃ us1 : List Tm, us1.length ≤ m ∧ (∀ u ∈ us1, Bd (2 ^ 30) u ∧ ht u ≤ 3000) ∧ ∃ N, ∀ n, N ≤ n → ∀ nf k h S us w a z, m < k → AccS S h us → us.length + m ≤ 1000 →
    ∃ S' h' w' a' z', loopR (bodyRun Try.prog H1 11 (ev n) nf) k (frA2 L S (Int.ofNat i) w a z) h = .ok (.exit 0) (frA2 L S' (Int.ofNat ls.length) w' a' z') h' ∧ AccS S' h' (us ++ us1) := by
  intro m
  induction m with
  | zero =>
    intro i hm hi
    refine ⟨[], by simp, by simp, 0, fun n _ nf k h S us w a z hk ac _ => ⟨S, h, false, a, z, ?_, by rw [List.append_nil]; exact ac⟩⟩
    obtain ⟨k, rfl⟩ : ∃ j, k = j + 1 := ⟨k - 1, by omega⟩
    have hie : i = ls.length := by omega
    subst hie
    exact loop_end (goes_body (ab_e2.mpr ⟨hL.1 h, obE (ilt_f (Int.le_refl _)), rfl⟩)) (by simp)
  | succ m ih =>
    intro i hm hi
    obtain ⟨s, he⟩ : ∃ s, ls[i]? = some s := ⟨ls[i]'(by omega), List.getElem?_eq_getElem (by omega)⟩
    obtain ⟨us1, l1, b1, N1, k1⟩ := tm_round hL he (hB s (List.mem_of_getElem? he)) (by omega)
    obtain ⟨us2, l2, b2, N2, k2⟩ := ih (i + 1) (by omega) (by omega)
    refine ⟨us1 ++ us2, by simp; omega, fun u hu => by rcases List.mem_append.1 hu with q | q; exact b1 u q; exact b2 u q, N1 + N2, fun n hn nf k h S us w a z hk ac hl => ?_⟩
    obtain ⟨k, rfl⟩ : ∃ j, k = j + 1 := ⟨k - 1, by omega⟩
    obtain ⟨S', h', a', z', ac', _, r⟩ := k1 n (by omega) nf h S us ac (by omega)
    obtain ⟨S2, h2, w2, a2, z2, r2, ac2⟩ := k2 n (by omega) nf k h' S' (us ++ us1) true a' z' (by omega) ac' (by simp; omega)
    exact ⟨S2, h2, w2, a2, z2, by rw [loop_one (r w a z)]; exact r2, by rw [← List.append_assoc]; exact ac2⟩
def VAt (V : AV) (us : List Tm) : Prop := V = (match us with | [] => .nils | us => .fl (us.map tw) 0 us.length 1 false)
theorem VAt.sl {V : AV} {us : List Tm} (h : VAt V us) : SlAt V us := by
  unfold VAt at h
  subst h
  cases us with
  | nil => exact slAt_nils
  | cons u us => exact slAt_fl (u :: us) false
theorem ok_terms {L : AV} {ls : List (List Nat)} (hL : LsAt L ls) (hB : ∀ s ∈ ls, By s) (h6 : ls.length ≤ 6) : ∃ V us, VAt V us ∧ us.length ≤ 6 ∧ (∀ u ∈ us, Bd (2 ^ 30) u ∧ ht u ≤ 3000) ∧ ∃ N, ∀ n, N ≤ n → ∀ h, ∃ h', ev n 11 [L] h = .ok V h' := by
  by_cases hl : 0 < ls.length
  · obtain ⟨s, he⟩ : ∃ s, ls[0]? = some s := ⟨ls[0]'hl, List.getElem?_eq_getElem hl⟩
    obtain ⟨us1, l1, b1, N1, k1⟩ := tm_round hL he (hB s (List.mem_of_getElem? he)) (by omega)
    obtain ⟨us2, l2, b2, N2, k2⟩ := tm_loop hL hB h6 (ls.length - 1) 1 rfl (by omega)
    refine ⟨_, us1 ++ us2, rfl, by simp; omega, fun u hu => by rcases List.mem_append.1 hu with q | q; exact b1 u q; exact b2 u q, N1 + N2 + 20, fun n hn h => ?_⟩
    obtain ⟨j, rfl⟩ : ∃ j, n = j + 1 := ⟨n - 1, by omega⟩
    obtain ⟨S', h', a', z', ac', r, _⟩ := k1 j (by omega) j h .nils [] (.inl ⟨rfl, rfl⟩) (by simp)
    obtain ⟨S2, h2, w2, a2, z2, r2, ac2⟩ := k2 j (by omega) j (j - 1) h' S' ([] ++ us1) true a' z' (by omega) ac' (by simp; omega)
    rw [List.nil_append] at ac2
    obtain ⟨h3, r3⟩ := ac2.frz
    have hlp : cLoop (bodyRun Try.prog H1 11) (ev j) j (frA0 L .nils 0) h = .ok (.exit 0) (frA2 L S2 (Int.ofNat ls.length) w2 a2 z2) h2 := by
      rw [cLoop_at]
      obtain ⟨i, hi⟩ : ∃ i, j = i + 1 := ⟨j - 1, by omega⟩
      rw [hi] at r r2 ⊢
      exact (loop_one (k := i) r).trans r2
    exact ⟨h3, goes_call (flL [(8, 1)]) (tms_2.mpr ⟨hlp, r3, rfl⟩) (by intro q; cases q)⟩
  · refine ⟨.nils, [], rfl, by simp, by simp, 2, fun n hn h => ?_⟩
    obtain ⟨j, rfl⟩ : ∃ j, n = j + 1 := ⟨n - 1, by omega⟩
    have h0 : ls.length = 0 := by omega
    have hlp : cLoop (bodyRun Try.prog H1 11) (ev j) j (frA0 L .nils 0) h = .ok (.exit 0) (frA1 L .nils 0 false) h := by
      rw [cLoop_at]
      obtain ⟨i, rfl⟩ : ∃ i, j = i + 1 := ⟨j - 1, by omega⟩
      exact loop_end (goes_body (ab_e0.mpr ⟨hL.1 h, obE (ilt_f (by rw [h0]; decide)), rfl⟩)) (by simp)
    exact ⟨h, goes_call (flL [(8, 1)]) (tms_1.mpr ⟨hlp, rfl, rfl⟩) (by simp)⟩
end Go.Vd

namespace Go.Vd
open Go Go.RowKit Go.Proofs
set_option maxRecDepth 100000
theorem md20 {b : Int} (hb : 0 ≤ b) : ∃ K, wrapK .i64 (Int.tmod b 20) = K ∧ 0 ≤ K ∧ K < 20 := by
  have e := Int.tmod_eq_emod_of_nonneg (b := 20) hb
  refine ⟨b % 20, ?_, by omega, by omega⟩
  rw [e]; exact wrap_id (by omega) (by omega)
section
variable {s u L V : AV} {by' fm at' : Int} {nm : List Nat} {x1 x2 : List AV}
/-- The look at each term: it is too much, or all is well. -/
theorem look_loop {t : Tm} {us : List Tm} (hx : x1 = cellsT t) (hV : SlAt V us) (h6 : us.length ≤ 6) : ∀ (m i : Nat), us.length - i = m → i ≤ us.length →
    (∃ N, ∀ n, N ≤ n → ∀ nf k h r w z, m < k → ∃ i' w' z', loopR (bodyRun Try.prog H1 3 (ev n) nf) k (frM2 s u by' fm at' nm L r x1 x2 V (Int.ofNat i) w z) h = .ok .ret (frM2 s u by' fm at' nm L true x1 x2 V i' w' z') h) ∨
    (∃ N, ∀ n, N ≤ n → ∀ nf k h r w z, m < k → ∃ i' w' z', loopR (bodyRun Try.prog H1 3 (ev n) nf) k (frM2 s u by' fm at' nm L r x1 x2 V (Int.ofNat i) w z) h = .ok (.exit 0) (frM2 s u by' fm at' nm L r x1 x2 V i' w' z') h) := by
  intro m
  induction m with
  | zero =>
    intro i hm hi
    refine .inr ⟨0, fun n _ nf k h r w z hk => ⟨Int.ofNat i, false, z, ?_⟩⟩
    obtain ⟨k, rfl⟩ : ∃ j, k = j + 1 := ⟨k - 1, by omega⟩
    exact loop_end (goes_body (mb_e2.mpr ⟨hV.1 h, obE (ilt_f (Int.ofNat_le.2 (by omega))), rfl⟩)) (by simp)
  | succ m ih =>
    intro i hm hi
    have hlt : i < us.length := by omega
    obtain ⟨fs, j, e1, e2⟩ := hV.2 i us[i] (List.getElem?_eq_getElem hlt)
    have e0 : ∀ h : AHeap, OR.ok (.bool (ilt (Int.ofNat i) (Int.ofNat us.length))) h = .ok (.bool true) h := fun h => obE (ilt_t (Int.ofNat_lt.2 hlt))
    have hw : wrapK .i64 (Int.ofNat i + 1) = Int.ofNat (i + 1) := wnx (by omega)
    obtain ⟨b, N, kl⟩ := light_ok t us[i] us[i]
    cases b with
    | false =>
      refine .inl ⟨N, fun n hn nf k h r w z hk => ⟨Int.ofNat i, true, true, ?_⟩⟩
      obtain ⟨k, rfl⟩ : ∃ j, k = j + 1 := ⟨k - 1, by omega⟩
      exact loop_end (goes_body (mb_r2.mpr ⟨hV.1 h, e0 h, e1 _ h, e2 h, e1 _ h, e2 h, by rw [hx]; exact kl n hn h, rfl⟩)) (by simp)
    | true =>
      have step : ∀ n, N ≤ n → ∀ nf h r w z, bodyRun Try.prog H1 3 (ev n) nf (frM2 s u by' fm at' nm L r x1 x2 V (Int.ofNat i) w z) h = .ok .normal (frM2 s u by' fm at' nm L r x1 x2 V (Int.ofNat (i + 1)) true false) h := fun n hn nf h r w z => by
        rw [← hw]
        exact goes_body (mb_n2.mpr ⟨hV.1 h, e0 h, e1 _ h, e2 h, e1 _ h, e2 h, by rw [hx]; exact kl n hn h, rfl⟩)
      rcases ih (i + 1) (by omega) (by omega) with ⟨N2, k2⟩ | ⟨N2, k2⟩
      · refine .inl ⟨N + N2, fun n hn nf k h r w z hk => ?_⟩
        obtain ⟨k, rfl⟩ : ∃ j, k = j + 1 := ⟨k - 1, by omega⟩
        rw [loop_one (step n (by omega) nf h r w z)]
        exact k2 n (by omega) nf k h r true false (by omega)
      · refine .inr ⟨N + N2, fun n hn nf k h r w z hk => ?_⟩
        obtain ⟨k, rfl⟩ : ∃ j, k = j + 1 := ⟨k - 1, by omega⟩
        rw [loop_one (step n (by omega) nf h r w z)]
        exact k2 n (by omega) nf k h r true false (by omega)
/-- From the loop's own start. -/
theorem look_start {t : Tm} {us : List Tm} (hx : x1 = cellsT t) (hV : SlAt V us) (h6 : us.length ≤ 6) :
    (∃ N, ∀ n, N ≤ n → ∀ h, ∃ i' w' z', cLoop (bodyRun Try.prog H1 3) (ev n) n (frM0 s u by' fm at' nm L false x1 x2 V 0) h = .ok .ret (frM2 s u by' fm at' nm L true x1 x2 V i' w' z') h) ∨
    (∃ N, ∀ n, N ≤ n → ∀ h, ∃ i' w' z', cLoop (bodyRun Try.prog H1 3) (ev n) n (frM0 s u by' fm at' nm L false x1 x2 V 0) h = .ok (.exit 0) (frM2 s u by' fm at' nm L false x1 x2 V i' w' z') h) ∨
    (∃ N, ∀ n, N ≤ n → ∀ h, ∃ i' w', cLoop (bodyRun Try.prog H1 3) (ev n) n (frM0 s u by' fm at' nm L false x1 x2 V 0) h = .ok (.exit 0) (frM1 s u by' fm at' nm L false x1 x2 V i' w') h) := by
  by_cases hl : 0 < us.length
  · obtain ⟨fs, j, e1, e2⟩ := hV.2 0 us[0] (List.getElem?_eq_getElem hl)
    have e0 : ∀ h : AHeap, OR.ok (.bool (ilt 0 (Int.ofNat us.length))) h = .ok (.bool true) h := fun h => obE (ilt_t (by show (0 : Int) < (us.length : Int); omega))
    obtain ⟨b, N, kl⟩ := light_ok t us[0] us[0]
    cases b with
    | false =>
      refine .inl ⟨N + 1, fun n hn h => ⟨0, true, true, ?_⟩⟩
      rw [cLoop_at]
      obtain ⟨k, rfl⟩ : ∃ j, n = j + 1 := ⟨n - 1, by omega⟩
      exact loop_end (goes_body (mb_r0.mpr ⟨hV.1 h, e0 h, e1 _ h, e2 h, e1 _ h, e2 h, by rw [hx]; exact kl _ (by omega) h, rfl⟩)) (by simp)
    | true =>
      have step : ∀ n, N ≤ n → ∀ nf h, bodyRun Try.prog H1 3 (ev n) nf (frM0 s u by' fm at' nm L false x1 x2 V 0) h = .ok .normal (frM2 s u by' fm at' nm L false x1 x2 V (Int.ofNat 1) true false) h := fun n hn nf h =>
        goes_body (mb_n0.mpr ⟨hV.1 h, e0 h, e1 _ h, e2 h, e1 _ h, e2 h, by rw [hx]; exact kl n hn h, rfl⟩)
      rcases look_loop (s := s) (u := u) (L := L) (by' := by') (fm := fm) (at' := at') (nm := nm) (x2 := x2) hx hV h6 (us.length - 1) 1 rfl (by omega) with ⟨N2, k2⟩ | ⟨N2, k2⟩
      · refine .inl ⟨N + N2 + 20, fun n hn h => ?_⟩
        rw [cLoop_at]
        obtain ⟨k, rfl⟩ : ∃ j, n = j + 1 := ⟨n - 1, by omega⟩
        rw [loop_one (step (k + 1) (by omega) (k + 1) h)]
        exact k2 (k + 1) (by omega) (k + 1) k h false true false (by omega)
      · refine .inr (.inl ⟨N + N2 + 20, fun n hn h => ?_⟩)
        rw [cLoop_at]
        obtain ⟨k, rfl⟩ : ∃ j, n = j + 1 := ⟨n - 1, by omega⟩
        rw [loop_one (step (k + 1) (by omega) (k + 1) h)]
        exact k2 (k + 1) (by omega) (k + 1) k h false true false (by omega)
  · refine .inr (.inr ⟨1, fun n hn h => ⟨0, false, ?_⟩⟩)
    rw [cLoop_at]
    obtain ⟨k, rfl⟩ : ∃ j, n = j + 1 := ⟨n - 1, by omega⟩
    exact loop_end (goes_body (mb_e0.mpr ⟨hV.1 h, obE (ilt_f (by show (us.length : Int) ≤ 0; omega)), rfl⟩)) (by simp)
end
theorem okp_all {V : AV} {us : List Tm} (hV : VAt V us) (t : Tm) (hl : us.length ≤ 2 ^ 40) (hu : ∀ u ∈ us, Bd (2 ^ 61) u ∧ ht u ≤ 2 ^ 41) (hb : Bd (2 ^ 61) t) (hh : ht t ≤ 2 ^ 41) : OkX 19 [tw t, V] (tw (mapT (φP us 0) t 0)) := by
  unfold VAt at hV
  subst hV
  cases us with
  | nil => have := okx_alln t hb hh; rwa [all0]
  | cons u us => exact okx_all (us := u :: us) false t hl hu hb hh
theorem tells_ev {s u nm : List Nat} (hs : By s) (hu : By u) {b f a : Int} (hb0 : 0 ≤ b) (hf0 : 0 ≤ f) (ha0 : 0 ≤ a) {L : AV} {ls : List (List Nat)} (hL : LsAt L ls) (hB : ∀ s ∈ ls, By s) :
    ∃ N h', ev N 3 [.str s, .str u, .int .u8 b, .int .u8 f, .int .u8 a, .str nm, L] ⟨0, .nil⟩ = .ok (.bool true) h' := by
  obtain ⟨v1, c1, N1, k1⟩ := termV hs
  obtain ⟨v2, c2, N2, k2⟩ := termV hu
  have pre : ∀ n, N1 + N2 + 40 ≤ n → ∃ h1 h2 h3, ev n 8 [] ⟨0, .nil⟩ = .ok (.bool true) h1 ∧ ev n 9 [.str s] h1 = .ok v1 h2 ∧ ev n 9 [.str u] h2 = .ok v2 h3 := fun n hn => by
    obtain ⟨h1, e1⟩ := knownT (n := n) (by omega)
    obtain ⟨h2, e2⟩ := k1 n (by omega) h1
    obtain ⟨h3, e3⟩ := k2 n (by omega) h2
    exact ⟨h1, h2, h3, e1, e2, e3⟩
  have fl : Nat → Nat → Bool := flL [(4, 9), (4, 13), (4, 14)]
  rcases c1 with rfl | ⟨t, rfl, bt, ht'⟩
  · obtain ⟨h1, h2, h3, e1, e2, e3⟩ := pre _ (Nat.le_refl _)
    exact ⟨_, h3, goes_call _ (te_n1.mpr ⟨e1, e2, e3, rfl⟩) (by simp)⟩
  rcases c2 with rfl | ⟨x, rfl, bx, hx⟩
  · obtain ⟨h1, h2, h3, e1, e2, e3⟩ := pre _ (Nat.le_refl _)
    exact ⟨_, h3, goes_call _ (te_n2.mpr ⟨e1, e2, e3, rfl⟩) (by simp)⟩
  cases q1 : ilt 40 (Int.ofNat (llen nm)) with
  | true =>
    obtain ⟨h1, h2, h3, e1, e2, e3⟩ := pre _ (Nat.le_refl _)
    exact ⟨_, h3, goes_call _ (te_n3.mpr ⟨e1, e2, e3, obE q1, rfl⟩) (by simp)⟩
  | false =>
  by_cases q2 : 6 < ls.length
  · obtain ⟨h1, h2, h3, e1, e2, e3⟩ := pre _ (Nat.le_refl _)
    exact ⟨_, h3, goes_call _ (te_n4.mpr ⟨e1, e2, e3, obE q1, hL.1 h3, obE (ilt_t (by show (6 : Int) < (ls.length : Int); omega)), rfl⟩) (by simp)⟩
  have e6 : ∀ h : AHeap, OR.ok (.bool (ilt 6 (Int.ofNat ls.length))) h = .ok (.bool false) h := fun h => obE (ilt_f (by show (ls.length : Int) ≤ 6; omega))
  obtain ⟨bl, N3, k3⟩ := light_ok t x x
  cases bl with
  | false =>
    obtain ⟨h1, h2, h3, e1, e2, e3⟩ := pre (N1 + N2 + N3 + 40) (by omega)
    exact ⟨_, h3, goes_call _ (te_n5.mpr ⟨e1, e2, e3, obE q1, hL.1 h3, e6 h3, k3 _ (by omega) h3, rfl⟩) (by simp)⟩
  | true =>
  obtain ⟨V, us, hV, hl6, hus, N4, k4⟩ := ok_terms hL hB (by omega)
  have hS := hV.sl
  have pt := ht_nonneg t; have px := ht_nonneg x
  have bt61 : Bd (2 ^ 61) t := Bd.mono (by omega) bt
  have bx61 : Bd (2 ^ 61) x := Bd.mono (by omega) bx
  have hus61 : ∀ u ∈ us, Bd (2 ^ 61) u ∧ ht u ≤ 2 ^ 41 := fun w hw => ⟨Bd.mono (by omega) (hus w hw).1, by have := (hus w hw).2; omega⟩
  obtain ⟨K, hK, hK0, hK1⟩ := md20 hb0
  obtain ⟨M, hM, hM0, hM1⟩ := md20 hf0
  obtain ⟨A, hA, hA0, hA1⟩ := md20 ha0
  obtain ⟨N5, k5⟩ := okx_lift (d := K) hK0 (by omega) t M bt61 hM0 (by omega)
  obtain ⟨N6, k6⟩ := okr_lift (d := K) hK0 (by omega) t M bt61 hM0 (by omega)
  obtain ⟨N7, k7⟩ := same_true (mapT (φL K) t M)
  obtain ⟨N8, k8⟩ := okx_put t x (a := A) hA0 (by omega) bt61 (by omega) bx61 (by omega)
  obtain ⟨N9, k9⟩ := okr_put t x (a := A) hA0 (by omega) bt61 (by omega) bx61 (by omega)
  obtain ⟨N10, k10⟩ := same_true (mapT (φP [x] A) t 0)
  obtain ⟨N11, k11⟩ := okx_bind nm t bt61 (by omega)
  obtain ⟨N12, k12⟩ := okr_bind nm t bt61 (by omega)
  obtain ⟨N13, k13⟩ := same_true (mapT (φB nm) t 0)
  obtain ⟨N14, k14⟩ := okp_all hV t (by omega) hus61 bt61 (by omega)
  obtain ⟨N15, k15⟩ := okr_all hS (by omega) hus61 t bt61 (by omega)
  obtain ⟨N16, k16⟩ := same_true (mapT (φP us 0) t 0)
  have rest : ∀ n, N1 + N2 + N3 + N4 + N5 + N6 + N7 + N8 + N9 + N10 + N11 + N12 + N13 + N14 + N15 + N16 + 40 ≤ n → ∀ h6, ∃ h7 h10 h13 h16,
      ev n 13 [tw t, i64 (wrapK .i64 (Int.tmod b 20)), i64 (wrapK .i64 (Int.tmod f 20))] h6 = .ok (tw (mapT (φL K) t M)) h7 ∧ ev n 14 [tw t, i64 (wrapK .i64 (Int.tmod b 20)), i64 (wrapK .i64 (Int.tmod f 20))] h7 = .ok (tw (mapT (φL K) t M)) h7 ∧
      ev n 15 [tw t, tw x, i64 (wrapK .i64 (Int.tmod a 20))] h7 = .ok (tw (mapT (φP [x] A) t 0)) h10 ∧ ev n 16 [tw t, tw x, i64 (wrapK .i64 (Int.tmod a 20))] h10 = .ok (tw (mapT (φP [x] A) t 0)) h10 ∧
      ev n 17 [tw t, .str nm] h10 = .ok (tw (mapT (φB nm) t 0)) h13 ∧ ev n 18 [tw t, .str nm] h13 = .ok (tw (mapT (φB nm) t 0)) h13 ∧ ev n 19 [tw t, V] h13 = .ok (tw (mapT (φP us 0) t 0)) h16 ∧ ev n 20 [tw t, V] h16 = .ok (tw (mapT (φP us 0) t 0)) h16 := fun n hn h6 => by
    obtain ⟨h7, e7, _⟩ := k5 n (by omega) h6
    obtain ⟨h10, e10, _⟩ := k8 n (by omega) h7
    obtain ⟨h13, e13, _⟩ := k11 n (by omega) h10
    obtain ⟨h16, e16, _⟩ := k14 n (by omega) h13
    rw [hK, hM, hA]
    exact ⟨h7, h10, h13, h16, e7, k6 n (by omega) h7, e10, k9 n (by omega) h10, e13, k12 n (by omega) h13, e16, k15 n (by omega) h16⟩
  rcases look_start (s := .str s) (u := .str u) (L := L) (by' := b) (fm := f) (at' := a) (nm := nm) (x1 := cellsT t) (x2 := cellsT x) (t := t) rfl hS hl6 with ⟨N17, k17⟩ | ⟨N17, k17⟩ | ⟨N17, k17⟩
  · obtain ⟨n, hn⟩ : ∃ n, n = N1 + N2 + N3 + N4 + N17 + 40 := ⟨_, rfl⟩
    obtain ⟨h1, h2, h3, e1, e2, e3⟩ := pre n (by omega)
    obtain ⟨h5, e5⟩ := k4 n (by omega) h3
    obtain ⟨i', w', z', el⟩ := k17 n (by omega) h5
    exact ⟨n + 1, h5, goes_call _ (te_r.mpr ⟨e1, e2, e3, obE q1, hL.1 h3, e6 h3, k3 n (by omega) h3, e5, el, rfl⟩) (by simp)⟩
  · obtain ⟨n, hn⟩ : ∃ n, n = N1 + N2 + N3 + N4 + N5 + N6 + N7 + N8 + N9 + N10 + N11 + N12 + N13 + N14 + N15 + N16 + N17 + 40 := ⟨_, rfl⟩
    obtain ⟨h1, h2, h3, e1, e2, e3⟩ := pre n (by omega)
    obtain ⟨h5, e5⟩ := k4 n (by omega) h3
    obtain ⟨i', w', z', el⟩ := k17 n (by omega) h5
    obtain ⟨h7, h10, h13, h16, r1, r2, r3, r4, r5, r6, r7, r8⟩ := rest n (by omega) h5
    exact ⟨n + 1, h16, goes_call _ (te_e2.mpr ⟨e1, e2, e3, obE q1, hL.1 h3, e6 h3, k3 n (by omega) h3, e5, el, r1, r2, k7 n (by omega) h7, r3, r4, k10 n (by omega) h10, r5, r6, k13 n (by omega) h13, r7, r8, k16 n (by omega) h16, rfl⟩) (by simp)⟩
  · obtain ⟨n, hn⟩ : ∃ n, n = N1 + N2 + N3 + N4 + N5 + N6 + N7 + N8 + N9 + N10 + N11 + N12 + N13 + N14 + N15 + N16 + N17 + 40 := ⟨_, rfl⟩
    obtain ⟨h1, h2, h3, e1, e2, e3⟩ := pre n (by omega)
    obtain ⟨h5, e5⟩ := k4 n (by omega) h3
    obtain ⟨i', w', el⟩ := k17 n (by omega) h5
    obtain ⟨h7, h10, h13, h16, r1, r2, r3, r4, r5, r6, r7, r8⟩ := rest n (by omega) h5
    exact ⟨n + 1, h16, goes_call _ (te_e1.mpr ⟨e1, e2, e3, obE q1, hL.1 h3, e6 h3, k3 n (by omega) h3, e5, el, r1, r2, k7 n (by omega) h7, r3, r4, k10 n (by omega) h10, r5, r6, k13 n (by omega) h13, r7, r8, k16 n (by omega) h16, rfl⟩) (by simp)⟩
end Go.Vd

namespace Go.Vd
open Go Go.RowKit
/-- The start, with one row of the world's own that isn't written. -/
def GZ (c : Nat) (x : Nat × List Value) : Gh := ⟨fun c' => if c' = c then some x else none, fun _ _ => none⟩
theorem Rel.startZ (W : World) {c base : Nat} {vs : List Value} (hc : c < W.heap.size) (hv : ∀ i v, vs[i]? = some v → W.cell? ⟨c, base + i, none⟩ = some v) : Rel W.heap.size W (GZ c (base, vs)) heap0 W := by
  refine ⟨Below.refl _ _, Nat.le_refl _, ?_, ?_, ?_, fun b _ => ⟨rfl, fun _ => rfl⟩, ?_, ?_, ?_, ?_⟩
  · intro c' b' vs' h
    simp only [GZ] at h
    split at h
    · rename_i q; cases h; subst q; exact ⟨hc, hv⟩
    · cases h
  · intro b A h; cases h
  · intro b es h; cases h
  · intro b g p _ h; cases h
  · intro b A g g' p p' h; cases h
  · intro b A g h; cases h
  · intro b g p b' g' p' _ _ h; cases h
theorem true_of_evG {P : Program} {H : Hints} (hH : ∀ b, H.glob b = none) {f N : Nat} {args : List AV} {h' : AHeap} (e : evF (compFunc P H) N f args heap0 = .ok (.bool true) h') (W : World) (G : Gh) (R : Rel W.heap.size W G heap0 W) (vs : Array Value) (V : VRels G args vs.toList) :
    Calls P f vs W fun e w' => e = .returned (.bool true) ∧ Below W.heap.size W w' := by
  have k := evF_ok (P := P) (H := H) (compFunc P H) (fun _ _ h => h) N f args heap0 W.heap.size W G W vs R V (fun b cs h => by rw [hH] at h; cases h)
  rw [e] at k
  refine Calls.mono k fun e w' ⟨G', v', h1, S, hv⟩ => ?_
  cases hv
  exact ⟨h1, S.rel.below⟩
/-- A slice of strings, as it is read, is a row of texts. -/
theorem strings_rel {P : Program} {W : World} {H : Type} {enc : TypeId × Value → H} {r : Reach} {b0 : Nat} {t e : TypeId} {v : Value} {d : DataW H} {ps : List MemPlace} (ht : P.underlying t = some (.slice e)) (he : P.underlying e = some .string) (hc : P.cellsOf e = 1)
    (hval : Value.okWide P W r b0 t v) (hd : DataW.Trod enc P W 0 (fun _ => true) true t v d ps) : ∃ G L ls, Rel W.heap.size W G heap0 W ∧ VRel G L v ∧ LsAt L ls ∧ ∀ s ∈ ls, By s := by
  obtain ⟨a0, len, cap, rfl⟩ := Go.WideShapes.okWide_slice ht hval
  obtain ⟨fuel, hf⟩ := hd
  rcases Go.ChangeShapes.open_strings ht he hc hf with ⟨h0, _⟩ | ⟨a, len', cap', ss, h0, _, hlc, hm, hss, _, hcell, hsz⟩
  · cases h0
    exact ⟨G0, .nils, [], Rel.start W, .nils, lsAt_nils, by simp⟩
  · cases h0
    have hlt : a.block < W.heap.size := by
      simp only [Value.okWide, ht, Cell.okWide, Cell.ok, World.has] at hval
      obtain ⟨_, _, _, _, row, cells, hsh, _⟩ := hval
      unfold World.shape? at hsh
      cases hb : W.heap[a.block]? with
      | none => rw [hb] at hsh; cases hsh
      | some o => exact (Array.getElem?_eq_some_iff.1 hb).1
    have hspot : a.spot = none := by
      simp only [Value.okWide, ht, Cell.okWide, Cell.ok, World.has] at hval
      exact hval.2.2.2.1
    obtain ⟨bl, off, spot⟩ := a
    simp only at hspot hlt
    subst hspot
    have hsl : ss.length = cap := by rw [hss]; simp
    have hv : ∀ i v, ((ss.take len).map Value.string)[i]? = some v → W.cell? ⟨bl, off + i, none⟩ = some v := fun i v h => by
      rw [List.getElem?_map] at h
      cases hg : (ss.take len)[i]? with
      | none => rw [hg] at h; cases h
      | some s =>
        rw [hg] at h; cases h
        have hi : i < len := by have := (List.getElem?_eq_some_iff.1 hg).1; simp at this; omega
        rw [List.getElem?_take, if_pos hi] at hg
        have hi2 := (List.getElem?_eq_some_iff.1 hg).1
        have := hcell i hi2
        rw [List.getD_eq_getElem?_getD, hg] at this
        rw [show (Addr.add ⟨bl, off, none⟩ i) = ⟨bl, off + i, none⟩ from addr_add bl off i] at this
        exact this
    refine ⟨GZ bl (off, (ss.take len).map .string), .fl (((ss.take len).map bytesN).map .str) 0 len 1 false, (ss.take len).map bytesN, Rel.startZ W hlt hv, ?_, ?_, fun s hs => ?_⟩
    · have hrows : ∀ (G : Gh) (l : List ByteArray), VRels G ((l.map bytesN).map .str) (l.map Value.string) := fun G l => by
        induction l with
        | nil => exact .nil
        | cons x l ih => exact .cons (.str x) ih
      refine VRel.fl (c := bl) (base := off) (vs := (ss.take len).map .string) (by simp [GZ]) (hrows _ _) ?_ hlc (fun h => by cases h) (.inr rfl)
      · simp; omega
    · have hll : ((ss.take len).map bytesN).length = len := by simp; omega
      have := lsAt_fl ((ss.take len).map bytesN) false
      rwa [hll] at this
    · obtain ⟨x, _, rfl⟩ := List.mem_map.1 hs
      exact by_bytes x
end Go.Vd
namespace Go.Proofs.Ytcafdimefhdfnaa
open Go.ChangeShapes Go.WideShapes Go.ChangeAt Go.RowKit
theorem u8_pos {n : Int} (h : (Lit.int .u8 n).wf = true) : 0 ≤ n := by
  simp [Lit.wf, IntKind.min, IntKind.max, IntKind.signed, IntKind.bits] at h
  omega
set_option maxRecDepth 100000 in
theorem tells_lifted (os : Os) (started : os.Started) (H : Type) (enc : TypeId × Value → H) :
    ReturnsInHanded {} Try.checked os 3 .any (Rows.shiftTellsSpec.pre6 enc Try.prog Try.f3 Rows.shiftTellsRow.domain false) (Rows.shiftTellsSpec.post enc Try.prog Try.f3 false true false false) := by
  refine returnsInHanded_of_change (C := Try.checked) Try.own started (by kernel_rfl) Try.func3
    (ChangeSpec.witness6 (enc := enc) (C := Try.checked) false ⟨#[], #[.string ⟨#[]⟩, .string ⟨#[]⟩, .int .u8 0, .int .u8 0, .int .u8 0, .string ⟨#[]⟩, .slice none 0 0], []⟩ 8 (by kernel_rfl) (by kernel_rfl) (by kernel_rfl) (by kernel_rfl)) ?_
  intro W base args ds gs before hval0 hW hcnd _
  have hval : ∀ (j : Nat) t v, Try.f3.params[j]? = some t → args[j]? = some v → Value.okWide Try.prog W .any base t v := hval0
  have hW' := hW
  obtain ⟨p, q, hA0, hV, rfl, hfz, hnd⟩ := hW
  have hA : DataW.TrodAll enc Try.prog W 0 (fun _ => true) true Try.f3.params.toList args.toList ds p := hA0
  rw [Try.params3] at hA hval
  have hlt := DataW.TrodAll.lt hA
  obtain ⟨v0, vs0, d0, ds0, p0, q0, ha, rfl, rfl, h0, hA⟩ := trodAll_cons hA
  obtain ⟨v1, vs1, d1, ds1, p1, q1, rfl, rfl, rfl, h1, hA⟩ := trodAll_cons hA
  obtain ⟨v2, vs2, d2, ds2, p2, q2, rfl, rfl, rfl, h2, hA⟩ := trodAll_cons hA
  obtain ⟨v3, vs3, d3, ds3, p3, q3, rfl, rfl, rfl, h3, hA⟩ := trodAll_cons hA
  obtain ⟨v4, vs4, d4, ds4, p4, q4, rfl, rfl, rfl, h4, hA⟩ := trodAll_cons hA
  obtain ⟨v5, vs5, d5, ds5, p5, q5, rfl, rfl, rfl, h5, hA⟩ := trodAll_cons hA
  obtain ⟨v6, vs6, d6, ds6, p6, q6, rfl, rfl, rfl, h6, hA⟩ := trodAll_cons hA
  obtain ⟨rfl, rfl, rfl⟩ := trodAll_nil hA
  obtain ⟨argl⟩ := args
  simp only at ha
  subst ha
  obtain ⟨rfl, rfl⟩ := trodVars_none hV
  obtain ⟨a0, rfl, rfl, rfl, l0⟩ := Go.ChangeMaps.open_string Try.underlying9 (hval 0 9 v0 rfl rfl) h0
  obtain ⟨a1, rfl, rfl, rfl, l1⟩ := Go.ChangeMaps.open_string Try.underlying9 (hval 1 9 v1 rfl rfl) h1
  obtain ⟨a2, rfl, rfl, rfl, l2⟩ := open_int Try.underlying5 (hval 2 5 v2 rfl rfl) h2
  obtain ⟨a3, rfl, rfl, rfl, l3⟩ := open_int Try.underlying5 (hval 3 5 v3 rfl rfl) h3
  obtain ⟨a4, rfl, rfl, rfl, l4⟩ := open_int Try.underlying5 (hval 4 5 v4 rfl rfl) h4
  obtain ⟨a5, rfl, rfl, rfl, l5⟩ := Go.ChangeMaps.open_string Try.underlying9 (hval 5 9 v5 rfl rfl) h5
  obtain ⟨G, L, ls, R, VL, hL, hB⟩ := Go.Vd.strings_rel Try.underlying22 Try.underlying9 (by kernel_rfl) (hval 6 22 v6 rfl rfl) h6
  clear hA0 hval0 hA
  simp only [List.append_nil, List.nil_append] at hW' hlt
  obtain ⟨N, h', e⟩ := Go.Vd.tells_ev (Go.Vd.by_bytes a0) (Go.Vd.by_bytes a1) (nm := Go.Vd.bytesN a5) (u8_pos l2) (u8_pos l3) (u8_pos l4) hL hB
  refine (Go.Vd.true_of_evG (H := Go.Vd.H1) (fun _ => rfl) e W G R #[.string a0, .string a1, .int .u8 a2, .int .u8 a3, .int .u8 a4, .string a5, v6] (.cons (.str a0) (.cons (.str a1) (.cons (.int .u8 a2) (.cons (.int .u8 a3) (.cons (.int .u8 a4) (.cons (.str a5) (.cons VL .nil)))))))).mono fun e W' ⟨he, hw⟩ => ?_
  subst he
  refine ⟨_, rfl, _, _, _, [], p6, [], hW', trodAll_mk1 (shut_bool (by kernel_rfl) _), ?_, rfl, hw.frame _, fun h => by cases h⟩
  have k6 := Below.trod Try.laidOut (by kernel_rfl) (by decide +kernel) h6 hw hlt
  have z := trodAll_cons_mk (Go.ChangeMaps.shut_string Try.underlying9 l0) (trodAll_cons_mk (Go.ChangeMaps.shut_string Try.underlying9 l1) (trodAll_cons_mk (shut_int Try.underlying5 l2) (trodAll_cons_mk (shut_int Try.underlying5 l3) (trodAll_cons_mk (shut_int Try.underlying5 l4) (trodAll_cons_mk (Go.ChangeMaps.shut_string Try.underlying9 l5) (trodAll_mk1 k6))))))
  simp only [List.nil_append] at z
  exact z
theorem tells : Rows.ShiftTellsSaid :=
  OpenClaim.holds_of_wide 3 Try.f3 rfl rfl rfl rfl rfl rfl rfl ⟨rfl, rfl, rfl, rfl, rfl⟩ rfl rfl rfl rfl rfl (by kernel_rfl) Try.func3 (by kernel_rfl)
    (of_decide_eq_true (by kernel_rfl)) (by unfold Func.isWrapper; rw [if_neg (by decide +kernel)]; exact ⟨rfl, rfl⟩)
    (fun os started H enc _ => tells_lifted os started H enc)
end Go.Proofs.Ytcafdimefhdfnaa
