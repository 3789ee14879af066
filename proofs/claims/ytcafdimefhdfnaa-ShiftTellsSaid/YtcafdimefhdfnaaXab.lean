/-
  ShiftTells: whatever the input, the law returns true; no condition. Proved by an abstract evaluator of loaded code that is sound for every program, and by what each function of this seat does on trees.

-/
import GoSem.Core.Layout
import GoSem.Instr.TypeAssert
import Derived.Laws.Strings
import Derived.WideLaws
import Derived.LaidEql
import Derived.Test.YtcafdimefhdfnaaXaa
namespace Go.Vd
open Go
noncomputable section

/-- What is told beside the program: which boxes' values are frozen; literals that are written; whose value is frozen; the globals' contents; functions without a body; which slots a function's frame holds. -/
structure Hints where
  fz : Nat → Bool
  wr : List (Nat × Nat × Nat)
  frz : List (Nat × Nat × Nat)
  glob : Nat → Option (List AV)
  prim : Nat → Option (List AV → Option AV)

def tkOf (P : Program) (t : Nat) : TK :=
  match P.info? t with
  | some i => if !i.comparable then .other else match P.underlying t with
    | some (.int _) => .int
    | some .string => .str
    | some .bool => .bo
    | some (.pointer e) => match P.info? e with
      | some j => if j.size = 0 then .other else .ptr
      | none => .other
    | _ => .other
  | none => .other
def mapO {α β : Type} (f : α → Option β) : List α → Option (List β)
  | [] => some []
  | a :: as => match f a, mapO f as with
    | some b, some bs => some (b :: bs)
    | _, _ => none
def ofValue : Nat → Value → Option AV
  | 0, _ => none
  | n + 1, v => match v with
    | .bool b => some (.bool b)
    | .int k n => some (.int k n)
    | .string s => some (.str (s.data.toList.map UInt8.toNat))
    | .pointer none => some .nilp
    | .slice none 0 0 => some .nils
    | .map none => some .nilm
    | .nilFunc => some .nilf
    | .nilIface => some .nili
    | .iface t v => match ofValue n v with
      | some a => some (.iface t a)
      | none => none
    | .agg cs => match mapO (ofValue n) cs.toList with
      | some l => some (.agg l)
      | none => none
    | .tuple vs => if vs.isEmpty then some .undef else match mapO (ofValue n) vs.toList with
      | some l => some (.tup l)
      | none => none
    | .func (.func f) first cs => match first.isEmpty, mapO (ofValue n) cs.toList with
      | true, some l => some (.func f l)
      | _, _ => none
    | _ => none

section
variable (P : Program) (H : Hints) (f : Nat)

abbrev Nms := List (Option Nat)
def compOpd (ns : Nms) : Operand → Option OpdR
  | .tmp t => match ns.idxOf? (some t) with
    | some i => some (xL i)
    | none => some (xG t)
  | .const v => match ofValue 20 v with
    | some v => some (xC v)
    | none => none
  | .func f => some (xC (.func f []))
  | .global g => match H.glob g with
    | some cs => some (xC (.imm cs 0))
    | none => none
def compOpds (ns : Nms) (xs : Array Operand) : Option (List OpdR) := mapO (compOpd H ns) xs.toList
def compOpdO (ns : Nms) : Option Operand → Option (Option OpdR)
  | none => some none
  | some x => match compOpd H ns x with
    | some y => some (some y)
    | none => none
/-- How a variable of a type is loaded: none: no such type; some none: one cell; some (some n): n cells. -/
def aggN (t : TypeId) : Option (Option Nat) :=
  match P.info? t, P.underlying t with
  | some i, some (.struct _) => some (some i.size)
  | some i, some (.array _ _) => some (some i.size)
  | some _, some _ => some none
  | _, _ => none
def sizeA (t : TypeId) : Option Nat := (P.info? t).map (·.size)
def zeroA (t : TypeId) : Option (List AV) :=
  match P.info? t with
  | some i => match i.zero with
    | some z => mapO (ofValue 20) z.cells.toList
    | none => none
  | none => none
def zeroV (t : TypeId) : Option AV :=
  match P.info? t with
  | some i => match i.zero with
    | some z => ofValue 20 z
    | none => none
  | none => none
def eqk1 (lit : Bool) (t : TypeId) : Option EqK :=
  match P.underlying t with
  | some .bool => some .bo
  | some (.int _) | some .string => some .sc
  | some (.pointer e) => match P.info? e with
    | some i => if i.size = 0 then none else some .ptr
    | none => none
  | some (.slice _) => some .sl
  | some (.map _ _) => some .mp
  | some (.func _ _ _) => some .fn
  | some (.interface _) => some (.ifc lit)
  | _ => none
def slk (t : TypeId) : Option SlK :=
  match P.underlying t with
  | some .string => some .str
  | some (.slice e) => match sizeA P e with
    | some n => some (.sl n)
    | none => none
  | some (.array n e) => match sizeA P e with
    | some k => some (.arr n k)
    | none => none
  | _ => none
def convK (src dst : TypeId) : Option ConvK :=
  match P.underlying src, P.underlying dst with
  | some (.int _), some (.int k) => some (.int k)
  | some .string, some .string => some .same
  | _, _ => none
def isConstO : Operand → Bool
  | .const _ => true
  | _ => false
/-- Which function a method's name is, by the type behind an interface; its receiver is handed on as it is. -/
def methodAt (name : String) (t : Nat) : Option Nat :=
  match P.info? t with
  | some i => match i.methods.find? (·.name == name) with
    | some m => match m.path.isEmpty, m.func, P.underlying t with
      | true, some (g, true), some (.pointer _) => some g
      | true, some (_, false), some (.pointer _) => none
      | true, some (_, true), some _ => none
      | true, some (g, false), some _ => some g
      | _, _, _ => none
    | none => none
  | none => none
def hasBody (g : Nat) : Bool :=
  match P.funcs[g]? with
  | some fn => fn.body.isSome && !(fn.name == "runtime.NumGoroutine")
  | none => false
def methodsOf (name : String) : List (Nat × Nat) :=
  (List.range P.types.size).filterMap fun t => match methodAt P name t with
    | some g => if hasBody P g then some (t, g) else none
    | none => none
def implementers (t : TypeId) : List Nat :=
  match P.underlying t with
  | some (.interface want) => (List.range P.types.size).filter fun u => match P.info? u with
    | some i => (Instr.missingMethod want i.methods).isNone
    | none => false
  | _ => []
def compApp (ns : Nms) (c : Call) : Option OpR :=
  match c.args.toList, c.argTypes[0]?, c.argTypes[1]? with
  | [s, x], some t, some u => match compOpd H ns s, compOpd H ns x, P.underlying t, P.underlying u with
    | some _, some _, some (.slice _), some (.int _) => none
    | some s, some x, some (.slice e), some _ => match P.info? e with
      | some i => match i.zero with
        | some z => if z.cells.size = i.size then some (oApp i.size i.bytes s x) else none
        | none => none
      | none => none
    | _, _, _, _ => none
  | _, _, _ => none
def compLen (ns : Nms) (c : Call) : Option OpR :=
  match c.args.toList, c.argTypes[0]? with
  | [x], some t => match compOpd H ns x, P.underlying t with
    | some x, some .string => some (oLenStr x)
    | some x, some (.slice _) => some (oLenSl x)
    | some _, some (.array n _) => some (oMov (xC (.int .i64 (Int.ofNat n))))
    | _, _ => none
  | _, _ => none
def compCpy (ns : Nms) (c : Call) : Option OpR :=
  match c.args.toList, c.argTypes[0]? with
  | [d, s], some t => match compOpd H ns d, compOpd H ns s, P.underlying t with
    | some d, some s, some (.slice e) => match sizeA P e with
      | some n => some (oCpy n d s)
      | none => none
    | _, _, _ => none
  | _, _ => none
def compBuiltin (ns : Nms) (b : Builtin) (c : Call) : Option OpR :=
  match b with
  | .append => compApp P H ns c
  | .len => compLen P H ns c
  | .min => match compOpds H ns c.args with
    | some xs => some (oMinmax false xs)
    | none => none
  | .max => match compOpds H ns c.args with
    | some xs => some (oMinmax true xs)
    | none => none
  | _ => none
def compCall (ns : Nms) (c : Call) : Option OpR :=
  match c.callee with
  | .value (.func g) => match compOpds H ns c.args with
    | some xs => if hasBody P g then some (oCall g xs) else none
    | none => none
  | .value x => match compOpd H ns x, compOpds H ns c.args with
    | some x, some xs => some (oCallv (hasBody P) x xs)
    | _, _ => none
  | .invoke _ _ => none
  | .builtin b => compBuiltin P H ns b c
def compParts (ns : Nms) (place : Nat → Option (Nat × Nat)) (ps : Array (Nat × Operand)) : Option (List (Nat × Nat × OpdR)) :=
  mapO (fun (ix : Nat × Operand) => match place ix.1, compOpd H ns ix.2 with
    | some (o, n), some x => some (o, n, x)
    | _, _ => none) ps.toList
def structPlace (fs : Array Field) (i : Nat) : Option (Nat × Nat) :=
  match fs[i]? with
  | some fl => match sizeA P fl.type with
    | some n => some (fl.offset, n)
    | none => none
  | none => none
def compBuild (ns : Nms) (t : TypeId) (ps : Array (Nat × Operand)) : Option OpR :=
  match zeroA P t, P.underlying t with
  | some zs, some (.struct fs) => if fs.all (fun fl => (P.info? fl.type).isSome) then match compParts H ns (structPlace P fs) ps with
      | some l => some (oBuild zs l)
      | none => none
    else none
  | some zs, some (.array _ e) => match sizeA P e with
    | some k => match compParts H ns (fun i => some (i * k, k)) ps with
      | some l => some (oBuild zs l)
      | none => none
    | none => none
  | _, _ => none
def compBsl (ns : Nms) (mut_ : Bool) (t : TypeId) (len : Nat) (ps : Array (Nat × Operand)) : Option OpR :=
  match P.underlying t with
  | some (.slice e) => match sizeA P e, zeroA P e with
    | some k, some z => if z.length = k ∧ len * k ≤ 2 ^ 24 then match compParts H ns (fun i => some (i * k, k)) ps with
        | some l => if mut_ then some (oBslM k len (List.replicate len z).flatten l) else some (oBslF k len (List.replicate len z).flatten l)
        | none => none
      else none
    | _, _ => none
  | _ => none
def compEq (ns : Nms) (neg : Bool) (t : TypeId) (x y : Operand) : Option OpR :=
  match eqk1 P (isConstO x || isConstO y) t, compOpd H ns x, compOpd H ns y with
  | some k, some a, some b => some (oEq (tkOf P) neg k a b)
  | _, _, _ => none
def compTass (ns : Nms) (x : Operand) (t : TypeId) (ok : Bool) : Option OpR :=
  match compOpd H ns x, P.underlying t, ok, zeroV P t with
  | some x, some (.interface _), true, some z => some (oTassI (some z) (implementers P t) x)
  | some x, some (.interface _), false, _ => some (oTassI none (implementers P t) x)
  | some x, some _, true, some z => some (oTass (some z) t x)
  | some x, some _, false, _ => some (oTass none t x)
  | _, _, _, _ => none
def comp1 (ns : Nms) (x : Operand) (k : OpdR → OpR) : Option OpR :=
  match compOpd H ns x with
  | some x => some (k x)
  | none => none
def comp2 (ns : Nms) (x y : Operand) (k : OpdR → OpdR → OpR) : Option OpR :=
  match compOpd H ns x, compOpd H ns y with
  | some x, some y => some (k x y)
  | _, _ => none
def compBin (ns : Nms) (op : BinOp) (t : TypeId) (x y : Operand) : Option OpR :=
  match op with
  | .eql => compEq P H ns false t x y
  | .neq => compEq P H ns true t x y
  | op => comp2 H ns x y (oBin op)
def compSlice (ns : Nms) (t : TypeId) (x : Operand) (lo hi mx : Option Operand) : Option OpR :=
  match slk P t, compOpd H ns x, compOpdO H ns lo, compOpdO H ns hi, compOpdO H ns mx with
  | some k, some x, some lo, some hi, some mx => some (oSlice k x lo hi mx)
  | _, _, _, _, _ => none
def compOp (ns : Nms) (rg ix : Nat) (o : Oper) : Option OpR :=
  match o.op with
  | .move x => comp1 H ns x oMov
  | .assign x => comp1 H ns x (if H.frz.contains (f, rg, ix) then oFrz else oMov)
  | .pick c a b => match compOpd H ns c with
    | some c => comp2 H ns a b (oPick c)
    | none => none
  | .alloc e => match zeroA P e with
    | some zs => some (oAlloc zs)
    | none => none
  | .box e x => comp1 H ns x (if H.fz e && !H.wr.contains (f, rg, ix) then oBoxF else oBoxM)
  | .build t ps => compBuild P H ns t ps
  | .buildSlice t len ps => compBsl P H ns (H.wr.contains (f, rg, ix)) t len ps
  | .load t x => match aggN P t with
    | some n => comp1 H ns x (oLoad n)
    | none => none
  | .store t a v => match sizeA P t with
    | some n => comp2 H ns a v (oStore n)
    | none => none
  | .nilCheck x => comp1 H ns x oNilchk
  | .binOp op t x y _ => compBin P H ns op t x y
  | .unOp .not _ x => comp1 H ns x oNot
  | .unOp .neg _ x => comp1 H ns x oNeg
  | .unOp .xor _ x => comp1 H ns x oCpl
  | .convert s d x => match convK P s d with
    | some k => comp1 H ns x (oConv k)
    | none => none
  | .makeInterface t x => match P.underlying t with
    | some (.interface _) => none
    | some _ => comp1 H ns x (oMkif t)
    | none => none
  | .makeFunc (.func g) first cs => match first.isEmpty, compOpds H ns cs with
    | true, some cs => some (oMkfn g cs)
    | _, _ => none
  | .slice t x lo hi mx => compSlice P H ns t x lo hi mx
  | .fieldAddr s x i => match P.underlying s with
    | some (.struct fs) => match fs[i]? with
      | some fl => match sizeA P fl.type with
        | some (_ + 1) => comp1 H ns x (oFaddr fl.offset)
        | _ => none
      | none => none
    | _ => none
  | .field t x i => match P.underlying t with
    | some (.struct fs) => match fs[i]? with
      | some fl => match aggN P fl.type with
        | some n => comp1 H ns x (oFld fl.offset n)
        | none => none
      | none => none
    | _ => none
  | .indexAddr t x i => match slk P t with
    | some k => comp2 H ns x i (oIaddr k)
    | none => none
  | .index t x i => match P.underlying t with
    | some .string => comp2 H ns x i oSidx
    | some (.array n e) => match sizeA P e, aggN P e with
      | some k, some ag => comp2 H ns x i (oIdx k ag n)
      | _, _ => none
    | _ => none
  | .extract x i => comp1 H ns x (oExtr i)
  | .call c => compCall P H ns c
  | .panic x => comp1 H ns x oPanicI
  | _ => none
/-- A region in the order of its text. -/
def compOps (isG : Nat → Bool) (sz : Nat) (rg : Nat) (ops : Array Oper) : Nms → List (Oper × Nat) → Option RegR
  | _, [] => some rNil
  | ns, (o, ix) :: os =>
    match compOp P H f ns rg ix o, compOps isG sz rg ops (o.dst :: ns) os with
    | some op, some r =>
      match o.dst, o.guard with
      | none, none => some (rOp op r)
      | some d, none => if d < sz then (if isG d then some (rDst op d r) else some (rOp op r)) else none
      | dst, some (j, want) => match (ops[j]?).bind (·.dst) with
        | some t => match ns.idxOf? (some t) with
          | some i => match dst with
            | none => some (rGOp i want op r)
            | some d => if d < sz then (if isG d then some (rGDst i want op d r) else some (rGOp i want op r)) else none
          | none => none
        | none => none
    | _, _ => none
end
end
end Go.Vd

namespace Go.Vd
open Go Go.RowKit

theorem mapO_some {α β : Type} {f : α → Option β} : ∀ {l : List α} {r : List β}, mapO f l = some r → r.length = l.length ∧ ∀ (i : Nat) (b : β), r[i]? = some b → ∃ a, l[i]? = some a ∧ f a = some b
  | [], r, h => by cases h; exact ⟨rfl, fun i b hb => by simp at hb⟩
  | a :: as, r, h => by
    simp only [mapO] at h
    split at h
    · rename_i b bs h1 h2
      cases h
      obtain ⟨k1, k2⟩ := mapO_some h2
      refine ⟨by simp [k1], fun i c hc => ?_⟩
      cases i with
      | zero => simp at hc; subst hc; exact ⟨a, rfl, h1⟩
      | succ i => simpa using k2 i c (by simpa using hc)
    · cases h
theorem ofValue_rel (G : Gh) : ∀ (n : Nat) (v : Value) (a : AV), ofValue n v = some a → VRel G a v := by
  intro n
  induction n with
  | zero => intro v a h; simp [ofValue] at h
  | succ n ih =>
    have many : ∀ (l : List Value) (r : List AV), mapO (ofValue n) l = some r → VRels G r l := fun l r h => by
      obtain ⟨k1, k2⟩ := mapO_some h
      refine VRels.of_get k1 fun i a v ha hv => ?_
      obtain ⟨v', e, hv'⟩ := k2 i a ha
      rw [hv] at e; cases e
      exact ih v a hv'
    intro v a h
    unfold ofValue at h
    split at h
    · cases h; exact .bool _
    · cases h; exact .int _ _
    · cases h; exact .str _
    · cases h; exact .nilp
    · cases h; exact .nils
    · cases h; exact .nilm
    · cases h; exact .nilf
    · cases h; exact .nili
    · split at h
      · rename_i a' ha'; cases h; exact .iface (ih _ _ ha')
      · cases h
    · split at h
      · rename_i l hl; cases h; exact .agg (many _ _ hl)
      · cases h
    · rename_i vs
      split at h
      · rename_i he; cases h
        have : vs = #[] := by simpa using he
        subst this; exact .undef
      · split at h
        · rename_i l hl; cases h; exact .tup (many _ _ hl)
        · cases h
    · rename_i first cs
      split at h
      · rename_i l he hl; cases h
        have : first = #[] := by simpa using he
        subst this; exact .func (many _ _ hl)
      · cases h
    · cases h
theorem zeroA_rel {P : Program} {t : TypeId} {zs : List AV} (h : zeroA P t = some zs) : ∃ i z, P.info? t = some i ∧ i.zero = some z ∧ ∀ G, VRels G zs z.cells.toList := by
  unfold zeroA at h
  split at h
  · rename_i i hi
    split at h
    · rename_i z hz
      refine ⟨i, z, hi, hz, fun G => ?_⟩
      obtain ⟨k1, k2⟩ := mapO_some h
      refine VRels.of_get k1 fun j a v ha hv => ?_
      obtain ⟨v', e, hv'⟩ := k2 j a ha
      rw [hv] at e; cases e
      exact ofValue_rel G _ _ _ hv'
    · cases h
  · cases h
theorem zeroV_rel {P : Program} {t : TypeId} {a : AV} (h : zeroV P t = some a) : ∃ i z, P.info? t = some i ∧ i.zero = some z ∧ ∀ G, VRel G a z := by
  unfold zeroV at h
  split at h
  · rename_i i hi
    split at h
    · rename_i z hz; exact ⟨i, z, hi, hz, fun G => ofValue_rel G _ _ _ h⟩
    · cases h
  · cases h

/-- The frame, and what a region has told so far. -/
structure Env (H : Hints) (isG : Nat → Bool) (sz : Nat) (G : Gh) (ns : Nms) (g : PT AV) (l : List AV) (a : Act) : Prop where
  size : sz ≤ a.tmps.size
  fr : ∀ t v, ns.idxOf? (some t) = none → g.get t = some v → isG t = true ∧ VRel G v (a.tmps.getD t undef)
  len : ns.length = l.length
  loc : ∀ t (i : Nat) v, ns.idxOf? (some t) = some i → l[i]? = some v → VRel G v (a.tmps.getD t undef)
  glob : ∀ b cs, H.glob b = some cs → ∃ vs, G.Z b = some (0, vs) ∧ VRels G cs vs
theorem Env.mono {H : Hints} {isG : Nat → Bool} {sz : Nat} {G G' : Gh} {ns : Nms} {g : PT AV} {l : List AV} {a : Act} (hle : G.le G') (X : Env H isG sz G ns g l a) : Env H isG sz G' ns g l a :=
  ⟨X.size, fun t v k h => ⟨(X.fr t v k h).1, (X.fr t v k h).2.mono hle⟩, X.len, fun t i v h k => (X.loc t i v h k).mono hle, fun b cs h => let ⟨vs, e, V⟩ := X.glob b cs h; ⟨vs, hle.z _ _ e, V.mono hle⟩⟩

section
variable {H : Hints} {isG : Nat → Bool} {sz : Nat} {G : Gh} {ns : Nms} {g : PT AV} {l : List AV} {a : Act}
theorem Env.opd (X : Env H isG sz G ns g l a) {q : Operand} {x : OpdR} (h : compOpd H ns q = some x) {v : AV} (e : x g l = some v) : VRel G v (a.eval q) := by
  cases q with
  | tmp t =>
    simp only [compOpd] at h
    split at h
    · rename_i i hi
      cases h
      have e' : lget l i = some v := e
      rw [lget_eq] at e'
      exact X.loc t i v hi e'
    · rename_i hi
      cases h
      exact (X.fr t v hi e).2
  | const c =>
    simp only [compOpd] at h
    split at h
    · rename_i c' hc; cases h
      cases e
      exact ofValue_rel G _ _ _ hc
    · cases h
  | func f =>
    cases h; cases e
    exact .func (vs := #[]) .nil
  | global b =>
    simp only [compOpd] at h
    split at h
    · rename_i cs hc; cases h; cases e
      obtain ⟨vs, hz, V⟩ := X.glob b cs hc
      have := VRel.imm (o := 0) hz V
      simpa [Act.eval] using this
    · cases h
theorem Env.opds (X : Env H isG sz G ns g l a) : ∀ {qs : List Operand} {xs : List OpdR} {vs : List AV}, mapO (compOpd H ns) qs = some xs → Go.Vd.opds xs g l = some vs → VRels G vs (qs.map a.eval)
  | [], xs, vs, h, e => by cases h; cases e; exact .nil
  | q :: qs, xs, vs, h, e => by
    simp only [mapO] at h
    split at h
    · rename_i y ys h1 h2
      cases h
      have e' : (match y g l with
        | some v => match Go.Vd.opds ys g l with
          | some r => some (v :: r)
          | none => none
        | none => none) = some vs := e
      split at e'
      · rename_i v hv
        split at e'
        · rename_i r hr; cases e'; exact .cons (X.opd h1 hv) (X.opds h2 hr)
        · cases e'
      · cases e'
    · cases h
end

/-! ## what a called function does -/
def CallS (P : Program) (H : Hints) (cf : CallF) : Prop :=
  ∀ (f : Nat) (args : List AV) (h : AHeap) (B0 : Nat) (W : World) (G : Gh) (w : World) (vs : Array Value), Rel B0 W G h w → VRels G args vs.toList →
    (∀ b cs, H.glob b = some cs → ∃ us, G.Z b = some (0, us) ∧ VRels G cs us) →
    match cf f args h with
    | .fail => True
    | .ok v h' => Calls P f vs w fun e w' => ∃ G' v', e = .returned v' ∧ Stp B0 W G h w G' h' w' ∧ VRel G' v v'
    | .pan v h' => Calls P f vs w fun e w' => ∃ G' v', e = .panicked [{ v := v', recovered := false }] ∧ Stp B0 W G h w G' h' w' ∧ VRel G' v v'
/-- An operation does what is said of it. -/
def OpS (P : Program) (H : Hints) (isG : Nat → Bool) (sz : Nat) (ns : Nms) (o : Oper) (r : OpR) : Prop :=
  ∀ (cf : CallF), CallS P H cf → ∀ (B0 : Nat) (W : World) (G : Gh) (g : PT AV) (l : List AV) (h : AHeap) (a : Act) (w : World), Rel B0 W G h w → Env H isG sz G ns g l a →
    ∀ (next : Act → World → Prop) (Q : Exit → Act → World → Prop),
    match r cf g l h with
    | .fail => True
    | .ok v h' => (∀ G' v' w', Stp B0 W G h w G' h' w' → VRel G' v v' → next (a.put o.dst v') w') → o.wp P a w next Q
    | .pan v h' => (∀ G' v' w', Stp B0 W G h w G' h' w' → VRel G' v v' → Q (.panic [{ v := v', recovered := false }]) a w') → o.wp P a w next Q
/-- Operations that only come to a value. -/
def ValS (P : Program) (H : Hints) (isG : Nat → Bool) (sz : Nat) (ns : Nms) (o : Oper) (r : OpR) : Prop :=
  ∀ (cf : CallF) (B0 : Nat) (W : World) (G : Gh) (g : PT AV) (l : List AV) (h : AHeap) (a : Act) (w : World), Rel B0 W G h w → Env H isG sz G ns g l a →
    match r cf g l h with
    | .fail => True
    | .ok v h' => ∃ G' v' w', (execOp a.eval o).run P w = .ok (.value v') w' ∧ Stp B0 W G h w G' h' w' ∧ VRel G' v v'
    | .pan _ _ => False
theorem ValS.op {P : Program} {H : Hints} {isG : Nat → Bool} {sz : Nat} {ns : Nms} {o : Oper} {r : OpR} (hv : ValS P H isG sz ns o r) : OpS P H isG sz ns o r := by
  intro cf _ B0 W G g l h a w R X next Q
  have k := hv cf B0 W G g l h a w R X
  split
  · trivial
  · rename_i v h' e
    rw [e] at k
    obtain ⟨G', v', w', hr, s, V⟩ := k
    intro K
    show o.upon P a next Q _
    rw [hr]
    exact K G' v' w' s V
  · rename_i v h' e
    rw [e] at k
    exact k.elim
/-- Operations whose value hangs on their operands' alone, and leave memory alone. -/
theorem ValS.pure1 {P : Program} {H : Hints} {isG : Nat → Bool} {sz : Nat} {ns : Nms} {o : Oper} {q : Operand} {x : OpdR} {k : OpdR → OpR} (hx : compOpd H ns q = some x) (F : AHeap → AV → Option AV)
    (hk : ∀ cf g l h, k x cf g l h = match x g l with | some v => .of h (F h v) | none => .fail)
    (ho : ∀ (B0 : Nat) (W : World) (G : Gh) (h : AHeap) (a : Act) (w : World) (v u : AV), Rel B0 W G h w → VRel G v (a.eval q) → F h v = some u → ∃ v', (execOp a.eval o).run P w = .ok (.value v') w ∧ VRel G u v') :
    ValS P H isG sz ns o (k x) := by
  intro cf B0 W G g l h a w R X
  rw [hk]
  cases hv : x g l with
  | none => trivial
  | some v =>
    simp only []
    cases hf : F h v with
    | none => trivial
    | some u =>
      obtain ⟨v', hr, V⟩ := ho B0 W G h a w v u R (X.opd hx hv) hf
      exact ⟨G, v', w, hr, Stp.refl R, V⟩
theorem ValS.pure2 {P : Program} {H : Hints} {isG : Nat → Bool} {sz : Nat} {ns : Nms} {o : Oper} {p q : Operand} {x y : OpdR} {k : OpdR → OpdR → OpR} (hx : compOpd H ns p = some x) (hy : compOpd H ns q = some y)
    (F : AV → AV → Option AV)
    (hk : ∀ cf g l h, k x y cf g l h = match x g l, y g l with | some v, some u => .of h (F v u) | _, _ => .fail)
    (ho : ∀ (G : Gh) (a : Act) (w : World) (v u r : AV), VRel G v (a.eval p) → VRel G u (a.eval q) → F v u = some r → ∃ v', (execOp a.eval o).run P w = .ok (.value v') w ∧ VRel G r v') :
    ValS P H isG sz ns o (k x y) := by
  intro cf B0 W G g l h a w R X
  rw [hk]
  cases hv : x g l with
  | none => trivial
  | some v =>
    cases hu : y g l with
    | none => trivial
    | some u =>
      simp only
      cases hf : F v u with
      | none => trivial
      | some r =>
        obtain ⟨v', hr, V⟩ := ho G a w v u r (X.opd hx hv) (X.opd hy hu) hf
        exact ⟨G, v', w, hr, Stp.refl R, V⟩
theorem comp1_some {H : Hints} {ns : Nms} {x : Operand} {k : OpdR → OpR} {r : OpR} (h : comp1 H ns x k = some r) : ∃ y, compOpd H ns x = some y ∧ r = k y := by
  unfold comp1 at h
  split at h
  · rename_i y hy; cases h; exact ⟨y, hy, rfl⟩
  · cases h
theorem comp2_some {H : Hints} {ns : Nms} {x y : Operand} {k : OpdR → OpdR → OpR} {r : OpR} (h : comp2 H ns x y k = some r) : ∃ p q, compOpd H ns x = some p ∧ compOpd H ns y = some q ∧ r = k p q := by
  unfold comp2 at h
  split at h
  · rename_i p q hp hq; cases h; exact ⟨p, q, hp, hq, rfl⟩
  · cases h
end Go.Vd

namespace Go.Vd
open Go Go.RowKit

section
variable {P : Program} {H : Hints} {isG : Nat → Bool} {sz : Nat} {ns : Nms} {o : Oper}

theorem mov_s {q : Operand} {x : OpdR} (hop : o.op = .move q ∨ o.op = .assign q) (hx : compOpd H ns q = some x) : ValS P H isG sz ns o (oMov x) :=
  ValS.pure1 (k := oMov) hx (fun _ v => some v) (fun cf g l h => by unfold oMov; cases x g l <;> rfl) fun B0 W G h a w v u R V e => by
    cases e
    refine ⟨a.eval q, ?_, V⟩
    rcases hop with e | e <;> simp [execOp, e]
theorem pick_s {c p q : Operand} {x y z : OpdR} (hop : o.op = .pick c p q) (hx : compOpd H ns c = some x) (hy : compOpd H ns p = some y) (hz : compOpd H ns q = some z) : ValS P H isG sz ns o (oPick x y z) := by
  intro cf B0 W G g l h a w R X
  unfold oPick
  split
  · trivial
  · rename_i v h' e
    split at e
    · rename_i hc
      cases hv : y g l with
      | none => rw [hv] at e; cases e
      | some u =>
        rw [hv] at e; cases e
        have C := X.opd hx hc
        generalize hb : a.eval c = cv at C
        cases C
        refine ⟨G, a.eval p, w, ?_, Stp.refl R, X.opd hy hv⟩
        simp [execOp, hop, hb, asBool]
    · rename_i hc
      cases hv : z g l with
      | none => rw [hv] at e; cases e
      | some u =>
        rw [hv] at e; cases e
        have C := X.opd hx hc
        generalize hb : a.eval c = cv at C
        cases C
        refine ⟨G, a.eval q, w, ?_, Stp.refl R, X.opd hz hv⟩
        simp [execOp, hop, hb, asBool]
    · cases e
  · rename_i v h' e
    split at e
    · cases hv : y g l <;> rw [hv] at e <;> cases e
    · cases hv : z g l <;> rw [hv] at e <;> cases e
    · cases e

theorem VRel.cells {G : Gh} {a : AV} {v : Value} (h : VRel G a v) : VRels G a.cells v.cells.toList := by
  cases h <;> first
    | exact .cons (by constructor <;> assumption) .nil
    | (rename_i h; exact h)
theorem run_zero {t : TypeId} {i : TypeInfo} {z : Value} (hi : P.info? t = some i) (hz : i.zero = some z) (w : World) : (zeroValue t).run P w = .ok z w := by
  simp [zeroValue, typeInfo, hi, hz]
/-- A new block that may be written. -/
theorem alloc_val {B0 : Nat} {W w : World} {G : Gh} {h : AHeap} (R : Rel B0 W G h w) {cs : List AV} {vs : Array Value} (V : VRels G cs vs.toList) (e : TypeId) :
    ∃ G', Stp B0 W G h w G' (h.alloc cs) (w.alloc (.cells vs e)) ∧ VRel G' (.ptr h.next 0 0) (.pointer (some ⟨w.heap.size, 0, none⟩)) := by
  have S := R.sAllocB cs vs.toList [] e V
  rw [List.append_nil, Array.toArray_toList] at S
  refine ⟨_, S, ?_⟩
  have := VRel.ptr (G := G.addB h.next 0 { c := w.heap.size, lo := 0, off := 0, n := cs.length, sz := vs.toList.length + ([] : List Value).length }) (b := h.next) (g := 0) (o := 0)
    (p := { c := w.heap.size, lo := 0, off := 0, n := cs.length, sz := vs.toList.length + ([] : List Value).length }) (by simp [Gh.addB]) (Nat.zero_le _)
  simpa using this
/-- A new slice's row, with room behind it. -/
theorem allocSl_val {B0 : Nat} {W w : World} {G : Gh} {h : AHeap} (R : Rel B0 W G h w) {cs : List AV} {vs more : List Value} (V : VRels G cs vs) (e : TypeId) {len cap cap' esz : Nat} {ex : Bool}
    (h0 : len ≤ cap) (h1 : cap * esz = cs.length) (h2 : cap ≤ cap') (h3 : cap' * esz = vs.length + more.length) (hx : ex = true → cap' = cap) :
    ∃ G', Stp B0 W G h w G' (h.alloc cs) (w.alloc (.cells (vs ++ more).toArray e)) ∧ VRel G' (.slice h.next 0 0 len cap esz ex) (.slice (some ⟨w.heap.size, 0, none⟩) len cap') := by
  refine ⟨_, R.sAllocB cs vs more e V, ?_⟩
  have := VRel.slice (G := G.addB h.next 0 { c := w.heap.size, lo := 0, off := 0, n := cs.length, sz := vs.length + more.length }) (b := h.next) (g := 0) (o := 0) (len := len) (cap := cap) (cap' := cap') (esz := esz) (ex := ex)
    (p := { c := w.heap.size, lo := 0, off := 0, n := cs.length, sz := vs.length + more.length }) (a := ⟨w.heap.size, 0, none⟩) (by simp [Gh.addB]) (Nat.zero_le _) h0 h2 hx (.inr (by simp)) (by simp; omega) (by simp; omega)
  exact this
theorem alloc_s {e : TypeId} {zs : List AV} (hop : o.op = .alloc e) (hz : zeroA P e = some zs) : ValS P H isG sz ns o (oAlloc zs) := by
  intro cf B0 W G g l h a w R X
  obtain ⟨i, z, hi, hz', V⟩ := zeroA_rel hz
  obtain ⟨G', S, V'⟩ := alloc_val R (V G) e
  refine ⟨G', _, _, ?_, S, V'⟩
  simp [execOp, hop, Instr.alloc, run_zero hi hz', newVar, newRow]
theorem boxM_s {e : TypeId} {q : Operand} {x : OpdR} (hop : o.op = .box e q) (hx : compOpd H ns q = some x) : ValS P H isG sz ns o (oBoxM x) := by
  intro cf B0 W G g l h a w R X
  unfold oBoxM
  cases hv : x g l with
  | none => trivial
  | some v =>
    obtain ⟨G', S, V'⟩ := alloc_val R (X.opd hx hv).cells e
    refine ⟨G', _, _, ?_, S, V'⟩
    simp [execOp, hop, Instr.box, newVar, newRow]
/-- A frozen row. -/
theorem allocZ_val {B0 : Nat} {W w : World} {G : Gh} {h : AHeap} (R : Rel B0 W G h w) {cs : List AV} {vs : Array Value} (V : VRels G cs vs.toList) (e : TypeId) :
    ∃ G', Stp B0 W G h w G' h (w.alloc (.cells vs e)) ∧ G'.Z w.heap.size = some (0, vs.toList) ∧ VRels G' cs vs.toList := by
  have S := R.sAllocZ vs e
  exact ⟨_, S, by simp [Gh.addZ], V.mono S.le⟩
theorem boxF_s {e : TypeId} {q : Operand} {x : OpdR} (hop : o.op = .box e q) (hx : compOpd H ns q = some x) : ValS P H isG sz ns o (oBoxF x) := by
  intro cf B0 W G g l h a w R X
  unfold oBoxF
  cases hv : x g l with
  | none => trivial
  | some v =>
    obtain ⟨G', S, hz, V'⟩ := allocZ_val R (X.opd hx hv).cells e
    refine ⟨G', .pointer (some ⟨w.heap.size, 0, none⟩), _, ?_, S, by simpa using VRel.imm (o := 0) hz V'⟩
    simp [execOp, hop, Instr.box, newVar, newRow]

/-! ## loads, stores -/
theorem loadCells_rel {w : World} {G : Gh} {c s n : Nat} {cs : List AV} (hl : cs.length = n) (hc : ∀ (i : Nat) a, cs[i]? = some a → ∃ v, w.cell? ⟨c, s + i, none⟩ = some v ∧ VRel G a v) :
    ∃ vs : List Value, vs.length = n ∧ VRels G cs vs ∧ (∀ (i : Nat) v, vs[i]? = some v → w.cell? ⟨c, s + i, none⟩ = some v) := by
  induction cs generalizing n s with
  | nil => exact ⟨[], by simpa using hl, .nil, fun i v h => by simp at h⟩
  | cons a cs ih =>
    obtain ⟨v, hv, V⟩ := hc 0 a rfl
    obtain ⟨vs, h1, h2, h3⟩ := ih (n := cs.length) (s := s + 1) rfl fun i b hb => by
      obtain ⟨u, hu, U⟩ := hc (i + 1) b (by simpa using hb)
      exact ⟨u, by rw [show s + 1 + i = s + (i + 1) by omega]; exact hu, U⟩
    refine ⟨v :: vs, by simp [h1]; simpa using hl, .cons V h2, fun i u hu => ?_⟩
    cases i with
    | zero => simp at hu; subst hu; exact hv
    | succ i => rw [show s + (i + 1) = s + 1 + i by omega]; exact h3 i u (by simpa using hu)
theorem addr_add (c s i : Nat) : (Addr.add ⟨c, s, none⟩ i) = ⟨c, s + i, none⟩ := by
  unfold Addr.add
  split
  · rename_i h; subst h; rfl
  · rfl
def AsV (n : Option Nat) (vs : List Value) (v : Value) : Prop :=
  match n with
  | some _ => v = .agg vs.toArray
  | none => vs = [v]
theorem run_loadVar {t : TypeId} {n : Option Nat} (hn : aggN P t = some n) {w : World} {c s : Nat} {vs : List Value} (hl : vs.length = n.getD 1) (hc : ∀ (i : Nat) v, vs[i]? = some v → w.cell? ⟨c, s + i, none⟩ = some v) :
    ∃ v, (loadVar t ⟨c, s, none⟩).run P w = .ok v w ∧ AsV n vs v := by
  unfold aggN at hn
  have hagg : ∀ k, k = vs.length → (loadCells ⟨c, s, none⟩ k).run P w = .ok vs.toArray w := fun k hk => by
    subst hk
    exact run_loadCells_list w ⟨c, s, none⟩ vs fun j v hv => by rw [addr_add]; exact hc j v hv
  split at hn
  · rename_i i fs hi hu
    cases hn
    refine ⟨.agg vs.toArray, ?_, rfl⟩
    simp [loadVar, isAgg, underlying, hu, sizeOf, typeInfo, hi, hagg i.size hl.symm]
  · rename_i i k e hi hu
    cases hn
    refine ⟨.agg vs.toArray, ?_, rfl⟩
    simp [loadVar, isAgg, underlying, hu, sizeOf, typeInfo, hi, hagg i.size hl.symm]
  · rename_i i d h1 h2 hi hu
    cases hn
    match vs, hl with
    | [v], _ =>
      refine ⟨v, ?_, rfl⟩
      have := hc 0 v rfl
      have hna : (isAgg t).run P w = .ok false w := by
        simp only [isAgg, Sem.run_bind, underlying, run_program, Result.andThen_ok, hu]
        cases d <;> simp_all
      simp only [loadVar, Sem.run_bind, hna, Result.andThen_ok]
      simp [show w.cell? ⟨c, s, none⟩ = some v from this]
  · cases hn
theorem asVal_rel {G : Gh} {n : Option Nat} {cs : List AV} {u : AV} (e : asVal n cs = some u) {vs : List Value} (V : VRels G cs vs) {v : Value} (hv : AsV n vs v) : VRel G u v := by
  cases n with
  | some k => simp only [asVal] at e; cases e; have hv : v = .agg vs.toArray := hv; subst hv; exact .agg (by simpa using V)
  | none =>
    have hv : vs = [v] := hv
    subst hv
    cases V with
    | cons h t => cases t; simp only [asVal] at e; cases e; exact h
theorem load_val {B0 : Nat} {W w : World} {G : Gh} {h : AHeap} (R : Rel B0 W G h w) {t : TypeId} {n : Option Nat} (hn : aggN P t = some n) {x : AV} {a : Value} (V : VRel G x a) {u : AV} (e : loadAV h n x = some u) :
    ∃ v, (Instr.loadAt t a).run P w = .ok v w ∧ VRel G u v := by
  unfold loadAV at e
  split at e
  · split at e
    · rename_i fs o cs hp
      cases V with
      | imm hz hv =>
        obtain ⟨h1, h2⟩ := R.frozenCells hz hv hp
        obtain ⟨vs, k1, k2, k3⟩ := loadCells_rel h1 h2
        obtain ⟨v, r1, r2⟩ := run_loadVar hn k1 k3
        exact ⟨v, by simp [Instr.loadAt, Instr.sureAddr, r1], asVal_rel e k2 r2⟩
    · cases e
  · split at e
    · rename_i b o g cs hp
      cases V with
      | ptr hb hl =>
        obtain ⟨h1, _, _, h2⟩ := R.rdn hp hb hl
        obtain ⟨vs, k1, k2, k3⟩ := loadCells_rel h1 h2
        obtain ⟨v, r1, r2⟩ := run_loadVar hn k1 k3
        exact ⟨v, by simp [Instr.loadAt, Instr.sureAddr, r1], asVal_rel e k2 r2⟩
    · cases e
  · cases e
theorem load_s {t : TypeId} {n : Option Nat} {q : Operand} {x : OpdR} (hop : o.op = .load t q) (hn : aggN P t = some n) (hx : compOpd H ns q = some x) : ValS P H isG sz ns o (oLoad n x) :=
  ValS.pure1 (k := oLoad n) hx (fun h v => loadAV h n v) (fun _ _ _ _ => rfl) fun B0 W G h a w v u R V e => by
    obtain ⟨v', r, V'⟩ := load_val R hn V e
    exact ⟨v', by simp [execOp, hop, r], V'⟩
theorem store_s {t : TypeId} {n : Nat} {p q : Operand} {x y : OpdR} (hop : o.op = .store t p q) (hn : sizeA P t = some n) (hx : compOpd H ns p = some x) (hy : compOpd H ns q = some y) : OpS P H isG sz ns o (oStore n x y) := by
  intro cf _ B0 W G g l h a w R X next Q
  unfold oStore
  split
  · trivial
  · rename_i v h' e
    split at e
    · rename_i av vv ha hv
      split at e
      · rename_i h2 hs
        cases e
        intro K
        unfold storeAV at hs
        split at hs
        · rename_i b of gn
          split at hs
          · rename_i hlen
            have VA := X.opd hx ha
            have VV := X.opd hy hv
            generalize hq : a.eval p = pv at VA
            cases VA with
            | ptr hb hl =>
              obtain ⟨w', hr, S⟩ := R.sWrn (P := P) hs hb hl VV.cells
              show o.upon P a next Q _
              have hsz : (a.eval q).cells.size = n := by
                have h1 := VV.cells.length
                have h2 := beq_iff.1 hlen
                rw [llen_eq] at h2
                rw [← Array.length_toList, ← h1]
                exact h2
              have hi : (sizeOf t).run P w = .ok n w := by
                unfold sizeA at hn
                cases hinf : P.info? t with
                | none => rw [hinf] at hn; cases hn
                | some i => rw [hinf] at hn; simp [sizeOf, typeInfo, hinf]; simpa using hn
              have : (execOp a.eval o).run P w = .ok .skip w' := by
                simp [execOp, hop, Instr.storeAt, Instr.sureAddr, hq, storeVar, hi, hsz, hr]
              rw [this]
              exact K G undef w' S .undef
          · cases hs
        · cases hs
      · cases e
    · cases e
  · rename_i v h' e
    split at e
    · split at e <;> cases e
    · cases e
end
end Go.Vd

namespace Go.Vd
open Go Go.RowKit

/-! ## numbers -/
theorem nbeq (x y : Nat) : (x == y) = Nat.beq x y := by rw [Bool.eq_iff_iff, beq_iff_eq, beq_iff]
theorem kSg_eq (k : IntKind) : kSg k = k.signed := by cases k <;> rfl
theorem keq_iff {a b : IntKind} : keq a b = true ↔ a = b := by
  cases a <;> cases b <;> simp [keq, kN]
theorem wrap_pos (k : IntKind) (m : Nat) (h : m < kTop k) : k.wrap (Int.ofNat m) = Int.ofNat m := by
  cases k <;> (unfold IntKind.wrap; simp only [kTop, IntKind.bits, IntKind.signed] at h ⊢; simp only [Int.ofNat_eq_natCast, Bool.true_and, Bool.false_and, Bool.false_eq_true, if_false]; first | omega | (split <;> simp_all <;> omega))
theorem wrap_neg (k : IntKind) (m : Nat) (h : m < kTop k) (hs : k.signed = true) : k.wrap (Int.negSucc m) = Int.negSucc m := by
  cases k <;> first | (cases hs; done) | (unfold IntKind.wrap; simp only [kTop, IntKind.bits, IntKind.signed] at h ⊢; simp only [Int.negSucc_eq, Bool.true_and]; split <;> simp_all <;> omega)
theorem wrapK_eq (k : IntKind) (n : Int) : wrapK k n = k.wrap n := by
  cases n with
  | ofNat m =>
    show (Bool.rec (motive := fun _ => Int) (k.wrap (Int.ofNat m)) (Int.ofNat m) (Nat.ble (Nat.succ m) (kTop k)) : Int) = _
    cases h : Nat.ble (Nat.succ m) (kTop k) with
    | false => rfl
    | true => exact (wrap_pos k m (ble_iff.1 h)).symm
  | negSucc m =>
    show (Bool.rec (motive := fun _ => Int) (k.wrap (Int.negSucc m)) (Int.negSucc m) (Bool.rec (motive := fun _ => Bool) false (Nat.ble (Nat.succ m) (kTop k)) (kSg k)) : Int) = _
    cases hs : kSg k with
    | false => rfl
    | true =>
      show (Bool.rec (motive := fun _ => Int) (k.wrap (Int.negSucc m)) (Int.negSucc m) (Nat.ble (Nat.succ m) (kTop k)) : Int) = _
      cases h : Nat.ble (Nat.succ m) (kTop k) with
      | false => rfl
      | true => exact (wrap_neg k m (ble_iff.1 h) (by rw [← kSg_eq]; exact hs)).symm
theorem ilt_eq (a b : Int) : ilt a b = decide (a < b) := by
  cases a with
  | ofNat m => cases b with
    | ofNat n =>
      show Nat.ble (Nat.succ m) n = _
      cases h : Nat.ble (Nat.succ m) n with
      | true => have := ble_iff.1 h; symm; rw [decide_eq_true_eq]; simp only [Int.ofNat_eq_natCast]; omega
      | false => have := ble_ff.1 h; symm; rw [decide_eq_false_iff_not]; simp only [Int.ofNat_eq_natCast]; omega
    | negSucc n => show false = _; symm; rw [decide_eq_false_iff_not]; simp only [Int.ofNat_eq_natCast, Int.negSucc_eq]; omega
  | negSucc m => cases b with
    | ofNat n => show true = _; symm; rw [decide_eq_true_eq]; simp only [Int.ofNat_eq_natCast, Int.negSucc_eq]; omega
    | negSucc n =>
      show Nat.ble (Nat.succ n) m = _
      cases h : Nat.ble (Nat.succ n) m with
      | true => have := ble_iff.1 h; symm; rw [decide_eq_true_eq]; simp only [Int.negSucc_eq]; omega
      | false => have := ble_ff.1 h; symm; rw [decide_eq_false_iff_not]; simp only [Int.negSucc_eq]; omega
theorem ieq_eq (a b : Int) : ieq a b = (a == b) := by
  rw [Bool.eq_iff_iff, beq_iff_eq]
  cases a with
  | ofNat m => cases b with
    | ofNat n => show Nat.beq m n = true ↔ _; rw [beq_iff]; simp only [Int.ofNat_eq_natCast]; omega
    | negSucc n => show false = true ↔ _; simp only [Int.ofNat_eq_natCast, Int.negSucc_eq]; constructor; intro h; cases h; intro h; omega
  | negSucc m => cases b with
    | ofNat n => show false = true ↔ _; simp only [Int.ofNat_eq_natCast, Int.negSucc_eq]; constructor; intro h; cases h; intro h; omega
    | negSucc n => show Nat.beq n m = true ↔ _; rw [beq_iff]; simp only [Int.negSucc_eq]; omega

/-! ## bytes -/
theorem seq_eq : ∀ (a b : List Nat), seq a b = (a == b)
  | [], [] => rfl
  | [], _ :: _ => rfl
  | _ :: _, [] => rfl
  | x :: xs, y :: ys => by
    show (Bool.rec (motive := fun _ => Bool) false (seq xs ys) (Nat.beq x y) : Bool) = _
    rw [seq_eq xs ys, List.cons_beq_cons, nbeq]
    cases Nat.beq x y <;> rfl
theorem slt_cons (x y : Nat) (xs ys : List Nat) : slt (x :: xs) (y :: ys) = (decide (x < y) || ((x == y) && slt xs ys)) := by
  show (Bool.rec (motive := fun _ => Bool) (Bool.rec (motive := fun _ => Bool) false (slt xs ys) (Nat.beq x y)) true (Nat.ble (Nat.succ x) y) : Bool) = _
  cases h : Nat.ble (Nat.succ x) y with
  | true => have := ble_iff.1 h; rw [decide_eq_true (by omega : x < y)]; rfl
  | false =>
    have := ble_ff.1 h; rw [decide_eq_false (by omega : ¬ x < y), Bool.false_or, nbeq]
    cases Nat.beq x y <;> rfl
theorem bytes_beq : ∀ (x y : List UInt8), (x.map UInt8.toNat == y.map UInt8.toNat) = (x == y)
  | [], [] => rfl
  | [], _ :: _ => rfl
  | _ :: _, [] => rfl
  | a :: x, b :: y => by
    rw [List.map_cons, List.map_cons, List.cons_beq_cons, List.cons_beq_cons, bytes_beq x y]
    congr 1
    rw [Bool.eq_iff_iff, beq_iff_eq, beq_iff_eq]
    exact ⟨fun h => UInt8.toNat_inj.1 h, fun h => by rw [h]⟩
theorem bytes_slt : ∀ (x y : List UInt8), slt (x.map UInt8.toNat) (y.map UInt8.toNat) = Op.bytesLess x y
  | [], [] => rfl
  | [], _ :: _ => rfl
  | _ :: _, [] => rfl
  | a :: x, b :: y => by
    rw [List.map_cons, List.map_cons, slt_cons, bytes_slt x y, Op.bytesLess]
    have h1 : decide (a.toNat < b.toNat) = decide (a < b) := by rw [decide_eq_decide]; exact UInt8.lt_iff_toNat_lt.symm
    have h2 : (a.toNat == b.toNat) = (a == b) := by rw [Bool.eq_iff_iff, beq_iff_eq, beq_iff_eq]; exact ⟨fun h => UInt8.toNat_inj.1 h, fun h => by rw [h]⟩
    rw [h1, h2]
theorem bytesN_len (b : ByteArray) : (bytesN b).length = b.size := by
  unfold bytesN
  rw [List.length_map, Array.length_toList]; rfl
theorem bytesN_append (a b : ByteArray) : bytesN (a ++ b) = bytesN a ++ bytesN b := by
  unfold bytesN
  rw [ByteArray.data_append, Array.toList_append, List.map_append]

section
variable {P : Program} {G : Gh} {w : World}
theorem cmpI_val {op : BinOp} {a b : Int} {r : AV} (e : cmpI op a b = some r) : ∃ v, (Op.intCmp op a b).run P w = .ok v w ∧ VRel G r v := by
  cases op <;> simp only [cmpI] at e <;> first | (cases e; done) | (cases e; refine ⟨_, by simp only [Op.intCmp, Sem.run_pure]; rfl, ?_⟩; first | (rw [ieq_eq]; exact .bool _) | (rw [ilt_eq]; exact .bool _) | skip)
  · rw [ilt_eq, show (decide (a ≤ b)) = !(decide (b < a)) by rw [← decide_not, decide_eq_decide]; omega]; exact .bool _
  · rw [ilt_eq, show (decide (a ≥ b)) = !(decide (a < b)) by rw [← decide_not, decide_eq_decide]; omega]; exact .bool _
theorem bitsI_val {op : BinOp} {k : IntKind} {a b : Int} {r : AV} (e : bitsI op k a b = some r) : ∃ v, (Op.intBits op k a b).run P w = .ok v w ∧ VRel G r v := by
  cases op <;> simp only [bitsI] at e <;> first | (cases e; done) | (cases e; refine ⟨_, by simp only [Op.intBits, Sem.run_pure]; rfl, ?_⟩; rw [wrapK_eq]; exact .int _ _)
theorem binI_val {op : BinOp} {t : TypeId} {k : IntKind} {a b : Int} {r : AV} (h1 : op ≠ .shl) (h2 : op ≠ .shr) (e : binI op k a b = some r) : ∃ v, (binOp op t (.int k a) (.int k b)).run P w = .ok v w ∧ VRel G r v := by
  cases op <;> simp only [binI] at e <;> first
    | exact absurd rfl h1
    | exact absurd rfl h2
    | (cases e; refine ⟨_, by simp [binOp, Op.intArith]; rfl, ?_⟩; rw [wrapK_eq]; exact .int _ _)
    | (obtain ⟨v, hr, V⟩ := bitsI_val (P := P) (G := G) (w := w) e; exact ⟨v, by simpa [binOp] using hr, V⟩)
    | (obtain ⟨v, hr, V⟩ := cmpI_val (P := P) (G := G) (w := w) e; exact ⟨v, by simpa [binOp] using hr, V⟩)
    | (split at e
       · cases e
       · rename_i h
         rw [ieq_eq] at h
         have hb : ¬ b = 0 := by simpa using h
         cases e
         refine ⟨_, by simp [binOp, Op.intDiv, hb]; rfl, ?_⟩
         first | (rw [wrapK_eq]; exact .int _ _) | exact .int _ _)
theorem shI_val {op : BinOp} {t : TypeId} {k k' : IntKind} {a b : Int} {r : AV} (e : shI op k a b = some r) (ho : op = .shl ∨ op = .shr) : ∃ v, (binOp op t (.int k a) (.int k' b)).run P w = .ok v w ∧ VRel G r v := by
  unfold shI at e
  split at e
  · cases e
  · rename_i h
    rw [ilt_eq] at h
    have hb : ¬ b < 0 := by simpa using h
    have hp : ∀ n : Nat, ((2 : Int) ^ n) = Int.ofNat (Nat.pow 2 n) := fun n => by
      show _ = ((2 ^ n : Nat) : Int); rw [Int.natCast_pow]; rfl
    rcases ho with rfl | rfl
    · cases e
      refine ⟨.int k (k.wrap (a * 2 ^ (min b.toNat k.bits))), by simp [binOp, Op.shift, hb], ?_⟩
      rw [wrapK_eq, hp]; exact .int _ _
    · cases e
      refine ⟨.int k (a.fdiv (2 ^ (min b.toNat k.bits))), by simp [binOp, Op.shift, hb], ?_⟩
      rw [hp]; exact .int _ _
theorem binS_val {op : BinOp} {t : TypeId} {a b : ByteArray} {r : AV} (e : binS op (bytesN a) (bytesN b) = some r) : ∃ v, (binOp op t (.string a) (.string b)).run P w = .ok v w ∧ VRel G r v := by
  have hs : seq (bytesN a) (bytesN b) = (a.toList == b.toList) := by rw [seq_eq, ByteArray.toList_eq, ByteArray.toList_eq]; exact bytes_beq _ _
  have hl : slt (bytesN a) (bytesN b) = Op.bytesLess a.toList b.toList := by rw [ByteArray.toList_eq, ByteArray.toList_eq]; exact bytes_slt _ _
  cases op <;> simp only [binS] at e <;> first
    | (cases e; done)
    | (cases e; rw [hs, hl]; refine ⟨_, by simp only [binOp, Op.stringOp, Sem.run_pure]; rfl, ?_⟩; exact .bool _)
    | (cases e; rw [hs]; refine ⟨_, by simp only [binOp, Op.stringOp, Sem.run_pure]; rfl, ?_⟩; exact .bool _)
    | (cases e; rw [hl]; refine ⟨_, by simp only [binOp, Op.stringOp, Sem.run_pure]; rfl, ?_⟩; exact .bool _)
    | (split at e
       · rename_i h
         cases e
         have h' := ble_iff.1 h
         rw [llen_eq, llen_eq, bytesN_len, bytesN_len] at h'
         have hle : ¬ (((a.size + b.size : Nat) : Int) > IntKind.i64.max) := by
           have : IntKind.i64.max = 9223372036854775807 := by decide
           rw [this]; have : a.size + b.size ≤ 4611686018427387904 := h'; omega
         refine ⟨.string (a ++ b), by simp only [binOp, Op.stringOp, if_neg hle, Sem.run_pure], ?_⟩
         rw [lapp_eq, ← bytesN_append]; exact .str _
       · cases e)
theorem bin_val {op : BinOp} {t : TypeId} {x y r : AV} {xv yv : Value} (X : VRel G x xv) (Y : VRel G y yv) (e : binAV op x y = some r) : ∃ v, (binOp op t xv yv).run P w = .ok v w ∧ VRel G r v := by
  unfold binAV at e
  split at e
  · cases X; cases Y
    split at e
    · exact shI_val e (.inl rfl)
    · exact shI_val e (.inr rfl)
    · rename_i h1 h2
      split at e
      · rename_i hk
        have := keq_iff.1 hk
        subst this
        exact binI_val (fun q => h1 q) (fun q => h2 q) e
      · cases e
  · cases X; cases Y
    exact binS_val e
  · cases e
end
section
variable {P : Program} {H : Hints} {isG : Nat → Bool} {sz : Nat} {ns : Nms} {o : Oper}
theorem guard_free {op : BinOp} (h1 : op ≠ .eql) (h2 : op ≠ .neq) (t : TypeId) (x y : Operand) (a b : Value) (w : World) : (eqGuard op t x y a b).run P w = .ok () w := by
  cases op <;> first | exact absurd rfl h1 | exact absurd rfl h2 | simp [eqGuard]
theorem bin_s {op : BinOp} {t u : TypeId} {p q : Operand} {x y : OpdR} (hop : o.op = .binOp op t p q u) (h1 : op ≠ .eql) (h2 : op ≠ .neq) (hx : compOpd H ns p = some x) (hy : compOpd H ns q = some y) :
    ValS P H isG sz ns o (oBin op x y) :=
  ValS.pure2 (k := oBin op) hx hy (binAV op) (fun cf g l h => by unfold oBin; rfl) fun G a w v u r V U e => by
    obtain ⟨z, hr, Z⟩ := bin_val (P := P) (w := w) (t := t) V U e
    exact ⟨z, by simp [execOp, hop, guard_free h1 h2, hr], Z⟩
theorem not_s {t : TypeId} {q : Operand} {x : OpdR} (hop : o.op = .unOp .not t q) (hx : compOpd H ns q = some x) : ValS P H isG sz ns o (oNot x) :=
  ValS.pure1 (k := oNot) hx (fun _ v => match v with | .bool b => some (.bool (!b)) | _ => none) (fun cf g l h => by unfold oNot; cases x g l with | none => rfl | some v => cases v <;> rfl) fun B0 W G h a w v u R V e => by
    split at e
    · cases e
      generalize hq : a.eval q = qv at V
      cases V
      exact ⟨_, by simp [execOp, hop, hq, Op.unary], .bool _⟩
    · cases e
theorem neg_s {t : TypeId} {q : Operand} {x : OpdR} (hop : o.op = .unOp .neg t q) (hx : compOpd H ns q = some x) : ValS P H isG sz ns o (oNeg x) :=
  ValS.pure1 (k := oNeg) hx (fun _ v => match v with | .int k n => some (.int k (wrapK k (Int.sub 0 n))) | _ => none) (fun cf g l h => by unfold oNeg; cases x g l with | none => rfl | some v => cases v <;> rfl) fun B0 W G h a w v u R V e => by
    split at e
    · cases e
      generalize hq : a.eval q = qv at V
      cases V
      rename_i k n
      refine ⟨.int k (k.wrap (0 - n)), by simp [execOp, hop, hq, Op.unary, Op.intArith], ?_⟩
      rw [wrapK_eq]; exact .int _ _
    · cases e
theorem cpl_s {t : TypeId} {q : Operand} {x : OpdR} (hop : o.op = .unOp .xor t q) (hx : compOpd H ns q = some x) : ValS P H isG sz ns o (oCpl x) :=
  ValS.pure1 (k := oCpl) hx (fun _ v => match v with | .int k n => bitsI .xor k (match kSg k with | true => -1 | false => k.max) n | _ => none) (fun cf g l h => by unfold oCpl; cases x g l with | none => rfl | some v => cases v <;> rfl) fun B0 W G h a w v u R V e => by
    split at e
    · generalize hq : a.eval q = qv at V
      cases V
      rename_i k n
      obtain ⟨z, hr, Z⟩ := bitsI_val (P := P) (G := G) (w := w) e
      refine ⟨z, ?_, Z⟩
      rw [kSg_eq] at hr
      have hr' : (Op.intBits .xor k (if k.signed then -1 else k.max) n).run P w = .ok z w := by
        rw [← hr]; cases k.signed <;> rfl
      simp [execOp, hop, hq, Op.unary, hr']
    · cases e
end
end Go.Vd

namespace Go.Vd
open Go Go.RowKit

section
variable {P : Program} {G : Gh} {w : World}
/-! ## equality -/
theorem eqBoth {t : TypeId} {xv yv : Value} {r : Bool} (hne : (∀ k a, xv ≠ .int k a) ∧ (∀ s, xv ≠ .string s) ∧ (∀ k b, xv ≠ .float k b) ∧ (∀ k a b, xv ≠ .complex k a b)) (h : (Op.equal t xv yv).run P w = .ok r w) :
    (binOp .eql t xv yv).run P w = .ok (.bool r) w ∧ (binOp .neq t xv yv).run P w = .ok (.bool (!r)) w := by
  obtain ⟨h1, h2, h3, h4⟩ := hne
  constructor
  · cases xv <;> first | exact absurd rfl (h1 _ _) | exact absurd rfl (h2 _) | exact absurd rfl (h3 _ _) | exact absurd rfl (h4 _ _ _) | (cases yv <;> simp [binOp, h])
  · cases xv <;> first | exact absurd rfl (h1 _ _) | exact absurd rfl (h2 _) | exact absurd rfl (h3 _ _) | exact absurd rfl (h4 _ _ _) | (cases yv <;> simp [binOp, h])
theorem eqSc_val {t : TypeId} {x y : AV} {xv yv : Value} {r : Bool} (X : VRel G x xv) (Y : VRel G y yv) (e : eqSc x y = some r) :
    (binOp .eql t xv yv).run P w = .ok (.bool r) w ∧ (binOp .neq t xv yv).run P w = .ok (.bool (!r)) w := by
  unfold eqSc at e
  split at e
  · cases X; cases Y
    split at e
    · rename_i h; have := keq_iff.1 h; subst this
      cases e
      rw [ieq_eq]
      exact ⟨by simp [binOp, Op.intCmp], by simp [binOp, Op.intCmp]; rfl⟩
    · cases e
  · cases X; cases Y; cases e
    rename_i a b
    have : seq (bytesN a) (bytesN b) = (a.toList == b.toList) := by rw [seq_eq, ByteArray.toList_eq, ByteArray.toList_eq]; exact bytes_beq _ _
    rw [this]
    exact ⟨by simp [binOp, Op.stringOp], by simp [binOp, Op.stringOp]⟩
  · cases e
theorem run_underlying' {t : TypeId} {d : TypeDesc} (h : P.underlying t = some d) : (underlying t).run P w = .ok d w := by simp [underlying, h]
theorem equal_unf (t : TypeId) (x y : Value) : Op.equal t x y = Op.equalIn (9999 + 1) t x y := rfl
theorem eqBo_val {t : TypeId} (hu : P.underlying t = some .bool) {x y : AV} {xv yv : Value} {r : Bool} (X : VRel G x xv) (Y : VRel G y yv) (e : eqBo x y = some r) :
    (binOp .eql t xv yv).run P w = .ok (.bool r) w ∧ (binOp .neq t xv yv).run P w = .ok (.bool (!r)) w := by
  unfold eqBo at e
  split at e
  · cases X; cases Y; cases e
    refine eqBoth ⟨by simp, by simp, by simp, by simp⟩ ?_
    rw [equal_unf, Op.equalIn]
    simp [run_underlying' hu]
  · cases e
theorem info_size {t : TypeId} {i : TypeInfo} (h : P.info? t = some i) : (sizeOf t).run P w = .ok i.size w := by simp [sizeOf, typeInfo, h]
theorem eqPtr_in {t el : TypeId} {i : TypeInfo} (d : Nat) (hu : P.underlying t = some (.pointer el)) (hi : P.info? el = some i) (hs : i.size ≠ 0) {x y : AV} {xv yv : Value} {r : Bool} (X : VRel G x xv) (Y : VRel G y yv) (e : eqPtr x y = some r) :
    (Op.equalIn (d + 1) t xv yv).run P w = .ok r w := by
  unfold eqPtr at e
  split at e
  · cases X; cases Y; cases e; simp [Op.equalIn, run_underlying' hu]
  · cases X; cases Y; cases e; simp [Op.equalIn, run_underlying' hu]
  · cases X; cases Y; cases e; simp [Op.equalIn, run_underlying' hu]
  · cases X; cases Y; cases e; simp [Op.equalIn, run_underlying' hu]
  · cases X; cases Y; cases e; simp [Op.equalIn, run_underlying' hu]
  · rename_i b o g b' o' g'
    cases X with
    | ptr hb hl =>
      cases Y with
      | ptr hb' hl' =>
        split at e
        · rename_i h1 h2
          have e1 := beq_iff.1 h1
          have e2 := beq_iff.1 h2
          subst e1; subst e2
          rw [hb] at hb'; cases hb'
          cases e
          rename_i p
          simp only [Op.equalIn, Sem.run_bind, run_underlying' hu, Result.andThen_ok, info_size hi, hs, ne_eq, not_false_eq_true, if_true]
          simp only [sameAddr, beq_self_eq_true, if_true]
          show Result.ok _ w = _
          congr 1
          rw [Bool.eq_iff_iff, beq_iff_eq, beq_iff]
          constructor
          · intro q; simp only [Addr.mk.injEq, and_true, true_and] at q; omega
          · intro q; subst q; rfl
        · cases e
  · cases e
theorem eqPtr_val {t el : TypeId} {i : TypeInfo} (hu : P.underlying t = some (.pointer el)) (hi : P.info? el = some i) (hs : i.size ≠ 0) {x y : AV} {xv yv : Value} {r : Bool} (X : VRel G x xv) (Y : VRel G y yv) (e : eqPtr x y = some r) :
    (binOp .eql t xv yv).run P w = .ok (.bool r) w ∧ (binOp .neq t xv yv).run P w = .ok (.bool (!r)) w := by
  refine eqBoth ?_ (eqPtr_in 9999 hu hi hs X Y e)
  unfold eqPtr at e
  split at e <;> first | (cases e; done) | (cases X; exact ⟨by simp, by simp, by simp, by simp⟩)
theorem ba_beq (a b : ByteArray) : (a == b) = (a.data == b.data) := by cases a; cases b; rfl
theorem eqTK_in {tx : TypeId} (d : Nat)
    (hk : (tkOf P tx = .int ∧ ∃ k, P.underlying tx = some (.int k)) ∨ (tkOf P tx = .str ∧ P.underlying tx = some .string) ∨ (tkOf P tx = .bo ∧ P.underlying tx = some .bool) ∨
      (tkOf P tx = .ptr ∧ ∃ el j, P.underlying tx = some (.pointer el) ∧ P.info? el = some j ∧ j.size ≠ 0)) {x y : AV} {xv yv : Value} {r : Bool}
    (X : VRel G x xv) (Y : VRel G y yv) (e : eqTK (tkOf P tx) x y = some r) : (Op.equalIn (d + 1) tx xv yv).run P w = .ok r w := by
  rcases hk with ⟨h0, k, hk⟩ | ⟨h0, hk⟩ | ⟨h0, hk⟩ | ⟨h0, el, j, hk, hj, hs⟩
  · rw [h0] at e
    simp only [eqTK, eqInt] at e
    split at e
    · cases X; cases Y
      split at e
      · rename_i h; have := keq_iff.1 h; subst this
        cases e
        rw [ieq_eq, Op.equalIn]
        simp [run_underlying' hk]
      · cases e
    · cases e
  · rw [h0] at e
    simp only [eqTK, eqStr] at e
    split at e
    · cases X; cases Y
      cases e
      rename_i a b
      have : seq (bytesN a) (bytesN b) = (a == b) := by
        rw [seq_eq, ba_beq]
        show ((a.data.toList.map UInt8.toNat) == (b.data.toList.map UInt8.toNat)) = _
        rw [bytes_beq, Bool.eq_iff_iff, beq_iff_eq, beq_iff_eq]
        constructor
        · intro q; exact Array.toList_inj.1 q
        · intro q; rw [q]
      rw [this, Op.equalIn]
      simp [run_underlying' hk]
    · cases e
  · rw [h0] at e
    simp only [eqTK, eqBo] at e
    split at e
    · cases X; cases Y
      cases e
      rw [Op.equalIn]
      simp [run_underlying' hk]
    · cases e
  · rw [h0] at e
    exact eqPtr_in d hk hj hs X Y e
theorem eqIfc_val {t : TypeId} {ms : Array (String × TypeId)} (hu : P.underlying t = some (.interface ms)) {lit : Bool} {x y : AV} {xv yv : Value} {r : Bool} (X : VRel G x xv) (Y : VRel G y yv) (e : eqIfc (tkOf P) lit x y = some r) :
    (binOp .eql t xv yv).run P w = .ok (.bool r) w ∧ (binOp .neq t xv yv).run P w = .ok (.bool (!r)) w ∧ (xv = .nilIface → yv = .nilIface → lit = true) ∧ ∀ c, xv ≠ .agg c := by
  have key : (Op.equal t xv yv).run P w = .ok r w ∧ (xv = .nilIface → yv = .nilIface → lit = true) ∧ (xv = .nilIface ∨ ∃ u z, xv = .iface u z) := by
    unfold eqIfc at e
    split at e
    · cases X; cases Y
      split at e
      · rename_i h; cases e
        exact ⟨by rw [equal_unf, Op.equalIn]; simp [run_underlying' hu], fun _ _ => rfl, .inl rfl⟩
      · cases e
    · cases X; cases Y; cases e
      exact ⟨by rw [equal_unf, Op.equalIn]; simp [run_underlying' hu], fun _ h => (by cases h), .inl rfl⟩
    · cases X; cases Y; cases e
      exact ⟨by rw [equal_unf, Op.equalIn]; simp [run_underlying' hu], fun h _ => (by cases h), .inr ⟨_, _, rfl⟩⟩
    · cases X with
      | iface X =>
        cases Y with
        | iface Y =>
          refine ⟨?_, fun h _ => (by cases h), .inr ⟨_, _, rfl⟩⟩
          rename_i tx _ ty _ xv yv
          split at e
          · rename_i h
            have hne := beq_ff.1 h
            cases e
            rw [equal_unf, Op.equalIn]
            simp [run_underlying' hu, hne]
          · rename_i h
            have heq := beq_iff.1 h
            subst heq
            have hgo : ∀ i, P.info? tx = some i → i.comparable = true → (Op.equalIn 9999 tx xv yv).run P w = .ok r w → (Op.equal t (.iface tx xv) (.iface tx yv)).run P w = .ok r w := fun i hi hc hr => by
              have : (Op.equalIn 10000 t (.iface tx xv) (.iface tx yv)).run P w = (Op.equalIn 9999 tx xv yv).run P w := by
                rw [show (10000 : Nat) = 9999 + 1 from rfl, Op.equalIn]
                simp [run_underlying' hu, typeInfo, hi, hc]
              show (Op.equalIn 10000 t _ _).run P w = _
              rw [this]; exact hr
            have htk : tkOf P tx = .other ∨ ∃ i, P.info? tx = some i ∧ i.comparable = true ∧
                ((tkOf P tx = .int ∧ ∃ k, P.underlying tx = some (.int k)) ∨ (tkOf P tx = .str ∧ P.underlying tx = some .string) ∨ (tkOf P tx = .bo ∧ P.underlying tx = some .bool) ∨
                 (tkOf P tx = .ptr ∧ ∃ el j, P.underlying tx = some (.pointer el) ∧ P.info? el = some j ∧ j.size ≠ 0)) := by
              unfold tkOf
              split
              · rename_i i hi
                split
                · exact .inl rfl
                · rename_i hc
                  have hc' : i.comparable = true := by simpa using hc
                  split
                  · rename_i k hk; exact .inr ⟨i, hi, hc', .inl ⟨rfl, k, hk⟩⟩
                  · rename_i hk; exact .inr ⟨i, hi, hc', .inr (.inl ⟨rfl, hk⟩)⟩
                  · rename_i hk; exact .inr ⟨i, hi, hc', .inr (.inr (.inl ⟨rfl, hk⟩))⟩
                  · rename_i el hk
                    split
                    · rename_i j hj
                      split
                      · exact .inl rfl
                      · rename_i hs; exact .inr ⟨i, hi, hc', .inr (.inr (.inr ⟨rfl, el, j, hk, hj, hs⟩))⟩
                    · exact .inl rfl
                  · exact .inl rfl
              · exact .inl rfl
            rcases htk with h0 | ⟨i, hi, hc, hk⟩
            · rw [h0] at e; cases e
            · exact hgo i hi hc (eqTK_in 9998 hk X Y e)
    · cases e
  obtain ⟨k1, k2, k3⟩ := key
  have hne : (∀ k a, xv ≠ .int k a) ∧ (∀ s, xv ≠ .string s) ∧ (∀ k b, xv ≠ .float k b) ∧ (∀ k a b, xv ≠ .complex k a b) := by
    rcases k3 with rfl | ⟨u, z, rfl⟩ <;> exact ⟨by simp, by simp, by simp, by simp⟩
  obtain ⟨a1, a2⟩ := eqBoth hne k1
  exact ⟨a1, a2, k2, fun c => by rcases k3 with rfl | ⟨u, z, rfl⟩ <;> simp⟩
theorem eqNil_val {t : TypeId} (hu : (∃ e, P.underlying t = some (.slice e)) ∨ (∃ k e, P.underlying t = some (.map k e)) ∨ (∃ a b c, P.underlying t = some (.func a b c))) {x y : AV} {xv yv : Value} {r : Bool}
    (X : VRel G x xv) (Y : VRel G y yv) (e : (match P.underlying t with | some (.slice _) => eqSl x y | some (.map _ _) => eqMp x y | _ => eqFn x y) = some r) :
    (binOp .eql t xv yv).run P w = .ok (.bool r) w ∧ (binOp .neq t xv yv).run P w = .ok (.bool (!r)) w := by
  have hk : (Op.equal t xv yv).run P w = .ok r w ∧ ((∀ k a, xv ≠ .int k a) ∧ (∀ s, xv ≠ .string s) ∧ (∀ k b, xv ≠ .float k b) ∧ (∀ k a b, xv ≠ .complex k a b)) := by
    rcases hu with ⟨el, hu⟩ | ⟨k, el, hu⟩ | ⟨a, b, c, hu⟩
    · rw [hu] at e; simp only at e
      unfold eqSl at e
      split at e <;> first | cases e | skip
      all_goals (cases X; cases Y; refine ⟨by rw [equal_unf, Op.equalIn]; simp [run_underlying' hu], ?_⟩; exact ⟨by simp, by simp, by simp, by simp⟩)
    · rw [hu] at e; simp only at e
      unfold eqMp at e
      split at e <;> first | cases e | skip
      all_goals (cases X; cases Y; refine ⟨by rw [equal_unf, Op.equalIn]; simp [run_underlying' hu], ?_⟩; exact ⟨by simp, by simp, by simp, by simp⟩)
    · rw [hu] at e; simp only at e
      unfold eqFn at e
      split at e <;> first | cases e | skip
      all_goals (cases X; cases Y; refine ⟨by rw [equal_unf, Op.equalIn]; simp [run_underlying' hu], ?_⟩; exact ⟨by simp, by simp, by simp, by simp⟩)
  exact eqBoth hk.2 hk.1
end
end Go.Vd

namespace Go.Vd
open Go Go.RowKit

section
variable {P : Program} {H : Hints} {isG : Nat → Bool} {sz : Nat} {ns : Nms} {o : Oper}
theorem guard_other {op : BinOp} (t : TypeId) (x y : Operand) {a b : Value} (w : World) (h1 : a ≠ .nilIface) (h2 : ∀ c, a ≠ .agg c) : (eqGuard op t x y a b).run P w = .ok () w := by
  cases a <;> first | exact absurd rfl h1 | exact absurd rfl (h2 _) | (cases op <;> simp [eqGuard])
theorem guard_ifc {op : BinOp} (t : TypeId) (x y : Operand) {a b : Value} (w : World) (h1 : a = .nilIface → b = .nilIface → (isConstO x || isConstO y) = true) (h2 : ∀ c, a ≠ .agg c) : (eqGuard op t x y a b).run P w = .ok () w := by
  by_cases h : a = .nilIface
  · subst h
    by_cases hb : b = .nilIface
    · subst hb
      have := h1 rfl rfl
      have hc : (∃ v, x = .const v) ∨ (∃ v, y = .const v) := by
        cases x <;> cases y <;> first | (cases this; done) | exact .inl ⟨_, rfl⟩ | exact .inr ⟨_, rfl⟩
      rcases hc with ⟨v, rfl⟩ | ⟨v, rfl⟩ <;> cases op <;> simp [eqGuard]
    · cases b <;> first | exact absurd rfl hb | (cases op <;> simp [eqGuard])
  · exact guard_other t x y w h h2
theorem eq_core {neg : Bool} {t u : TypeId} {p q : Operand} {k : EqK} {x y : OpdR} (hop : o.op = .binOp (if neg then .neq else .eql) t p q u) (hx : compOpd H ns p = some x) (hy : compOpd H ns q = some y)
    (hk : ∀ (G : Gh) (w : World) (v z : AV) (vv zv : Value) (r : Bool), VRel G v vv → VRel G z zv → eqAV (tkOf P) k v z = some r →
      (binOp .eql t vv zv).run P w = .ok (.bool r) w ∧ (binOp .neq t vv zv).run P w = .ok (.bool (!r)) w ∧ (vv = .nilIface → zv = .nilIface → (isConstO p || isConstO q) = true) ∧ ∀ c, vv ≠ .agg c) :
    ValS P H isG sz ns o (oEq (tkOf P) neg k x y) :=
  ValS.pure2 (k := oEq (tkOf P) neg k) hx hy (fun v z => match eqAV (tkOf P) k v z with | some r => some (.bool (negB neg r)) | none => none)
    (fun cf g l h => by
      unfold oEq
      cases x g l with
      | none => rfl
      | some v => cases y g l with
        | none => rfl
        | some z => simp only; cases eqAV (tkOf P) k v z <;> rfl)
    fun G a w v z r V Z e => by
      cases hr : eqAV (tkOf P) k v z with
      | none => rw [hr] at e; cases e
      | some b =>
        rw [hr] at e; cases e
        obtain ⟨h1, h2, h3, h4⟩ := hk G w v z _ _ b V Z hr
        cases neg with
        | true => exact ⟨.bool (!b), by simp only [if_true] at hop; simp [execOp, hop, guard_ifc (P := P) (op := .neq) t p q w h3 h4, h2], .bool _⟩
        | false => exact ⟨.bool b, by simp only [if_false, Bool.false_eq_true] at hop; simp [execOp, hop, guard_ifc (P := P) (op := .eql) t p q w h3 h4, h1], .bool _⟩
theorem eq_s {neg : Bool} {t u : TypeId} {p q : Operand} {r : OpR} (hop : o.op = .binOp (if neg then .neq else .eql) t p q u) (h : compEq P H ns neg t p q = some r) : ValS P H isG sz ns o r := by
  unfold compEq at h
  split at h
  · rename_i k x y hk hx hy
    cases h
    unfold eqk1 at hk
    have other : ∀ {v z : AV} {vv zv : Value} {G : Gh}, VRel G v vv → (∀ t a, v ≠ .iface t a) → v ≠ .nili → (∀ c, v ≠ .agg c) → (vv = .nilIface → zv = .nilIface → (isConstO p || isConstO q) = true) ∧ ∀ c, vv ≠ .agg c := by
      intro v z vv zv G V h1 h2 h3
      cases V <;> first | exact absurd rfl (h1 _ _) | exact absurd rfl h2 | exact absurd rfl (h3 _) | exact ⟨by simp, by simp⟩
    split at hk
    · rename_i hu; cases hk
      refine eq_core hop hx hy fun G w v z vv zv b V Z e => ?_
      have e : eqBo v z = some b := by cases v <;> cases z <;> exact e
      obtain ⟨a1, a2⟩ := eqBo_val (P := P) (w := w) hu V Z e
      have := other (z := z) (zv := zv) V (by rintro t a rfl; simp [eqBo] at e) (by rintro rfl; simp [eqBo] at e) (by rintro c rfl; simp [eqBo] at e)
      exact ⟨a1, a2, this⟩
    · rename_i hu; cases hk
      refine eq_core hop hx hy fun G w v z vv zv b V Z e => ?_
      have e : eqSc v z = some b := by cases v <;> cases z <;> exact e
      obtain ⟨a1, a2⟩ := eqSc_val (P := P) (w := w) (t := t) V Z e
      have := other (z := z) (zv := zv) V (by rintro t a rfl; simp [eqSc] at e) (by rintro rfl; simp [eqSc] at e) (by rintro c rfl; simp [eqSc] at e)
      exact ⟨a1, a2, this⟩
    · rename_i hu; cases hk
      refine eq_core hop hx hy fun G w v z vv zv b V Z e => ?_
      have e : eqSc v z = some b := by cases v <;> cases z <;> exact e
      obtain ⟨a1, a2⟩ := eqSc_val (P := P) (w := w) (t := t) V Z e
      have := other (z := z) (zv := zv) V (by rintro t a rfl; simp [eqSc] at e) (by rintro rfl; simp [eqSc] at e) (by rintro c rfl; simp [eqSc] at e)
      exact ⟨a1, a2, this⟩
    · rename_i el hu
      split at hk
      · rename_i i hi
        split at hk
        · cases hk
        · rename_i hs
          cases hk
          refine eq_core hop hx hy fun G w v z vv zv b V Z e => ?_
          have e : eqPtr v z = some b := by cases v <;> cases z <;> exact e
          obtain ⟨a1, a2⟩ := eqPtr_val (P := P) (w := w) hu hi hs V Z e
          have := other (z := z) (zv := zv) V (by rintro t a rfl; simp [eqPtr] at e) (by rintro rfl; simp [eqPtr] at e) (by rintro c rfl; simp [eqPtr] at e)
          exact ⟨a1, a2, this⟩
      · cases hk
    · rename_i el hu; cases hk
      refine eq_core hop hx hy fun G w v z vv zv b V Z e => ?_
      have e : eqSl v z = some b := by cases v <;> cases z <;> exact e
      obtain ⟨a1, a2⟩ := eqNil_val (P := P) (w := w) (.inl ⟨el, hu⟩) V Z (by rw [hu]; exact e)
      have := other (z := z) (zv := zv) V (by rintro t a rfl; simp [eqSl] at e) (by rintro rfl; simp [eqSl] at e) (by rintro c rfl; simp [eqSl] at e)
      exact ⟨a1, a2, this⟩
    · rename_i k' el hu; cases hk
      refine eq_core hop hx hy fun G w v z vv zv b V Z e => ?_
      have e : eqMp v z = some b := by cases v <;> cases z <;> exact e
      obtain ⟨a1, a2⟩ := eqNil_val (P := P) (w := w) (.inr (.inl ⟨k', el, hu⟩)) V Z (by rw [hu]; exact e)
      have := other (z := z) (zv := zv) V (by rintro t a rfl; simp [eqMp] at e) (by rintro rfl; simp [eqMp] at e) (by rintro c rfl; simp [eqMp] at e)
      exact ⟨a1, a2, this⟩
    · rename_i a0 b0 c0 hu; cases hk
      refine eq_core hop hx hy fun G w v z vv zv b V Z e => ?_
      have e : eqFn v z = some b := by cases v <;> cases z <;> exact e
      obtain ⟨a1, a2⟩ := eqNil_val (P := P) (w := w) (.inr (.inr ⟨a0, b0, c0, hu⟩)) V Z (by rw [hu]; exact e)
      have := other (z := z) (zv := zv) V (by rintro t a rfl; simp [eqFn] at e) (by rintro rfl; simp [eqFn] at e) (by rintro c rfl; simp [eqFn] at e)
      exact ⟨a1, a2, this⟩
    · rename_i ms hu; cases hk
      refine eq_core hop hx hy fun G w v z vv zv b V Z e => ?_
      have e : eqIfc (tkOf P) (isConstO p || isConstO q) v z = some b := by cases v <;> cases z <;> exact e
      exact eqIfc_val (P := P) (w := w) hu V Z e
    · cases hk
  · cases h

/-! ## parts -/
theorem mkif_s {t : TypeId} {d : TypeDesc} {q : Operand} {x : OpdR} (hop : o.op = .makeInterface t q) (hu : P.underlying t = some d) (hd : ∀ ms, d ≠ .interface ms) (hx : compOpd H ns q = some x) : ValS P H isG sz ns o (oMkif t x) :=
  ValS.pure1 (k := oMkif t) hx (fun _ v => some (.iface t v)) (fun cf g l h => by unfold oMkif; cases x g l <;> rfl) fun B0 W G h a w v u R V e => by
    cases e
    refine ⟨.iface t (a.eval q), ?_, .iface V⟩
    simp only [execOp, hop, Sem.run_bind, Instr.makeInterface, run_underlying' hu, Result.andThen_ok]
    cases d <;> first | exact absurd rfl (hd _) | rfl
theorem mkfn_s {f : Nat} {first cs : Array Operand} {xs : List OpdR} (hop : o.op = .makeFunc (.func f) first cs) (hf : first.isEmpty = true) (hx : compOpds H ns cs = some xs) : ValS P H isG sz ns o (oMkfn f xs) := by
  intro cf B0 W G g l h a w R X
  unfold oMkfn
  cases hv : opds xs g l with
  | none => trivial
  | some vs =>
    have V := X.opds hx hv
    have hf' : first = #[] := by simpa using hf
    subst hf'
    refine ⟨G, .func (.func f) #[] (cs.map a.eval), w, by simp [execOp, hop, Instr.makeFunc], Stp.refl R, .func (by simpa using V)⟩
theorem extr_s {i : Nat} {q : Operand} {x : OpdR} (hop : o.op = .extract q i) (hx : compOpd H ns q = some x) : ValS P H isG sz ns o (oExtr i x) :=
  ValS.pure1 (k := oExtr i) hx (fun _ v => match v with | .tup vs => lget vs i | _ => none) (fun cf g l h => by unfold oExtr; cases x g l with | none => rfl | some v => cases v <;> rfl) fun B0 W G h a w v u R V e => by
    split at e
    · generalize hq : a.eval q = qv at V
      cases V with
      | tup V =>
        rename_i ws
        rw [lget_eq] at e
        obtain ⟨v', hv, V'⟩ := V.get i u e
        refine ⟨v', ?_, V'⟩
        have : ws[i]? = some v' := by simpa using hv
        simp [execOp, hop, hq, Instr.extract, this]
    · cases e
theorem faddr_s {s : TypeId} {i : Nat} {fs : Array Field} {fl : Field} {n : Nat} {q : Operand} {x : OpdR} (hop : o.op = .fieldAddr s q i) (hu : P.underlying s = some (.struct fs)) (hf : fs[i]? = some fl)
    (hn : sizeA P fl.type = some (n + 1)) (hx : compOpd H ns q = some x) : ValS P H isG sz ns o (oFaddr fl.offset x) :=
  ValS.pure1 (k := oFaddr fl.offset) hx (fun _ v => match v with | .imm fs o => some (.imm fs (Nat.add o fl.offset)) | .ptr b o gn => some (.ptr b (Nat.add o fl.offset) gn) | _ => none)
    (fun cf g l h => by unfold oFaddr; cases x g l with | none => rfl | some v => cases v <;> rfl) fun B0 W G h a w v u R V e => by
    have hsz : (sizeOf fl.type).run P w = .ok (n + 1) w := by
      unfold sizeA at hn
      cases hi : P.info? fl.type with
      | none => rw [hi] at hn; cases hn
      | some i => rw [hi] at hn; rw [info_size hi]; simp at hn; rw [hn]
    have hgo : ∀ c s', a.eval q = .pointer (some ⟨c, s', none⟩) → (execOp a.eval o).run P w = .ok (.value (.pointer (some ⟨c, s' + fl.offset, none⟩))) w := fun c s' hq => by
      simp only [execOp, hop, hq, Instr.fieldAt, Sem.run_bind, run_underlying' hu, Result.andThen_ok, hf, Instr.sureAddr, Sem.run_pure, fieldPlace, hsz]
      simp [addr_add]
    split at e
    · cases e
      generalize hq : a.eval q = qv at V
      cases V with
      | imm hz hv => exact ⟨_, hgo _ _ hq, by rw [Nat.add_assoc]; exact .imm hz hv⟩
    · cases e
      rename_i b off gn
      generalize hq : a.eval q = qv at V
      cases V with
      | ptr hb hl =>
        rename_i p
        refine ⟨_, hgo _ _ hq, ?_⟩
        have := VRel.ptr (o := off + fl.offset) hb (by omega)
        rw [show p.off + (off - p.lo) + fl.offset = p.off + (off + fl.offset - p.lo) by omega]
        exact this
    · cases e
theorem run_part {t : TypeId} {n : Option Nat} (hn : aggN P t = some n) {G : Gh} {w : World} {cs r : List AV} {vs : Array Value} (V : VRels G cs vs.toList) {off : Nat} (hp : lpart cs off (n.getD 1) = some r) {u : AV} (e : asVal n r = some u) :
    ∃ v, (part t vs off).run P w = .ok v w ∧ VRel G u v := by
  obtain ⟨hle, rfl⟩ := lpart_some hp
  have hlen := V.length
  have V' := (V.drop off).take (n.getD 1)
  unfold aggN at hn
  split at hn
  · rename_i i fs hi hu
    cases hn
    simp only [asVal] at e; cases e
    refine ⟨.agg (vs.extract off (off + i.size)), ?_, .agg ?_⟩
    · simp [part, isAgg, underlying, hu, sizeOf, typeInfo, hi]
    · simpa [Array.toList_extract, List.extract] using V'
  · rename_i i k el hi hu
    cases hn
    simp only [asVal] at e; cases e
    refine ⟨.agg (vs.extract off (off + i.size)), ?_, .agg ?_⟩
    · simp [part, isAgg, underlying, hu, sizeOf, typeInfo, hi]
    · simpa [Array.toList_extract, List.extract] using V'
  · rename_i i d h1 h2 hi hu
    cases hn
    have hle' : off + 1 ≤ cs.length := hle
    obtain ⟨a, ha⟩ : ∃ a, cs[off]? = some a := ⟨_, List.getElem?_eq_getElem (by omega)⟩
    have hr : (cs.drop off).take 1 = [a] := by
      rw [List.getElem?_eq_getElem (by omega)] at ha
      cases ha
      rw [List.drop_eq_getElem_cons (by omega)]; rfl
    have e' : asVal none ((cs.drop off).take 1) = some u := e
    rw [hr] at e'
    simp only [asVal] at e'; cases e'
    obtain ⟨v, hv, V2⟩ := V.get off u ha
    refine ⟨v, ?_, V2⟩
    have hna : (isAgg t).run P w = .ok false w := by
      simp only [isAgg, Sem.run_bind, underlying, run_program, Result.andThen_ok, hu]
      cases d <;> simp_all
    have : vs[off]? = some v := by simpa using hv
    simp only [part, Sem.run_bind, hna, Result.andThen_ok, this]
    rfl
  · cases hn
theorem fld_s {s : TypeId} {i : Nat} {fs : Array Field} {fl : Field} {n : Option Nat} {q : Operand} {x : OpdR} (hop : o.op = .field s q i) (hu : P.underlying s = some (.struct fs)) (hf : fs[i]? = some fl)
    (hn : aggN P fl.type = some n) (hx : compOpd H ns q = some x) : ValS P H isG sz ns o (oFld fl.offset n x) :=
  ValS.pure1 (k := oFld fl.offset n) hx (fun _ v => match v with | .agg cs => (match lpart cs fl.offset (n.getD 1) with | some r => asVal n r | none => none) | _ => none)
    (fun cf g l h => by unfold oFld; cases x g l with | none => rfl | some v => cases v <;> first | rfl | (simp only; cases lpart _ fl.offset (n.getD 1) <;> rfl)) fun B0 W G h a w v u R V e => by
    split at e
    · split at e
      · rename_i cs r hr
        generalize hq : a.eval q = qv at V
        cases V with
        | agg V =>
          obtain ⟨v', hv, V'⟩ := run_part (P := P) (w := w) hn V hr e
          exact ⟨v', by simp [execOp, hop, hq, Instr.field, run_underlying' hu, hf, asAgg, hv], V'⟩
      · cases e
    · cases e
theorem nilchk_s {q : Operand} {x : OpdR} (hop : o.op = .nilCheck q) (hx : compOpd H ns q = some x) : ValS P H isG sz ns o (oNilchk x) :=
  ValS.pure1 (k := oNilchk) hx (fun _ v => match notNil v with | true => some v | false => none) (fun cf g l h => by unfold oNilchk; cases x g l with | none => rfl | some v => simp only; cases notNil v <;> rfl) fun B0 W G h a w v u R V e => by
    split at e
    · rename_i hn
      cases e
      have V0 := V
      generalize hq : a.eval q = qv at V
      have : (execOp a.eval o).run P w = .ok (.value qv) w := by
        cases V <;> first | (simp [notNil] at hn; done) | simp [execOp, hop, hq]
      exact ⟨qv, this, hq ▸ V0⟩
    · cases e
end
end Go.Vd

namespace Go.Vd
open Go Go.RowKit

theorem natOf_some {v : AV} {n : Nat} (h : natOf v = some n) : ∃ k, v = .int k (Int.ofNat n) := by
  unfold natOf at h
  split at h
  · cases h; exact ⟨_, rfl⟩
  · cases h
/-- A bound that is there, or isn't. -/
def BndS (n : Option Nat) (v : Option Value) : Prop :=
  match n with
  | none => v = none
  | some n => ∃ k, v = some (.int k (Int.ofNat n))
section
variable {H : Hints} {isG : Nat → Bool} {sz : Nat} {G : Gh} {ns : Nms} {g : PT AV} {l : List AV} {a : Act}
theorem Env.opdN (X : Env H isG sz G ns g l a) {q : Operand} {x : OpdR} (h : compOpd H ns q = some x) {n : Nat} (e : Go.Vd.opdN x g l = some n) : ∃ k, a.eval q = .int k (Int.ofNat n) := by
  unfold Go.Vd.opdN at e
  split at e
  · rename_i v hv
    obtain ⟨k, rfl⟩ := natOf_some e
    have V := X.opd h hv
    generalize a.eval q = z at V
    cases V
    exact ⟨k, rfl⟩
  · cases e
theorem Env.opdO (X : Env H isG sz G ns g l a) {q : Option Operand} {x : Option OpdR} (h : compOpdO H ns q = some x) {n : Option Nat} (e : Go.Vd.opdO x g l = some n) :
    BndS n (q.map a.eval) := by
  cases q with
  | none => cases h; cases e; rfl
  | some q =>
    simp only [compOpdO] at h
    split at h
    · rename_i y hy
      cases h
      simp only [Go.Vd.opdO] at e
      split at e
      · rename_i m hm
        cases e
        obtain ⟨k, hk⟩ := X.opdN hy hm
        exact ⟨k, by simp [hk]⟩
      · cases e
    · cases h
end
section
variable {P : Program} {H : Hints} {isG : Nat → Bool} {sz : Nat} {ns : Nms} {o : Oper}
theorem size_of {t : TypeId} {n : Nat} (h : sizeA P t = some n) (w : World) : (sizeOf t).run P w = .ok n w := by
  unfold sizeA at h
  cases hi : P.info? t with
  | none => rw [hi] at h; cases h
  | some i => rw [hi] at h; rw [info_size hi]; simp at h; rw [h]
/-- An operand and an index. -/
theorem ValS.index {p q : Operand} {x i : OpdR} {k : OpdR → OpdR → OpR} (hx : compOpd H ns p = some x) (hi : compOpd H ns q = some i) (F : AV → Nat → Option AV)
    (hk : ∀ cf g l h, k x i cf g l h = match x g l, opdN i g l with | some v, some n => .of h (F v n) | _, _ => .fail)
    (ho : ∀ (G : Gh) (a : Act) (w : World) (v u : AV) (n : Nat) (kd : IntKind), VRel G v (a.eval p) → a.eval q = .int kd (Int.ofNat n) → F v n = some u → ∃ v', (execOp a.eval o).run P w = .ok (.value v') w ∧ VRel G u v') :
    ValS P H isG sz ns o (k x i) := by
  intro cf B0 W G g l h a w R X
  rw [hk]
  cases hv : x g l with
  | none => trivial
  | some v =>
    cases hn : opdN i g l with
    | none => trivial
    | some n =>
      simp only
      cases hf : F v n with
      | none => trivial
      | some u =>
        obtain ⟨kd, hq⟩ := X.opdN hi hn
        obtain ⟨v', hr, V⟩ := ho G a w v u n kd (X.opd hx hv) hq hf
        exact ⟨G, v', w, hr, Stp.refl R, V⟩
theorem slk_some {t : TypeId} {k : SlK} (h : slk P t = some k) : (k = .str ∧ P.underlying t = some .string) ∨ (∃ e n, k = .sl n ∧ P.underlying t = some (.slice e) ∧ sizeA P e = some n) ∨
    (∃ e n m, k = .arr m n ∧ P.underlying t = some (.array m e) ∧ sizeA P e = some n) := by
  unfold slk at h
  split at h
  · rename_i hu; cases h; exact .inl ⟨rfl, hu⟩
  · rename_i e hu
    split at h
    · rename_i n hn; cases h; exact .inr (.inl ⟨e, n, rfl, hu, hn⟩)
    · cases h
  · rename_i m e hu
    split at h
    · rename_i n hn; cases h; exact .inr (.inr ⟨e, n, m, rfl, hu, hn⟩)
    · cases h
  · cases h
theorem iaddr_s {t : TypeId} {k : SlK} {p q : Operand} {x i : OpdR} (hop : o.op = .indexAddr t p q) (hk : slk P t = some k) (hx : compOpd H ns p = some x) (hi : compOpd H ns q = some i) : ValS P H isG sz ns o (oIaddr k x i) :=
  ValS.index (k := oIaddr k) hx hi (iaddrAV k) (fun cf g l h => rfl) fun G a w v u n kd V hq e => by
    have hlt : ∀ m : Nat, n < m → (0 ≤ Int.ofNat n ∧ Int.ofNat n < (m : Int)) := fun m h => ⟨Int.natCast_nonneg _, by simpa using h⟩
    unfold iaddrAV at e
    split at e
    · rename_i esz b off gn len cap e' ex
      split at e
      · rename_i h1 h2
        cases e
        obtain rfl : esz = e' := (beq_iff.1 h1).symm
        have hn : n < len := ble_iff.1 h2
        rcases slk_some hk with ⟨h, _⟩ | ⟨el, s, h, hu, hs⟩ | ⟨el, s, m, h, _⟩ <;> first | cases h | skip
        have hsz := size_of hs w
        generalize hv : a.eval p = pv at V
        cases V with
        | slice hb hl k1 k2 hxx ha hnn hss =>
          rename_i cap' pl ad
          have had : ad = ⟨pl.c, pl.off + (off - pl.lo), none⟩ := by
            rcases ha with q | q
            · omega
            · exact q
          subst had
          have hmul : n * esz + esz ≤ cap * esz := by
            have : (n + 1) * esz ≤ cap * esz := Nat.mul_le_mul_right _ (by omega)
            rw [Nat.add_mul] at this; omega
          refine ⟨.pointer (some ⟨pl.c, pl.off + (off - pl.lo) + n * esz, none⟩), ?_, ?_⟩
          · simp only [execOp, hop, Instr.indexAt, hv, hq, asIntOf, Sem.run_bind, Sem.run_pure, Result.andThen_ok, run_underlying' hu, hlt _ hn, and_self, if_true, hsz]
            simp [addr_add]
          · have := VRel.ptr (o := off + n * esz) hb (by omega)
            rw [show pl.off + (off - pl.lo) + n * esz = pl.off + (off + n * esz - pl.lo) by omega]
            exact this
      · cases e
    · rename_i esz fs off len e' ex
      split at e
      · rename_i h1 h2
        cases e
        obtain rfl : esz = e' := (beq_iff.1 h1).symm
        have hn : n < len := ble_iff.1 h2
        rcases slk_some hk with ⟨h, _⟩ | ⟨el, s, h, hu, hs⟩ | ⟨el, s, m, h, _⟩ <;> first | cases h | skip
        have hsz := size_of hs w
        generalize hv : a.eval p = pv at V
        cases V with
        | fl hz hvv hf hc hxx ha =>
          rename_i c base cap vs ad
          have had : ad = ⟨c, base + off, none⟩ := by
            rcases ha with q | q
            · omega
            · exact q
          subst had
          refine ⟨.pointer (some ⟨c, base + off + n * esz, none⟩), ?_, ?_⟩
          · simp only [execOp, hop, Instr.indexAt, hv, hq, asIntOf, Sem.run_bind, Sem.run_pure, Result.andThen_ok, run_underlying' hu, hlt _ hn, and_self, if_true, hsz]
            simp [addr_add]
          · rw [Nat.add_assoc]; exact .imm hz hvv
      · cases e
    · rename_i m esz b off gn
      split at e
      · rename_i h2
        cases e
        have hn : n < m := ble_iff.1 h2
        rcases slk_some hk with ⟨h, _⟩ | ⟨el, s, h, _⟩ | ⟨el, s, m', h, hu, hs⟩ <;> first | cases h | skip
        have hsz := size_of hs w
        generalize hv : a.eval p = pv at V
        cases V with
        | ptr hb hl =>
          rename_i pl
          refine ⟨.pointer (some ⟨pl.c, pl.off + (off - pl.lo) + n * esz, none⟩), ?_, ?_⟩
          · simp only [execOp, hop, Instr.indexAt, hv, hq, asIntOf, Sem.run_bind, Sem.run_pure, Result.andThen_ok, run_underlying' hu, Instr.sureAddr, hlt _ hn, and_self, if_true, hsz]
            simp [addr_add]
          · have := VRel.ptr (o := off + n * esz) hb (by omega)
            rw [show pl.off + (off - pl.lo) + n * esz = pl.off + (off + n * esz - pl.lo) by omega]
            exact this
      · cases e
    · rename_i m esz fs off
      split at e
      · rename_i h2
        cases e
        have hn : n < m := ble_iff.1 h2
        rcases slk_some hk with ⟨h, _⟩ | ⟨el, s, h, _⟩ | ⟨el, s, m', h, hu, hs⟩ <;> first | cases h | skip
        have hsz := size_of hs w
        generalize hv : a.eval p = pv at V
        cases V with
        | imm hz hvv =>
          rename_i c base vs
          refine ⟨.pointer (some ⟨c, base + off + n * esz, none⟩), ?_, ?_⟩
          · simp only [execOp, hop, Instr.indexAt, hv, hq, asIntOf, Sem.run_bind, Sem.run_pure, Result.andThen_ok, run_underlying' hu, Instr.sureAddr, hlt _ hn, and_self, if_true, hsz]
            simp [addr_add]
          · rw [Nat.add_assoc]; exact .imm hz hvv
      · cases e
    · cases e
theorem idx_s {t el : TypeId} {m s : Nat} {ag : Option Nat} {p q : Operand} {x i : OpdR} (hop : o.op = .index t p q) (hu : P.underlying t = some (.array m el)) (hs : sizeA P el = some s) (hag : aggN P el = some ag)
    (hx : compOpd H ns p = some x) (hi : compOpd H ns q = some i) : ValS P H isG sz ns o (oIdx s ag m x i) :=
  ValS.index (k := oIdx s ag m) hx hi (fun v n => match v with | .agg cs => (match Nat.ble (Nat.succ n) m, lpart cs (Nat.mul n s) (ag.getD 1) with | true, some r => asVal ag r | _, _ => none) | _ => none)
    (fun cf g l h => by
      unfold oIdx
      cases x g l with
      | none => rfl
      | some v => cases hn : opdN i g l with
        | none => cases v <;> rfl
        | some n => cases v <;> first | rfl | (simp only; cases Nat.ble (Nat.succ n) m <;> cases lpart _ (Nat.mul n s) (ag.getD 1) <;> rfl)) fun G a w v u n kd V hq e => by
    split at e
    · split at e
      · rename_i cs r h1 h2
        have hn : n < m := ble_iff.1 h1
        generalize hv : a.eval p = pv at V
        cases V with
        | agg V =>
          obtain ⟨v', hr, V'⟩ := run_part (P := P) (w := w) hag V h2 e
          refine ⟨v', ?_, V'⟩
          have hlt : (0 ≤ Int.ofNat n ∧ Int.ofNat n < (m : Int)) := ⟨Int.natCast_nonneg _, by simpa using hn⟩
          have hr' : (part el _ (n * s)).run P w = .ok v' w := hr
          simp only [execOp, hop, Instr.index, hv, hq, asIntOf, Sem.run_bind, Sem.run_pure, Result.andThen_ok, run_underlying' hu, hlt, and_self, if_true, size_of hs w]
          simp [hr']
      · cases e
    · cases e
theorem sidx_s {t : TypeId} {p q : Operand} {x i : OpdR} (hop : o.op = .index t p q) (hu : P.underlying t = some .string) (hx : compOpd H ns p = some x) (hi : compOpd H ns q = some i) : ValS P H isG sz ns o (oSidx x i) :=
  ValS.index (k := oSidx) hx hi (fun v n => match v with | .str s => (match lget s n with | some c => some (.int .u8 (Int.ofNat c)) | none => none) | _ => none)
    (fun cf g l h => by
      unfold oSidx
      cases x g l with
      | none => rfl
      | some v => cases hn : opdN i g l with
        | none => cases v <;> rfl
        | some n => cases v <;> first | rfl | (simp only; cases lget _ n <;> rfl)) fun G a w v u n kd V hq e => by
    split at e
    · split at e
      · rename_i s c hc
        cases e
        generalize hv : a.eval p = pv at V
        cases V with
        | str bs =>
          rw [lget_eq] at hc
          have hlt : n < (bytesN bs).length := by
            rcases Nat.lt_or_ge n (bytesN bs).length with q | q
            · exact q
            · rw [List.getElem?_eq_none q] at hc; cases hc
          have hlt' : n < bs.size := by rw [← bytesN_len]; exact hlt
          have hb : bs[n]? = some bs[n] := ByteArray.getElem?_lt' bs n hlt'
          have hcb : c = (bs[n]).toNat := by
            rw [List.getElem?_eq_getElem hlt] at hc
            cases hc
            simp only [bytesN, List.getElem_map, Array.getElem_toList]
            rfl
          refine ⟨.int .u8 (bs[n]).toNat, ?_, by rw [hcb]; exact .int _ _⟩
          have h0 : (0 : Int) ≤ Int.ofNat n := Int.natCast_nonneg _
          simp only [execOp, hop, Instr.index, hv, hq, asIntOf, Sem.run_bind, Sem.run_pure, Result.andThen_ok, run_underlying' hu, h0, if_true]
          have : (Int.ofNat n).toNat = n := rfl
          rw [this, hb]
          rfl
      · cases e
    · cases e
/-- A built-in of one argument. -/
theorem lenStr_s {b : Call} {t : TypeId} {q : Operand} {x : OpdR} (hop : o.op = .call b) (hb : b.callee = .builtin .len) (ha : b.args.toList = [q]) (ht : b.argTypes[0]? = some t)
    (hu : P.underlying t = some .string) (hx : compOpd H ns q = some x) : ValS P H isG sz ns o (oLenStr x) :=
  ValS.pure1 (k := oLenStr) hx (fun _ v => lenStr v) (fun cf g l h => rfl) fun B0 W G h a w v u R V e => by
    have ha' : b.args = #[q] := by rw [← Array.toArray_toList (xs := b.args), ha]
    unfold lenStr at e
    split at e
    · cases e
      generalize hq : a.eval q = qv at V
      cases V with
      | str bs =>
        refine ⟨.int .i64 bs.size, ?_, by rw [llen_eq, bytesN_len]; exact .int _ _⟩
        simp [execOp, hop, resolve, hb, ha', invoke, builtin, Builtin.len_, ht, hq, run_underlying' hu, goInt]
    · cases e
theorem lenSl_s {b : Call} {t el : TypeId} {q : Operand} {x : OpdR} (hop : o.op = .call b) (hb : b.callee = .builtin .len) (ha : b.args.toList = [q]) (ht : b.argTypes[0]? = some t)
    (hu : P.underlying t = some (.slice el)) (hx : compOpd H ns q = some x) : ValS P H isG sz ns o (oLenSl x) :=
  ValS.pure1 (k := oLenSl) hx (fun _ v => lenSl v) (fun cf g l h => rfl) fun B0 W G h a w v u R V e => by
    have ha' : b.args = #[q] := by rw [← Array.toArray_toList (xs := b.args), ha]
    have hgo : ∀ ad n c, a.eval q = .slice ad n c → (execOp a.eval o).run P w = .ok (.value (.int .i64 n)) w := fun ad n c hq => by
      simp [execOp, hop, resolve, hb, ha', invoke, builtin, Builtin.len_, ht, hq, run_underlying' hu, goInt]
    unfold lenSl at e
    generalize hq : a.eval q = qv at V
    split at e <;> first | (cases e; done) | skip
    · cases e; cases V; exact ⟨_, hgo _ _ _ hq, .int _ _⟩
    · cases e; cases V; exact ⟨_, hgo _ _ _ hq, .int _ _⟩
    · cases e; cases V; exact ⟨_, hgo _ _ _ hq, .int _ _⟩
theorem lenArr_s {b : Call} {t el : TypeId} {n : Nat} {q : Operand} (hop : o.op = .call b) (hb : b.callee = .builtin .len) (ha : b.args.toList = [q]) (ht : b.argTypes[0]? = some t)
    (hu : P.underlying t = some (.array n el)) : ValS P H isG sz ns o (oMov (xC (.int .i64 (Int.ofNat n)))) := by
  intro cf B0 W G g l h a w R X
  have ha' : b.args = #[q] := by rw [← Array.toArray_toList (xs := b.args), ha]
  exact ⟨G, .int .i64 n, w, by simp [execOp, hop, resolve, hb, ha', invoke, builtin, Builtin.len_, ht, run_underlying' hu, goInt], Stp.refl R, .int _ _⟩

/-! ## slices of slices -/
theorem run_sliceBounds {isSlice : Bool} {len cap : Nat} {w : World} {lo hi mx : Option Value} {L Hh M : Option Nat} {l h m : Nat}
    (hlo : BndS L lo) (hhi : BndS Hh hi)
    (hmx : BndS M mx) (h1 : M.getD cap = m) (h2 : m ≤ cap) (h3 : Hh.getD len = h) (h4 : h ≤ m) (h5 : L.getD 0 = l) (h6 : l ≤ h) (h7 : Hh = none → M = none) :
    (Instr.sliceBounds isSlice len cap lo hi mx).run P w = .ok (l, h, m) w := by
  have sb : ∀ (k : IntKind) (n y : Nat) (c : BoundsCode), n ≤ y → (Instr.sliceBound (.int k ((n : Nat) : Int)) y c).run P w = .ok n w := fun k n y c hle => by
    have : (0 ≤ ((n : Nat) : Int) ∧ ((n : Nat) : Int) ≤ (y : Int)) := ⟨Int.natCast_nonneg _, by omega⟩
    simp only [Instr.sliceBound, asIntOf, Sem.run_bind, Sem.run_pure, Result.andThen_ok, this, and_self, if_true]
    rfl
  cases M with
  | none =>
    have hmx : mx = none := hmx
    subst hmx
    simp only [Option.getD_none] at h1; subst h1
    cases Hh with
    | none =>
      have hhi : hi = none := hhi
      subst hhi
      simp only [Option.getD_none] at h3; subst h3
      cases L with
      | none => have hlo : lo = none := hlo; subst hlo; simp only [Option.getD_none] at h5; subst h5; simp [Instr.sliceBounds]
      | some n => obtain ⟨k, rfl⟩ := hlo; simp only [Option.getD_some] at h5; subst h5; simp [Instr.sliceBounds, sb k n len _ h6]
    | some hh =>
      obtain ⟨kh, rfl⟩ := hhi
      simp only [Option.getD_some] at h3; subst h3
      cases L with
      | none => have hlo : lo = none := hlo; subst hlo; simp only [Option.getD_none] at h5; subst h5; simp [Instr.sliceBounds, sb kh hh cap _ h4]
      | some n => obtain ⟨k, rfl⟩ := hlo; simp only [Option.getD_some] at h5; subst h5; simp [Instr.sliceBounds, sb kh hh cap _ h4, sb k n hh _ h6]
  | some mm =>
    obtain ⟨km, rfl⟩ := hmx
    simp only [Option.getD_some] at h1; subst h1
    cases Hh with
    | none => cases h7 rfl
    | some hh =>
      obtain ⟨kh, rfl⟩ := hhi
      simp only [Option.getD_some] at h3; subst h3
      cases L with
      | none => have hlo : lo = none := hlo; subst hlo; simp only [Option.getD_none] at h5; subst h5; simp [Instr.sliceBounds, sb km mm cap _ h2, sb kh hh mm _ h4]
      | some n => obtain ⟨k, rfl⟩ := hlo; simp only [Option.getD_some] at h5; subst h5; simp [Instr.sliceBounds, sb km mm cap _ h2, sb kh hh mm _ h4, sb k n hh _ h6]
theorem bounds_some {len cap : Nat} {ex : Bool} {L Hh M : Option Nat} {l h m : Nat} {ex' : Bool} (e : bounds len cap ex L Hh M = some (l, h, m, ex')) :
    M.getD cap = m ∧ m ≤ cap ∧ Hh.getD len = h ∧ h ≤ m ∧ L.getD 0 = l ∧ l ≤ h ∧ (Hh = none → M = none) ∧ ex' = (ex || M.isSome) := by
  unfold bounds at e
  simp only at e
  split at e
  · rename_i h1 h2 h3 h4
    cases e
    refine ⟨rfl, ble_iff.1 h1, rfl, ble_iff.1 h2, rfl, ble_iff.1 h3, fun h => ?_, rfl⟩
    subst h
    cases M with
    | none => rfl
    | some m => simp at h4
  · cases e
end
end Go.Vd

namespace Go.Vd
open Go Go.RowKit

theorem bytesN_extract (b : ByteArray) (l h : Nat) : bytesN (b.extract l h) = ((bytesN b).drop l).take (h - l) := by
  unfold bytesN
  rw [ByteArray.data_extract, Array.toList_extract, List.extract, List.map_take, List.map_drop]
section
variable {P : Program} {H : Hints} {isG : Nat → Bool} {sz : Nat} {ns : Nms} {o : Oper}
theorem slice_val {t : TypeId} {k : SlK} (hk : slk P t = some k) {G : Gh} {w : World} {x u : AV} {xv : Value} (V : VRel G x xv) {lo hi mx : Option Value} {L Hh M : Option Nat}
    (hlo : BndS L lo) (hhi : BndS Hh hi)
    (hmx : BndS M mx) (e : sliceAV k x L Hh M = some u) : ∃ v, (Instr.sliceAt t xv lo hi mx).run P w = .ok v w ∧ VRel G u v := by
  unfold sliceAV at e
  split at e
  · rename_i s
    rcases slk_some hk with ⟨_, hu⟩ | ⟨_, _, h, _⟩ | ⟨_, _, _, h, _⟩ <;> first | cases h | skip
    cases V with
    | str bs =>
      cases M with
      | some m => cases e
      | none =>
        simp only at e
        have hmx : mx = none := hmx
        subst hmx
        split at e
        · rename_i l h m ex hb
          cases e
          obtain ⟨b1, b2, b3, b4, b5, b6, b7, b8⟩ := bounds_some hb
          rw [llen_eq, bytesN_len] at b1 b2 b3
          simp only [Option.getD_none] at b1
          have hr := run_sliceBounds (P := P) (isSlice := false) (len := bs.size) (cap := bs.size) (w := w) (mx := none) (M := none) hlo hhi rfl b1 b2 b3 b4 b5 b6 (fun _ => rfl)
          refine ⟨.string (bs.extract l h), ?_, ?_⟩
          · simp [Instr.sliceAt, Instr.slice, run_underlying' hu, hr]
          · rw [ltake_eq, ldrop_eq]
            have := VRel.str (G := G) (bs.extract l h)
            rw [bytesN_extract] at this
            exact this
        · cases e
  · rename_i esz b off gn len cap e' ex
    split at e
    · rename_i l h m ex' he hb
      cases e
      obtain rfl : esz = e' := (beq_iff.1 he).symm
      rcases slk_some hk with ⟨h, _⟩ | ⟨el, s, h, hu, hs⟩ | ⟨_, _, _, h, _⟩ <;> first | cases h | skip
      obtain ⟨b1, b2, b3, b4, b5, b6, b7, b8⟩ := bounds_some hb
      cases V with
      | slice hB hl k1 k2 hxx ha hnn hss =>
        rename_i cap' pl ad
        obtain ⟨m', c1, c2, c3⟩ : ∃ m', M.getD cap' = m' ∧ m' ≤ cap' ∧ m ≤ m' := by
          cases M with
          | none => simp only [Option.getD_none] at b1 ⊢; exact ⟨cap', rfl, Nat.le_refl _, by omega⟩
          | some q => simp only [Option.getD_some] at b1 ⊢; exact ⟨q, rfl, by omega, by omega⟩
        have c4 : ex' = true → m' = m := fun hx => by
          rw [b8] at hx
          cases M with
          | none => simp at hx; simp only [Option.getD_none] at b1 c1; have := hxx hx; omega
          | some q => simp only [Option.getD_some] at b1 c1; omega
        have hr := run_sliceBounds (P := P) (isSlice := true) (len := len) (cap := cap') (w := w) hlo hhi hmx c1 c2 b3 (Nat.le_trans b4 c3) b5 b6 b7
        have q1 : l * esz + (m - l) * esz = m * esz := by rw [← Nat.add_mul, Nat.add_sub_cancel' (by omega)]
        have q2 : m * esz ≤ cap * esz := Nat.mul_le_mul_right _ b2
        have q3 : l * esz + (m' - l) * esz = m' * esz := by rw [← Nat.add_mul, Nat.add_sub_cancel' (by omega)]
        have q4 : m' * esz ≤ cap' * esz := Nat.mul_le_mul_right _ c2
        refine ⟨.slice (if m' = l then some ad else some (ad.add (l * esz))) (h - l) (m' - l), ?_, ?_⟩
        · simp [Instr.sliceAt, Instr.slice, run_underlying' hu, hr, size_of hs w]
        · have key : ∀ ad', (m' - l = 0 ∨ ad' = ⟨pl.c, pl.off + (off + l * esz - pl.lo), none⟩) → VRel G (.slice b (off + l * esz) gn (h - l) (m - l) esz ex') (.slice (some ad') (h - l) (m' - l)) := fun ad' had =>
            .slice hB (by omega) (by omega) (by omega) (fun hx => by rw [c4 hx]) had (by omega) (by omega)
          by_cases hm : m' = l
          · rw [if_pos hm]; exact key ad (.inl (by omega))
          · rw [if_neg hm]
            refine key _ (.inr ?_)
            have : ad = ⟨pl.c, pl.off + (off - pl.lo), none⟩ := by
              rcases ha with q | q
              · omega
              · exact q
            rw [this, addr_add]
            simp; omega
    · cases e
  · rename_i esz fs off len e' ex
    split at e
    · rename_i l h m ex' he hb
      obtain rfl : esz = e' := (beq_iff.1 he).symm
      rcases slk_some hk with ⟨h, _⟩ | ⟨el, s, h, hu, hs⟩ | ⟨_, _, _, h, _⟩ <;> first | cases h | skip
      obtain ⟨b1, b2, b3, b4, b5, b6, b7, b8⟩ := bounds_some hb
      cases V with
      | fl hz hvv hf hc hxx ha =>
        rename_i c base cap' vs ad
        obtain ⟨m', c1, c2, c3⟩ : ∃ m', M.getD cap' = m' ∧ m' ≤ cap' ∧ m ≤ m' := by
          cases M with
          | none => simp only [Option.getD_none] at b1 ⊢; exact ⟨cap', rfl, Nat.le_refl _, by omega⟩
          | some q => simp only [Option.getD_some] at b1 ⊢; exact ⟨q, rfl, by omega, by omega⟩
        have c4 : ex' = true → m' = m := fun hx => by
          rw [b8] at hx
          cases M with
          | none => simp at hx; simp only [Option.getD_none] at b1 c1; have := hxx hx; omega
          | some q => simp only [Option.getD_some] at b1 c1; omega
        have hr := run_sliceBounds (P := P) (isSlice := true) (len := len) (cap := cap') (w := w) hlo hhi hmx c1 c2 b3 (Nat.le_trans b4 c3) b5 b6 b7
        have q1 : l * esz + (h - l) * esz = h * esz := by rw [← Nat.add_mul, Nat.add_sub_cancel' (by omega)]
        have q2 : h * esz ≤ len * esz := Nat.mul_le_mul_right _ (by omega)
        have key : ∀ exr, (exr = true → m' = h) → ∀ ad', (m' - l = 0 ∨ ad' = ⟨c, base + (off + l * esz), none⟩) → VRel G (.fl fs (off + l * esz) (h - l) esz exr) (.slice (some ad') (h - l) (m' - l)) := fun exr hexr ad' had =>
            .fl hz hvv (by omega) (by omega) (fun hx => by rw [hexr hx]) had
        have hrun : (Instr.sliceAt t (.slice (some ad) len cap') lo hi mx).run P w = .ok (.slice (if m' = l then some ad else some (ad.add (l * esz))) (h - l) (m' - l)) w := by
          simp [Instr.sliceAt, Instr.slice, run_underlying' hu, hr, size_of hs w]
        have hcl : ∀ exr, (exr = true → m' = h) → VRel G (.fl fs (off + l * esz) (h - l) esz exr) (.slice (if m' = l then some ad else some (ad.add (l * esz))) (h - l) (m' - l)) := fun exr hexr => by
          by_cases hm : m' = l
          · rw [if_pos hm]; exact key exr hexr ad (.inl (by omega))
          · rw [if_neg hm]
            refine key exr hexr _ (.inr ?_)
            have : ad = ⟨c, base + off, none⟩ := by
              rcases ha with q | q
              · omega
              · exact q
            rw [this, addr_add]
            simp; omega
        split at e
        · rename_i hmh
          cases e
          have hmh := beq_iff.1 hmh
          exact ⟨_, hrun, hcl ex' (fun hx => by have := c4 hx; omega)⟩
        · cases e
          exact ⟨_, hrun, hcl false (fun hx => by cases hx)⟩
    · cases e
  · rename_i esz
    split at e
    · rename_i r hb
      cases e
      rcases slk_some hk with ⟨h, _⟩ | ⟨el, s, h, hu, hs⟩ | ⟨_, _, _, h, _⟩ <;> first | cases h | skip
      obtain ⟨l, h, m, ex'⟩ := r
      obtain ⟨b1, b2, b3, b4, b5, b6, b7, b8⟩ := bounds_some hb
      cases V
      have hr := run_sliceBounds (P := P) (isSlice := true) (len := 0) (cap := 0) (w := w) hlo hhi hmx b1 b2 b3 b4 b5 b6 b7
      have e1 : m = 0 := by omega
      have e2 : l = 0 := by omega
      have e3 : h = 0 := by omega
      subst e1; subst e2; subst e3
      exact ⟨_, by simp [Instr.sliceAt, Instr.slice, run_underlying' hu, hr, size_of hs w], .nils⟩
    · cases e
  · cases e
theorem slice_s {t : TypeId} {k : SlK} {q : Operand} {lo hi mx : Option Operand} {x : OpdR} {l' h' m' : Option OpdR} (hop : o.op = .slice t q lo hi mx) (hk : slk P t = some k) (hx : compOpd H ns q = some x)
    (hl : compOpdO H ns lo = some l') (hh : compOpdO H ns hi = some h') (hm : compOpdO H ns mx = some m') : ValS P H isG sz ns o (oSlice k x l' h' m') := by
  intro cf B0 W G g l h a w R X
  unfold oSlice
  split
  · trivial
  · rename_i v hp e
    split at e
    · rename_i xv L Hh M e1 e2 e3 e4
      cases hs : sliceAV k xv L Hh M with
      | none => rw [hs] at e; cases e
      | some u =>
        rw [hs] at e; cases e
        obtain ⟨v', hr, V⟩ := slice_val (P := P) (w := w) hk (X.opd hx e1) (X.opdO hl e2) (X.opdO hh e3) (X.opdO hm e4) hs
        exact ⟨G, v', w, by simp [execOp, hop, hr], Stp.refl R, V⟩
    · cases e
  · rename_i v hp e
    split at e
    · rename_i xv L Hh M e1 e2 e3 e4
      cases hs : sliceAV k xv L Hh M <;> rw [hs] at e <;> cases e
    · cases e
end
end Go.Vd

namespace Go.Vd
open Go Go.RowKit

theorem lsets_cons_zero_nil {α : Type} (x : α) (xs : List α) : lsets (x :: xs) 0 [] = x :: xs := rfl
theorem lsets_cons_zero_cons {α : Type} (x y : α) (xs ys : List α) : lsets (x :: xs) 0 (y :: ys) = y :: lsets xs 0 ys := rfl
theorem lsets_cons_succ {α : Type} (x : α) (xs : List α) (o : Nat) (b : List α) : lsets (x :: xs) (o + 1) b = x :: lsets xs o b := rfl
theorem lsets_get {α : Type} : ∀ (cs : List α) (o : Nat) (xs : List α), o + xs.length ≤ cs.length → (lsets cs o xs).length = cs.length ∧ ∀ (k : Nat), (lsets cs o xs)[k]? = if o ≤ k ∧ k < o + xs.length then xs[k - o]? else cs[k]?
  | [], o, [], _ => ⟨rfl, fun k => by rw [if_neg (by simp only [List.length_nil]; omega)]; rfl⟩
  | [], o, _ :: _, h => by simp at h
  | x :: cs, 0, [], _ => ⟨rfl, fun k => by rw [if_neg (by simp only [List.length_nil]; omega)]; rfl⟩
  | x :: cs, 0, y :: ys, h => by
    have h' : 0 + ys.length ≤ cs.length := by simp at h; omega
    obtain ⟨h1, h2⟩ := lsets_get cs 0 ys h'
    refine ⟨by rw [lsets_cons_zero_cons]; simp [h1], fun k => ?_⟩
    rw [lsets_cons_zero_cons]
    cases k with
    | zero => simp
    | succ k =>
      simp only [List.getElem?_cons_succ, h2, List.length_cons]
      by_cases q : 0 ≤ k ∧ k < 0 + ys.length
      · rw [if_pos q, if_pos (by omega)]; simp
      · rw [if_neg q, if_neg (by omega)]
  | x :: cs, o + 1, xs, h => by
    have h' : o + xs.length ≤ cs.length := by simp at h; omega
    obtain ⟨h1, h2⟩ := lsets_get cs o xs h'
    refine ⟨by rw [lsets_cons_succ]; simp [h1], fun k => ?_⟩
    rw [lsets_cons_succ]
    cases k with
    | zero => rw [if_neg (by omega)]; simp
    | succ k =>
      simp only [List.getElem?_cons_succ, h2]
      by_cases q : o ≤ k ∧ k < o + xs.length
      · rw [if_pos q, if_pos (by omega), show k + 1 - (o + 1) = k - o by omega]
      · rw [if_neg q, if_neg (by omega)]
theorem foldl_set : ∀ (ys : List Value) (j off : Nat) (cells : Array Value), off + j + ys.length ≤ cells.size →
    ((ys.zipIdx j).foldl (fun cs (x : Value × Nat) => cs.setIfInBounds (off + x.2) x.1) cells).size = cells.size ∧
    ∀ (k : Nat), ((ys.zipIdx j).foldl (fun cs (x : Value × Nat) => cs.setIfInBounds (off + x.2) x.1) cells)[k]? = if off + j ≤ k ∧ k < off + j + ys.length then ys[k - (off + j)]? else cells[k]?
  | [], j, off, cells, _ => ⟨rfl, fun k => by rw [if_neg (by simp only [List.length_nil]; omega)]; rfl⟩
  | y :: ys, j, off, cells, h => by
    simp only [List.length_cons] at h
    obtain ⟨h1, h2⟩ := foldl_set ys (j + 1) off (cells.setIfInBounds (off + j) y) (by simp; omega)
    simp only [List.zipIdx_cons, List.foldl_cons]
    refine ⟨by rw [h1]; simp, fun k => ?_⟩
    rw [h2]
    simp only [List.length_cons]
    by_cases q : off + (j + 1) ≤ k ∧ k < off + (j + 1) + ys.length
    · rw [if_pos q, if_pos (by omega), show k - (off + j) = (k - (off + (j + 1))) + 1 by omega]; simp
    · rw [if_neg q, Array.getElem?_setIfInBounds]
      by_cases e : off + j = k
      · subst e; rw [if_pos rfl, if_pos (by omega), if_pos (by omega)]; simp
      · rw [if_neg e, if_neg (by omega)]
theorem zipIdx_foldl (ys : Array Value) (off : Nat) (cells : Array Value) :
    ys.zipIdx.foldl (fun cs (x : Value × Nat) => cs.setIfInBounds (off + x.2) x.1) cells = (ys.toList.zipIdx 0).foldl (fun cs (x : Value × Nat) => cs.setIfInBounds (off + x.2) x.1) cells := by
  rw [← Array.foldl_toList, Array.toList_zipIdx]
section
variable {P : Program} {H : Hints} {isG : Nat → Bool} {sz : Nat} {ns : Nms} {o : Oper} {G : Gh} {g : PT AV} {l : List AV} {a : Act}
theorem fill_rel (X : Env H isG sz G ns g l a) (place place' : Nat → Option (Nat × Nat)) (hpl : ∀ i p, place i = some p → place' i = some p) : ∀ (ps : List (Nat × Operand)) (xs : List (Nat × Nat × OpdR)) (vs : List (Nat × Nat × AV)) (cs : List AV) (cells : Array Value) (r : List AV),
    mapO (fun (ix : Nat × Operand) => match place ix.1, compOpd H ns ix.2 with
      | some (o, n), some x => some (o, n, x)
      | _, _ => none) ps = some xs → zipP xs g l = some vs → VRels G cs cells.toList → fillP cs vs = some r →
    ∃ cells', Instr.fill place' cells (ps.map fun (i, x) => (i, a.eval x)) = some cells' ∧ VRels G r cells'.toList
  | [], xs, vs, cs, cells, r, h, hz, V, e => by
    cases h; cases hz; cases e
    exact ⟨cells, rfl, V⟩
  | (i, q) :: ps, xs, vs, cs, cells, r, h, hz, V, e => by
    simp only [mapO] at h
    split at h
    · rename_i y ys h1 h2
      cases h
      split at h1
      · rename_i of n x hp hx
        cases h1
        have hz' : (match x g l with
          | some v => match zipP ys g l with
            | some r => some ((of, n, v) :: r)
            | none => none
          | none => none) = some vs := hz
        split at hz'
        · rename_i v hv
          split at hz'
          · rename_i rest hrest
            cases hz'
            simp only [fillP] at e
            split at e
            · rename_i k1 k2
              have Vq := (X.opd hx hv).cells
              have e1 : v.cells.length = n := by rw [← llen_eq]; exact beq_iff.1 k1
              have e2 : of + n ≤ cs.length := by rw [← llen_eq]; exact ble_iff.1 k2
              have e3 : v.cells.length = (a.eval q).cells.size := Vq.length.trans Array.length_toList
              have e4 : cs.length = cells.size := V.length.trans Array.length_toList
              obtain ⟨s1, s2⟩ := lsets_get cs of v.cells (by omega)
              obtain ⟨t1, t2⟩ := foldl_set (a.eval q).cells.toList 0 of cells (by rw [show (a.eval q).cells.toList.length = (a.eval q).cells.size from Array.length_toList]; omega)
              rw [← zipIdx_foldl] at t1 t2
              have V' : VRels G (lsets cs of v.cells) ((a.eval q).cells.zipIdx.foldl (fun cs (x : Value × Nat) => cs.setIfInBounds (of + x.2) x.1) cells).toList := by
                refine VRels.of_get (by rw [s1, e4, ← t1]; exact Array.length_toList.symm) fun k b u hb hu => ?_
                rw [s2] at hb
                rw [Array.getElem?_toList, t2] at hu
                rw [show (a.eval q).cells.toList.length = (a.eval q).cells.size from Array.length_toList, Nat.add_zero] at hu
                by_cases q : of ≤ k ∧ k < of + v.cells.length
                · rw [if_pos q] at hb
                  rw [if_pos (by omega)] at hu
                  obtain ⟨u', hu', U⟩ := Vq.get _ _ hb
                  rw [hu'] at hu; cases hu; exact U
                · rw [if_neg q] at hb
                  rw [if_neg (by omega)] at hu
                  obtain ⟨u', hu', U⟩ := V.get _ _ hb
                  rw [Array.getElem?_toList, hu] at hu'; cases hu'; exact U
              obtain ⟨cells', f1, f2⟩ := fill_rel X place place' hpl ps ys rest _ _ r h2 hrest V' e
              refine ⟨cells', ?_, f2⟩
              simp only [List.map_cons, Instr.fill, hpl i _ hp]
              rw [if_neg (by simp; omega)]
              exact f1
            · cases e
          · cases hz'
        · cases hz'
      · cases h1
    · cases h
theorem mapM_places (fs : Array Field) (w : World) (h : fs.all (fun fl => (P.info? fl.type).isSome) = true) :
    (fs.mapM fun f => (do pure (f.offset, ← sizeOf f.type) : Sem (Nat × Nat))).run P w = .ok (fs.map fun f => (f.offset, P.cellsOf f.type)) w := by
  have key : ∀ (l : List Field), (∀ f ∈ l, (P.info? f.type).isSome = true) → (l.mapM fun f => (do pure (f.offset, ← sizeOf f.type) : Sem (Nat × Nat))).run P w = .ok (l.map fun f => (f.offset, P.cellsOf f.type)) w := by
    intro l
    induction l with
    | nil => intro _; simp
    | cons f l ih =>
      intro hl
      obtain ⟨i, hi⟩ := Option.isSome_iff_exists.1 (hl f (by simp))
      have h1 : (sizeOf f.type).run P w = .ok (P.cellsOf f.type) w := by rw [info_size hi]; simp [Program.cellsOf, hi]
      simp only [List.mapM_cons, Sem.run_bind, h1, Result.andThen_ok, Sem.run_pure, ih (fun f hf => hl f (by simp [hf])), List.map_cons]
  rw [Array.mapM_eq_mapM_toList]
  have := key fs.toList (fun f hf => by
    rw [Array.all_eq_true_iff_forall_mem] at h
    exact h f (by simpa using hf))
  simp only [Sem.run_map, this, Result.andThen_ok]
  congr 1
  rw [← Array.toList_map, Array.toArray_toList]
end
end Go.Vd
