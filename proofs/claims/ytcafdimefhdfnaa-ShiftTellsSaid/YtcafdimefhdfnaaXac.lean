/-
  ShiftTells: whatever the input, the law returns true; no condition. Proved by an abstract evaluator of loaded code that is sound for every program, and by what each function of this seat does on trees.

-/
import Derived.Laws.IdiomStrings
import Derived.Laws.Append
import Derived.Orders
import Derived.Test.YtcafdimefhdfnaaXab
namespace Go.Vd
open Go Go.RowKit

section
variable {P : Program} {H : Hints} {isG : Nat → Bool} {sz : Nat} {ns : Nms} {o : Oper}
theorem build_s {t : TypeId} {ps : Array (Nat × Operand)} {r : OpR} (hop : o.op = .build t ps) (h : compBuild P H ns t ps = some r) : ValS P H isG sz ns o r := by
  unfold compBuild at h
  split at h
  · rename_i zs fs hz hu
    split at h
    · rename_i hall
      split at h
      · rename_i xs hx
        cases h
        intro cf B0 W G g l h a w R X
        unfold oBuild buildV
        split
        · trivial
        · rename_i v h' e
          split at e
          · rename_i cs hc
            cases e
            split at hc
            · rename_i vs hv
              obtain ⟨i, z, hi, hz', V⟩ := zeroA_rel hz
              obtain ⟨cells', f1, f2⟩ := fill_rel X (structPlace P fs) ((fs.map fun f => (f.offset, P.cellsOf f.type))[·]?) (fun i p hp => by
                unfold structPlace at hp
                split at hp
                · rename_i fl hfl
                  split at hp
                  · rename_i n hn
                    cases hp
                    have hc : P.cellsOf fl.type = n := by unfold sizeA at hn; unfold Program.cellsOf; rw [hn]; rfl
                    show (fs.map _)[i]? = _
                    rw [Array.getElem?_map, hfl]
                    simp [hc]
                  · cases hp
                · cases hp) ps.toList xs vs zs z.cells cs hx hv (V G) hc
              refine ⟨G, .agg cells', w, ?_, Stp.refl R, .agg f2⟩
              have hm := mapM_places (P := P) fs w hall
              simp only [execOp, hop, Instr.build, Sem.run_bind, run_zero hi hz', Result.andThen_ok, run_underlying' hu, hm, Array.toList_map]
              rw [f1]; rfl
            · cases hc
          · cases e
        · rename_i v h' e
          split at e <;> cases e
      · cases h
    · cases h
  · rename_i zs m el hz hu
    split at h
    · rename_i k hk
      split at h
      · rename_i xs hx
        cases h
        intro cf B0 W G g l h a w R X
        unfold oBuild buildV
        split
        · trivial
        · rename_i v h' e
          split at e
          · rename_i cs hc
            cases e
            split at hc
            · rename_i vs hv
              obtain ⟨i, z, hi, hz', V⟩ := zeroA_rel hz
              obtain ⟨cells', f1, f2⟩ := fill_rel X (fun i => some (i * k, k)) (fun i => some (i * k, k)) (fun _ _ h => h) ps.toList xs vs zs z.cells cs hx hv (V G) hc
              refine ⟨G, .agg cells', w, ?_, Stp.refl R, .agg f2⟩
              simp only [execOp, hop, Instr.build, Sem.run_bind, run_zero hi hz', Result.andThen_ok, run_underlying' hu, size_of hk w, Array.toList_map]
              rw [f1]; rfl
            · cases hc
          · cases e
        · rename_i v h' e
          split at e <;> cases e
      · cases h
    · cases h
  · cases h
theorem flatten_get {α : Type} (z : List α) (hz : 0 < z.length) : ∀ (n k : Nat), k < n * z.length → (List.replicate n z).flatten[k]? = z[k % z.length]?
  | 0, k, h => by simp at h
  | n + 1, k, h => by
    rw [List.replicate_succ, List.flatten_cons]
    by_cases q : k < z.length
    · rw [List.getElem?_append_left q, Nat.mod_eq_of_lt q]
    · have h' : k < n * z.length + z.length := by rw [Nat.add_mul, Nat.one_mul] at h; exact h
      rw [List.getElem?_append_right (by omega), flatten_get z hz n (k - z.length) (by omega)]
      rw [← Nat.mod_eq_sub_mod (a := k) (b := z.length) (by omega)]
theorem flatten_len {α : Type} (z : List α) (n : Nat) : (List.replicate n z).flatten.length = n * z.length := by
  induction n with
  | zero => simp
  | succ n ih => rw [List.replicate_succ, List.flatten_cons, List.length_append, ih, Nat.add_mul]; omega
/-- So many zero values, as the machine lays them. -/
theorem zeros_rel {G : Gh} {z : List AV} {zv : Array Value} (V : VRels G z zv.toList) (n : Nat) : VRels G (List.replicate n z).flatten ((Array.range (n * z.length)).map (fun i => zv[i % zv.size]!)).toList := by
  have hlen : z.length = zv.size := V.length.trans Array.length_toList
  refine VRels.of_get (by rw [flatten_len]; simp) fun k a v ha hv => ?_
  have hk : k < n * z.length := by
    rcases Nat.lt_or_ge k (n * z.length) with q | q
    · exact q
    · rw [List.getElem?_eq_none (by rw [flatten_len]; exact q)] at ha; cases ha
  have hpos : 0 < z.length := by
    rcases Nat.eq_zero_or_pos z.length with q | q
    · rw [q] at hk; simp at hk
    · exact q
  rw [flatten_get z hpos n k hk] at ha
  obtain ⟨u, hu, U⟩ := V.get _ _ ha
  rw [Array.getElem?_toList] at hu hv
  have hm : k % zv.size < zv.size := Nat.mod_lt _ (by omega)
  rw [Array.getElem?_map, Array.getElem?_range, if_pos hk] at hv
  simp only [Option.map_some, Option.some.injEq] at hv
  subst hv
  rw [hlen] at hu
  have : zv[k % zv.size]! = u := by
    rw [getElem!_pos zv (k % zv.size) hm]
    rw [Array.getElem?_eq_getElem hm] at hu
    exact Option.some.inj hu
  rw [this]; exact U
theorem bsl_s {m : Bool} {t : TypeId} {n : Nat} {ps : Array (Nat × Operand)} {r : OpR} (hop : o.op = .buildSlice t n ps) (h : compBsl P H ns m t n ps = some r) : ValS P H isG sz ns o r := by
  unfold compBsl at h
  split at h
  · rename_i el hu
    split at h
    · rename_i k z hk hz
      split at h
      · rename_i hcond
        obtain ⟨hzl, hlim⟩ := hcond
        split at h
        · rename_i xs hx
          obtain ⟨i, zv, hi, hz', V⟩ := zeroA_rel hz
          have hlen : zv.cells.size = k := by rw [← hzl]; exact ((V ⟨fun _ => none, fun _ _ => none⟩).length.trans Array.length_toList).symm
          -- what the machine does
          have run : ∀ (G : Gh) (g : PT AV) (l : List AV) (a : Act) (w : World) (vs : List (Nat × Nat × AV)) (cs : List AV), Env H isG sz G ns g l a → zipP xs g l = some vs → fillP (List.replicate n z).flatten vs = some cs →
              ∃ cells', (execOp a.eval o).run P w = .ok (.value (.slice (some ⟨w.heap.size, 0, none⟩) n n)) (w.alloc (.cells cells' el)) ∧ VRels G cs cells'.toList := by
            intro G g l a w vs cs X hv hc
            have hl : ¬ (n * k > 2 ^ 24) := by omega
            by_cases q : n * k = 0
            · have VZ : VRels G (List.replicate n z).flatten ((Array.range (n * k)).map ((#[] : Array Value)[· % (#[] : Array Value).size]!)).toList := by
                have : (List.replicate n z).flatten = [] := by
                  apply List.eq_nil_of_length_eq_zero; rw [flatten_len, hzl]; exact q
                rw [this, q]; simpa using VRels.nil
              obtain ⟨cells', f1, f2⟩ := fill_rel X (fun i => some (i * k, k)) (fun i => some (i * k, k)) (fun _ _ h => h) ps.toList xs vs _ _ cs hx hv VZ hc
              refine ⟨cells', ?_, f2⟩
              simp only [execOp, hop, Instr.buildSlice, Sem.run_bind, run_underlying' hu, Result.andThen_ok, size_of hk w, if_neg hl, if_pos q, Array.toList_map, Sem.run_pure]
              rw [f1]
              simp [newRow]
            · have VZ : VRels G (List.replicate n z).flatten ((Array.range (n * k)).map (zv.cells[· % zv.cells.size]!)).toList := by
                rw [← hzl]; exact zeros_rel (V G) n
              obtain ⟨cells', f1, f2⟩ := fill_rel X (fun i => some (i * k, k)) (fun i => some (i * k, k)) (fun _ _ h => h) ps.toList xs vs _ _ cs hx hv VZ hc
              refine ⟨cells', ?_, f2⟩
              simp only [execOp, hop, Instr.buildSlice, Sem.run_bind, run_underlying' hu, Result.andThen_ok, size_of hk w, if_neg hl, if_neg q, run_zero hi hz', Array.toList_map, Sem.run_pure]
              rw [f1]
              simp [newRow]
          split at h
          · cases h
            intro cf B0 W G g l h a w R X
            unfold oBslM buildV
            split
            · trivial
            · rename_i v h' e
              split at e
              · rename_i cs hc
                cases e
                split at hc
                · rename_i vs hv
                  obtain ⟨cells', hr, VC⟩ := run G g l a w vs cs X hv hc
                  have hcs : cs.length = n * k := by
                    have : ∀ (vs : List (Nat × Nat × AV)) (c0 r : List AV), fillP c0 vs = some r → r.length = c0.length := by
                      intro vs
                      induction vs with
                      | nil => intro c0 r e; cases e; rfl
                      | cons v vs ih =>
                        intro c0 r e
                        obtain ⟨of, nn, vv⟩ := v
                        simp only [fillP] at e
                        split at e
                        · rename_i k1 k2
                          rw [ih _ _ e]
                          refine (lsets_get c0 of vv.cells ?_).1
                          have e1 := beq_iff.1 k1
                          have e2 := ble_iff.1 k2
                          rw [llen_eq] at e1 e2
                          have e2' : of + nn ≤ c0.length := e2
                          omega
                        · cases e
                    rw [this vs _ _ hc, flatten_len, hzl]
                  obtain ⟨G', S, VV⟩ := allocSl_val (more := []) R VC el (len := n) (cap := n) (cap' := n) (esz := k) (ex := true) (Nat.le_refl _) hcs.symm (Nat.le_refl _) (by rw [← VC.length]; simp [hcs]) (fun _ => rfl)
                  rw [List.append_nil, Array.toArray_toList] at S
                  exact ⟨G', _, _, hr, S, VV⟩
                · cases hc
              · cases e
            · rename_i v h' e
              split at e <;> cases e
          · cases h
            intro cf B0 W G g l h a w R X
            unfold oBslF buildV
            split
            · trivial
            · rename_i v h' e
              split at e
              · rename_i cs hc
                cases e
                split at hc
                · rename_i vs hv
                  obtain ⟨cells', hr, VC⟩ := run G g l a w vs cs X hv hc
                  have hcs : cs.length = n * k := by
                    have : ∀ (vs : List (Nat × Nat × AV)) (c0 r : List AV), fillP c0 vs = some r → r.length = c0.length := by
                      intro vs
                      induction vs with
                      | nil => intro c0 r e; cases e; rfl
                      | cons v vs ih =>
                        intro c0 r e
                        obtain ⟨of, nn, vv⟩ := v
                        simp only [fillP] at e
                        split at e
                        · rename_i k1 k2
                          rw [ih _ _ e]
                          refine (lsets_get c0 of vv.cells ?_).1
                          have e1 := beq_iff.1 k1
                          have e2 := ble_iff.1 k2
                          rw [llen_eq] at e1 e2
                          have e2' : of + nn ≤ c0.length := e2
                          omega
                        · cases e
                    rw [this vs _ _ hc, flatten_len, hzl]
                  obtain ⟨G', S, hZ, VZ⟩ := allocZ_val R VC el
                  exact ⟨G', _, _, hr, S, .fl hZ VZ (by omega) (Nat.le_refl _) (fun _ => rfl) (.inr rfl)⟩
                · cases hc
              · cases e
            · rename_i v h' e
              split at e <;> cases e
        · cases h
      · cases h
    · cases h
  · cases h
end
end Go.Vd

namespace Go.Vd
open Go Go.RowKit

section
variable {P : Program} {H : Hints} {isG : Nat → Bool} {sz : Nat} {ns : Nms} {o : Oper}
theorem convK_some {s d : TypeId} {k : ConvK} (h : convK P s d = some k) : (∃ j q, k = .int q ∧ P.underlying s = some (.int j) ∧ P.underlying d = some (.int q)) ∨ (k = .same ∧ P.underlying s = some .string ∧ P.underlying d = some .string) := by
  unfold convK at h
  split at h
  · rename_i j q h1 h2; cases h; exact .inl ⟨j, q, rfl, h1, h2⟩
  · rename_i h1 h2; cases h; exact .inr ⟨rfl, h1, h2⟩
  · cases h
theorem conv_s {s d : TypeId} {k : ConvK} {q : Operand} {x : OpdR} (hop : o.op = .convert s d q) (hk : convK P s d = some k) (hx : compOpd H ns q = some x) : ValS P H isG sz ns o (oConv k x) := by
  intro cf B0 W G g l h a w R X
  unfold oConv
  cases hv : x g l with
  | none => trivial
  | some v =>
    have V := X.opd hx hv
    simp only
    rcases convK_some hk with ⟨j, q', rfl, h1, h2⟩ | ⟨rfl, h1, h2⟩
    · cases v <;> try trivial
      rename_i kk n
      generalize hq : a.eval q = qv at V
      cases V
      refine ⟨G, .int q' (q'.wrap n), w, ?_, Stp.refl R, by rw [wrapK_eq]; exact .int _ _⟩
      simp [execOp, hop, hq, convert, run_underlying' h1, run_underlying' h2, Conv.intToInt]
    · cases v <;> try trivial
      rename_i s'
      generalize hq : a.eval q = qv at V
      cases V
      rename_i bs
      refine ⟨G, .string bs, w, ?_, Stp.refl R, .str _⟩
      simp [execOp, hop, hq, convert, run_underlying' h1, run_underlying' h2]
theorem mmGo_cons (mx : Bool) (y : AV) (r : List AV) (x : AV) : mmGo mx (y :: r) x = (match x, y with
    | .int k p, .int k' q => match keq k k', mx with
      | true, true => mmGo mx r (.int k (match ilt p q with | true => q | false => p))
      | true, false => mmGo mx r (.int k (match ilt q p with | true => q | false => p))
      | false, _ => none
    | _, _ => none) := rfl
theorem mm_val {G : Gh} {w : World} (mx : Bool) : ∀ (r : List AV) (x u : AV) (xv : Value) (rv : List Value), VRel G x xv → VRels G r rv → mmGo mx r x = some u →
    ∃ v, (rv.foldlM (if mx then Builtin.max2 else Builtin.min2) xv).run P w = .ok v w ∧ VRel G u v
  | [], x, u, xv, rv, X, V, e => by
    cases V; cases e
    exact ⟨xv, by simp, X⟩
  | y :: r, x, u, xv, rv, X, V, e => by
    cases V with
    | cons Y T =>
      rename_i yv rv
      have e' := e
      rw [mmGo_cons] at e'
      clear e
      split at e'
      · rename_i k p k' q
        cases X; cases Y
        split at e'
        · rename_i _ hk
          have := keq_iff.1 hk; subst this
          obtain ⟨v, hr, V⟩ := mm_val true r _ u _ rv (.int _ _) T e'
          refine ⟨v, ?_, V⟩
          simp only [if_true] at hr
          simp only [if_true, List.foldlM_cons, Builtin.max2, Sem.run_bind, Sem.run_pure, Result.andThen_ok]
          rw [ilt_eq] at hr
          by_cases hq : p < q
          · rw [decide_eq_true hq] at hr; rw [if_pos (by omega)]; exact hr
          · rw [decide_eq_false hq] at hr; rw [if_neg (by omega)]; exact hr
        · rename_i _ hk
          have := keq_iff.1 hk; subst this
          obtain ⟨v, hr, V⟩ := mm_val false r _ u _ rv (.int _ _) T e'
          refine ⟨v, ?_, V⟩
          simp only [Bool.false_eq_true, if_false] at hr
          simp only [Bool.false_eq_true, if_false, List.foldlM_cons, Builtin.min2, Sem.run_bind, Sem.run_pure, Result.andThen_ok]
          rw [ilt_eq] at hr
          by_cases hq : q < p
          · rw [decide_eq_true hq] at hr; rw [if_pos hq]; exact hr
          · rw [decide_eq_false hq] at hr; rw [if_neg hq]; exact hr
        · cases e'
      · cases e'
theorem minmax_s {b : Call} {mx : Bool} {xs : List OpdR} (hop : o.op = .call b) (hb : b.callee = .builtin (if mx then .max else .min)) (hx : compOpds H ns b.args = some xs) : ValS P H isG sz ns o (oMinmax mx xs) := by
  intro cf B0 W G g l h a w R X
  unfold oMinmax
  cases hv : opds xs g l with
  | none => trivial
  | some vs =>
    simp only
    cases hm : minmaxAV mx vs with
    | none => trivial
    | some u =>
      have V := X.opds hx hv
      unfold minmaxAV at hm
      split at hm
      · cases hm
      · rename_i x r
        generalize hl : b.args.toList.map a.eval = lv at V
        cases V with
        | cons X1 T =>
          rename_i xv rv
          obtain ⟨v, hr, V'⟩ := mm_val (P := P) (w := w) mx r x u xv rv X1 T hm
          refine ⟨G, v, w, ?_, Stp.refl R, V'⟩
          have hl' : (b.args.map a.eval).toList = xv :: rv := by rw [Array.toList_map]; exact hl
          cases mx with
          | true => simp only [if_true] at hb hr; simp [execOp, hop, resolve, hb, invoke, builtin, Builtin.max_, hl, hr]
          | false => simp only [Bool.false_eq_true, if_false] at hb hr; simp [execOp, hop, resolve, hb, invoke, builtin, Builtin.min_, hl, hr]

/-! ## append -/
theorem src_val {B0 : Nat} {W w : World} {G : Gh} {h : AHeap} (R : Rel B0 W G h w) {esz k : Nat} {x : AV} {xv : Value} {new : List AV} (V : VRel G x xv) (e : elemsAV h esz x = some (k, new)) :
    ∃ vs : List Value, VRels G new vs ∧ new.length = k * esz ∧ (Builtin.lenOf xv).run P w = .ok k w ∧ (Builtin.firstCells esz k xv).run P w = .ok vs.toArray w ∧ (Builtin.firstCells esz k xv).run P w.drew = .ok vs.toArray w.drew := by
  have cellsOk : ∀ (ad : Addr) (c s n cap : Nat), (n = 0 ∨ ad = ⟨c, s, none⟩) → new.length = n * esz → (∀ (i : Nat) a, new[i]? = some a → ∃ v, w.cell? ⟨c, s + i, none⟩ = some v ∧ VRel G a v) →
      ∃ vs : List Value, VRels G new vs ∧ (Builtin.firstCells esz n (.slice (some ad) n cap)).run P w = .ok vs.toArray w ∧ (Builtin.firstCells esz n (.slice (some ad) n cap)).run P w.drew = .ok vs.toArray w.drew := by
    intro ad c s n cap had hl hc
    obtain ⟨vs, h1, h2, h3⟩ := loadCells_rel hl hc
    have hcell : ∀ (j : Nat) v, vs[j]? = some v → w.cell? (ad.add j) = some v := fun j v hj => by
      rcases had with q | q
      · subst q; simp at h1; subst h1; simp at hj
      · subst q; rw [addr_add]; exact h3 j v hj
    refine ⟨vs, h2, ?_, ?_⟩
    · have := run_loadCells_list (P := P) w ad vs hcell
      rw [h1] at this
      simp [Builtin.firstCells, this]
    · have := run_loadCells_list (P := P) w.drew ad vs (fun j v hj => by rw [World.cell?_drew]; exact hcell j v hj)
      rw [h1] at this
      simp [Builtin.firstCells, this]
  unfold elemsAV at e
  split at e
  · cases e; cases V
    exact ⟨[], .nil, by simp, by simp [Builtin.lenOf], by simp [Builtin.firstCells], by simp [Builtin.firstCells]⟩
  · rename_i fs of len e' ex
    split at e
    · rename_i cs h1 h2
      cases e
      cases V with
      | fl hz hv hf hc hx ha =>
        rename_i c base cap us ad
        obtain ⟨k1, k2⟩ := R.frozenCells hz hv h2
        obtain ⟨vs, q1, q2, q3⟩ := cellsOk ad c (base + of) k cap (by rcases ha with q | q; exact .inl (by omega); exact .inr q) k1 k2
        exact ⟨vs, q1, k1, by simp [Builtin.lenOf], q2, q3⟩
    · cases e
  · rename_i b of gn len cap e' ex
    split at e
    · rename_i cs h1 h2
      cases e
      cases V with
      | slice hb hl k1 k2 hx ha hn hs =>
        rename_i cap' pl ad
        obtain ⟨r1, _, _, r2⟩ := R.rdn h2 hb hl
        obtain ⟨vs, q1, q2, q3⟩ := cellsOk ad pl.c (pl.off + (of - pl.lo)) k cap' (by rcases ha with q | q; exact .inl (by omega); exact .inr q) r1 r2
        exact ⟨vs, q1, r1, by simp [Builtin.lenOf], q2, q3⟩
    · cases e
  · split at e
    · rename_i s h1
      cases e
      have h1 := beq_iff.1 h1
      subst h1
      cases V with
      | str bs =>
        have hlen : llen (bytesN bs) = bs.size := by rw [llen_eq, bytesN_len]
        have hex : (bs.extract 0 bs.size).data = bs.data := by
          rw [ByteArray.data_extract]; exact Array.extract_size
        refine ⟨bs.data.toList.map fun b => .int .u8 b.toNat, ?_, by rw [lmap_eq, List.length_map, llen_eq, Nat.mul_one], by rw [hlen]; simp [Builtin.lenOf], ?_, ?_⟩
        · rw [lmap_eq]
          unfold bytesN
          generalize bs.data.toList = q
          induction q with
          | nil => exact .nil
          | cons b q ih => exact .cons (.int _ _) ih
        · have hmp : (bs.data.toList.map fun b => Value.int .u8 b.toNat).toArray = bs.data.map fun b => Value.int .u8 b.toNat := by rw [← Array.toList_map, Array.toArray_toList]
          rw [hlen, hmp]; simp [Builtin.firstCells]
        · have hmp : (bs.data.toList.map fun b => Value.int .u8 b.toNat).toArray = bs.data.map fun b => Value.int .u8 b.toNat := by rw [← Array.toList_map, Array.toArray_toList]
          rw [hlen, hmp]; simp [Builtin.firstCells]
    · cases e
  · cases e
end
end Go.Vd

namespace Go.Vd
open Go Go.RowKit

section
variable {P : Program} {H : Hints} {isG : Nat → Bool} {sz : Nat} {ns : Nms} {o : Oper}
theorem zeros_of {d : TypeDesc} (hd : ∀ k, d ≠ .int k) : (d matches .int _) = false := by
  cases d <;> first | rfl | exact absurd rfl (hd _)
theorem run_app_fit {ts : Array TypeId} {t u ty e : TypeId} {i : TypeInfo} {d : TypeDesc} (h0 : ts[0]? = some t) (h1 : ts[1]? = some u) (ht : P.underlying t = some (.slice e)) (hu : P.underlying u = some d) (hd : ∀ k, d ≠ .int k)
    (hi : P.info? e = some i) {a : Addr} {n k cap : Nat} {xv : Value} {new : Array Value} {w w' : World} (hl : (Builtin.lenOf xv).run P w = .ok k w) (hf : (Builtin.firstCells i.size k xv).run P w = .ok new w)
    (hroom : n + k ≤ cap) (hst : (storeCells (a.add (n * i.size)) new.toList).run P w = .ok () w') :
    (Builtin.append_ ts ty #[.slice (some a) n cap, xv]).run P w = .ok (.slice (some a) (n + k) cap) w' := by
  unfold Builtin.append_
  simp only [h0, h1, List.getElem?_toArray, List.getElem?_cons_zero, List.getElem?_cons_succ, Sem.run_bind, run_underlying' ht, run_underlying' hu, Result.andThen_ok, info_size hi, Sem.run_pure]
  simp [hl, hroom, hf, hst]
theorem run_app_nil0 {ts : Array TypeId} {t u ty e : TypeId} {i : TypeInfo} {d : TypeDesc} (h0 : ts[0]? = some t) (h1 : ts[1]? = some u) (ht : P.underlying t = some (.slice e)) (hu : P.underlying u = some d) (hd : ∀ k, d ≠ .int k)
    (hi : P.info? e = some i) {xv : Value} {new : Array Value} {w : World} (hl : (Builtin.lenOf xv).run P w = .ok 0 w) (hf : (Builtin.firstCells i.size 0 xv).run P w = .ok new w) :
    (Builtin.append_ ts ty #[.slice none 0 0, xv]).run P w = .ok (.slice none 0 0) w := by
  unfold Builtin.append_
  simp only [h0, h1, List.getElem?_toArray, List.getElem?_cons_zero, List.getElem?_cons_succ, Sem.run_bind, run_underlying' ht, run_underlying' hu, Result.andThen_ok, info_size hi, Sem.run_pure]
  simp [hl, hf]
theorem run_app_move {ts : Array TypeId} {t u ty e : TypeId} {i : TypeInfo} {d : TypeDesc} {z : Value} (h0 : ts[0]? = some t) (h1 : ts[1]? = some u) (ht : P.underlying t = some (.slice e)) (hu : P.underlying u = some d) (hd : ∀ k, d ≠ .int k)
    (hi : P.info? e = some i) (hz0 : i.zero = some z) {base : Option Addr} {n k cap : Nat} {xv : Value} {old new : Array Value} {w : World} (hl : (Builtin.lenOf xv).run P w = .ok k w) (hf : (Builtin.firstCells i.size k xv).run P w.drew = .ok new w.drew)
    (ho : (Builtin.firstCells i.size n (.slice base n cap)).run P w.drew = .ok old w.drew) (hno : cap < n + k) (hfit : (n + k) * i.bytes ≤ 1099511627776) (hbig : n + k ≤ 4611686018427387904) :
    ∃ cap', n + k ≤ cap' ∧ (Builtin.append_ ts ty #[.slice base n cap, xv]).run P w = .ok (.slice (some ⟨w.heap.size, 0, none⟩) (n + k) cap') (w.drew.alloc (.cells (old ++ new ++ Builtin.zeroCells z.cells (cap' - (n + k))) e)) := by
  have hn : ¬ (n + k ≤ cap) := by omega
  have h63 : ¬ (((n + k : Nat) : Int) > IntKind.i64.max ∧ (False ∨ i.bytes = 0)) := by
    rintro ⟨q, _⟩
    rw [show IntKind.i64.max = 9223372036854775807 by decide] at q
    omega
  have h48 : ¬ (Builtin.nextslicecap (n + k) cap * i.bytes > 2 ^ 48) := by
    have := growslice_fits (need := n + k) (old := cap) (bytes := i.bytes) (by omega) (by omega)
    omega
  refine ⟨(Question.appendCap (n + k) cap e).cut (w.tape w.drawn (.appendCap (n + k) cap e)), ?_, ?_⟩
  · show n + k ≤ n + k + _; omega
  · unfold Builtin.append_
    simp only [h0, h1, List.getElem?_toArray, List.getElem?_cons_zero, List.getElem?_cons_succ, Sem.run_bind, run_underlying' ht, run_underlying' hu, Result.andThen_ok, info_size hi, Sem.run_pure]
    simp only [Bool.false_eq_true, if_false, hl, Result.andThen_ok, if_neg hn, typeInfo, Sem.run_bind, run_program, hi, Sem.run_pure, Bool.not_false, if_true]
    rw [Sem.run_ite, if_neg (by simpa using h63)]
    simp only [Sem.run_bind, Sem.run_pure, Result.andThen_ok, run_program, hi]
    rw [Sem.run_ite, if_neg h48]
    simp only [Sem.run_bind, Sem.run_pure, Result.andThen_ok, run_choose, Question.forced, Bool.false_eq_true, if_false, World.drew_eq, run_askRoom, ho, hf, zeroValue, typeInfo, run_program, hi, hz0, newRow, run_newObj, World.alloc_eq]
    rfl
end
end Go.Vd

namespace Go.Vd
open Go Go.RowKit

theorem setCells_heap (b : Nat) : ∀ (vs : List Value) (o : Nat) (w : World), (w.setCells b o vs).heap.size = w.heap.size ∧ ∀ c, c ≠ b → (w.setCells b o vs).heap[c]? = w.heap[c]?
  | [], _, _ => ⟨rfl, fun _ _ => rfl⟩
  | v :: r, o, w => by
    obtain ⟨h1, h2⟩ := setCells_heap b r (o + 1) (w.setCell ⟨b, o, none⟩ v)
    refine ⟨by rw [World.setCells, h1]; simp, fun c hc => ?_⟩
    rw [World.setCells, h2 c hc]
    exact Below.heap_setCell w ⟨b, o, none⟩ v c hc
theorem setCells_below {B0 : Nat} (b : Nat) (hb : B0 ≤ b) : ∀ (vs : List Value) (o : Nat) (W w : World), Below B0 W w → Below B0 W (w.setCells b o vs)
  | [], _, _, _, h => h
  | v :: r, o, W, _, h => setCells_below b hb r (o + 1) W _ (h.setCell (p := ⟨b, o, none⟩) hb v)
section
variable {P : Program}
/-- A slice grows at its block's end, where it lies. -/
theorem Rel.sExtIn {B0 : Nat} {W w : World} {G : Gh} {h : AHeap} (R : Rel B0 W G h w) {b o len cap' esz k : Nat} {A : ABlk} (hA : h.m.get b = some (.blk A)) {p : Pl} (hp : G.B b A.gen = some p) (hl : p.lo ≤ o)
    (hend : o + len * esz = A.n) (hroom : len + k ≤ cap') (hs : p.off + (o - p.lo) + cap' * esz ≤ p.sz) {new : List AV} {vs : List Value} (V : VRels G new vs) (hlen : new.length = k * esz) (hc : new.all isCell = true) :
    ∃ G' w', (storeCells ⟨p.c, p.off + (o - p.lo) + len * esz, none⟩ vs).run P w = .ok () w' ∧ Stp B0 W G h w G' { h with m := h.m.put b (some (.blk (extA A new))) } w' ∧
      G'.B b (A.gen + 1) = some { p with n := A.n + new.length } := by
  obtain ⟨hlw, hg, hno⟩ := R.blk b A hA
  obtain ⟨q, hq, K⟩ := hg A.gen hlw (Nat.le_refl _)
  rw [hp] at hq; cases hq
  have hpn : p.n = A.n := by rw [K.n, lenAt_gen]
  have hvl : vs.length = k * esz := by rw [← V.length]; exact hlen
  have hmul : len * esz + k * esz ≤ cap' * esz := by rw [← Nat.add_mul]; exact Nat.mul_le_mul_right _ hroom
  have hin : ∀ j, j < vs.length → p.off + (o - p.lo) + len * esz + j < p.sz := fun j hj => by omega
  have hone : ∀ v ∈ vs, v.oneCell' = true := fun v hv => by
    obtain ⟨i, hi, rfl⟩ := List.getElem_of_mem hv
    obtain ⟨a, ha, VA⟩ := V.get' i _ (List.getElem?_eq_getElem hi)
    have : isCell a = true := by
      rw [List.all_eq_true] at hc
      exact hc a (List.mem_of_getElem? ha)
    exact VA.oneCell this
  have hrun := run_storeCells_cells (P := P) p.c (p.off + (o - p.lo) + len * esz) vs 0 w (fun j hj => by rw [Nat.add_zero]; exact (K.room _ (hin j hj)).1) (fun j hj => by rw [Nat.add_zero]; exact (K.room _ (hin j hj)).2) hone
  rw [Nat.add_zero] at hrun
  obtain ⟨z1, z2⟩ := setCells_heap p.c vs (p.off + (o - p.lo) + len * esz) w
  have hout : ∀ i, i < p.off + (o - p.lo) + len * esz → (w.setCells p.c (p.off + (o - p.lo) + len * esz) vs).cell? ⟨p.c, i, none⟩ = w.cell? ⟨p.c, i, none⟩ := fun i hi => World.cell?_setCells_out _ _ _ _ _ (fun _ _ => .inl hi)
  have hinn := World.cell?_setCells_in p.c vs (p.off + (o - p.lo) + len * esz) w (fun j hj => (K.room _ (hin j hj)).1)
  have hroom' : ∀ i, i < p.sz → ((w.setCells p.c (p.off + (o - p.lo) + len * esz) vs).cell? ⟨p.c, i, none⟩).isSome = true ∧ (w.setCells p.c (p.off + (o - p.lo) + len * esz) vs).frozen? ⟨p.c, i, none⟩ = false := fun i hi => by
    rw [World.frozen?_setCells]
    refine ⟨?_, (K.room i hi).2⟩
    by_cases q1 : i < p.off + (o - p.lo) + len * esz
    · rw [hout i q1]; exact (K.room i hi).1
    · by_cases q2 : i < p.off + (o - p.lo) + len * esz + vs.length
      · have := hinn (i - (p.off + (o - p.lo) + len * esz)) (by omega)
        rw [show p.off + (o - p.lo) + len * esz + (i - (p.off + (o - p.lo) + len * esz)) = i by omega] at this
        rw [this]; rfl
      · rw [World.cell?_setCells_out _ _ _ _ _ (fun _ _ => .inr (by simp; omega))]; exact (K.room i hi).1
  have hK' : BlkRel G (extA A new) (w.setCells p.c (p.off + (o - p.lo) + len * esz) vs) B0 (A.gen + 1) { p with n := A.n + new.length } := by
    have hlo := K.lo
    refine ⟨(lenAt_new A new).symm, by show p.lo ≤ A.n + _; omega, ?_, K.c, by rw [z1]; exact K.lt, hroom', fun i a h1 h2 h3 => ?_⟩
    · show p.off + (A.n + new.length - p.lo) ≤ p.sz; omega
    · have h1' : p.lo ≤ i := h1
      have h2' : i < A.n + new.length := h2
      have h3' : (ptFill new A.cells A.n).get i = some a := h3
      rw [get_ptFill] at h3'
      by_cases q : A.n ≤ i ∧ i < A.n + new.length
      · rw [if_pos q] at h3'
        obtain ⟨v, hv, VV⟩ := V.get _ _ h3'
        refine ⟨v, ?_, VV⟩
        have hj : i - A.n < vs.length := by omega
        have := hinn (i - A.n) hj
        show (w.setCells p.c _ vs).cell? ⟨p.c, p.off + (i - p.lo), none⟩ = some v
        rw [show p.off + (i - p.lo) = p.off + (o - p.lo) + len * esz + (i - A.n) by omega, this]
        rw [List.getElem?_eq_getElem hj] at hv; exact hv
      · rw [if_neg q] at h3'
        obtain ⟨v, hv, VV⟩ := K.cells i a h1' (by omega) h3'
        exact ⟨v, (hout (p.off + (i - p.lo)) (by omega)).trans hv, VV⟩
  obtain ⟨e1, e2⟩ := R.ext hA { p with n := A.n + new.length } (setCells_below p.c K.c vs _ w w (Below.refl _ _)) (by rw [z1]; exact Nat.le_refl _) (fun c _ hc => z2 c hc)
    (fun g q h1 h2 hq hqc => by
      have hal := R.align b A g A.gen q p hA h1 h2 hlw (Nat.le_refl _) hq hp hqc
      obtain ⟨q', hq', Q⟩ := hg g h1 h2
      rw [hq] at hq'; cases hq'
      have hqc' : q.c = p.c := hqc
      refine ⟨fun i hi => ?_, fun i i1 i2 => ?_, hal⟩
      · have := Q.room i hi
        rw [hqc'] at this ⊢
        rw [World.frozen?_setCells]
        refine ⟨?_, this.2⟩
        by_cases q1 : i < p.off + (o - p.lo) + len * esz
        · rw [hout i q1]; exact this.1
        · by_cases q2 : i < p.off + (o - p.lo) + len * esz + vs.length
          · have := hinn (i - (p.off + (o - p.lo) + len * esz)) (by omega)
            rw [show p.off + (o - p.lo) + len * esz + (i - (p.off + (o - p.lo) + len * esz)) = i by omega] at this
            rw [this]; rfl
          · rw [World.cell?_setCells_out _ _ _ _ _ (fun _ _ => .inr (by simp; omega))]; exact this.1
      · rw [hqc']
        have hqn : q.n ≤ A.n := by rw [Q.n]; exact R.lens b A g hA h1 h2
        exact hout (q.off + (i - q.lo)) (by omega))
    (fun _ => ⟨p, hp, rfl⟩) hK'
  refine ⟨_, _, hrun, ⟨e1, e2, by rw [z1]; exact Nat.le_refl _, fun c hc u => ⟨z2 c (fun q => u b A.gen p ((live_blk hA).2 ⟨hlw, Nat.le_refl _⟩) hp q.symm), fun x g q hx hq => ?_⟩⟩, by simp [Gh.addB]⟩
  by_cases e : x = b ∧ g = A.gen + 1
  · obtain ⟨rfl, rfl⟩ := e
    simp only [Gh.addB, and_self, if_true] at hq
    cases hq
    exact u x A.gen p ((live_blk hA).2 ⟨hlw, Nat.le_refl _⟩) hp
  · simp only [Gh.addB] at hq
    rw [if_neg e] at hq
    refine u x g q ?_ hq
    have hm : ∀ y, (h.m.put b (some (.blk (extA A new)))).get y = if y = b then some (.blk (extA A new)) else h.m.get y := fun y => PT.get_put _ _ _ _
    simp only [Live, hm] at hx ⊢
    by_cases ex : x = b
    · subst ex
      rw [if_pos rfl] at hx; rw [hA]
      have h1 : A.lw ≤ g := hx.1
      have h2 : g ≤ A.gen + 1 := hx.2
      exact ⟨h1, by have : g ≠ A.gen + 1 := fun q => e ⟨rfl, q⟩; omega⟩
    · rw [if_neg ex] at hx; exact hx
/-- A slice grows at its block's end, and goes to a new place. -/
theorem Rel.sExtMove {B0 : Nat} {W w : World} {G : Gh} {h : AHeap} (R : Rel B0 W G h w) {b o len cap' esz k : Nat} {A : ABlk} (hA : h.m.get b = some (.blk A)) {p : Pl} (hp : G.B b A.gen = some p) (hl : p.lo ≤ o)
    (hend : o + len * esz = A.n) (hroom : len + k ≤ cap') {new : List AV} {old vs more : List Value} (V : VRels G new vs) (hlen : new.length = k * esz)
    (ho : old.length = len * esz) (hold : ∀ (i : Nat) v, old[i]? = some v → w.cell? ⟨p.c, p.off + (o - p.lo) + i, none⟩ = some v) (hmore : more.length = (cap' - (len + k)) * esz) (e : TypeId) :
    ∃ G', Stp B0 W G h w G' { h with m := h.m.put b (some (.blk (extA A new))) } (w.drew.alloc (.cells (old ++ vs ++ more).toArray e)) ∧
      G'.B b (A.gen + 1) = some { c := w.heap.size, lo := o, off := 0, n := A.n + new.length, sz := cap' * esz } := by
  obtain ⟨hlw, hg, hno⟩ := R.blk b A hA
  obtain ⟨q, hq, K⟩ := hg A.gen hlw (Nat.le_refl _)
  rw [hp] at hq; cases hq
  have hpn : p.n = A.n := by rw [K.n, lenAt_gen]
  have hvl : vs.length = k * esz := by rw [← V.length]; exact hlen
  have hmul : len * esz + k * esz + (cap' - (len + k)) * esz = cap' * esz := by rw [← Nat.add_mul, ← Nat.add_mul, Nat.add_sub_cancel' hroom]
  have hsz : (w.drew.alloc (.cells (old ++ vs ++ more).toArray e)).heap.size = w.heap.size + 1 := World.size_alloc w.drew _
  have hcell : ∀ i, (w.drew.alloc (.cells (old ++ vs ++ more).toArray e)).cell? ⟨w.heap.size, i, none⟩ = (old ++ vs ++ more)[i]? := fun i => by
    have := cell_alloc_new w.drew (old ++ vs ++ more).toArray e i
    rw [List.getElem?_toArray] at this
    exact this
  have hK' : BlkRel G (extA A new) (w.drew.alloc (.cells (old ++ vs ++ more).toArray e)) B0 (A.gen + 1) { c := w.heap.size, lo := o, off := 0, n := A.n + new.length, sz := cap' * esz } := by
    have hlo := K.lo
    refine ⟨(lenAt_new A new).symm, by show o ≤ A.n + _; omega, ?_, R.le, by rw [hsz]; exact Nat.lt_succ_self _, fun i hi => ⟨?_, World.frozen?_alloc_new w.drew _ _ _⟩, fun i a h1 h2 h3 => ?_⟩
    · show 0 + (A.n + new.length - o) ≤ cap' * esz; omega
    · have hi' : i < cap' * esz := hi
      show ((w.drew.alloc _).cell? ⟨w.heap.size, i, none⟩).isSome = true
      rw [hcell, List.getElem?_eq_getElem (by simp only [List.length_append]; omega)]; rfl
    · have h1' : o ≤ i := h1
      have h2' : i < A.n + new.length := h2
      have h3' : (ptFill new A.cells A.n).get i = some a := h3
      rw [get_ptFill] at h3'
      by_cases q : A.n ≤ i ∧ i < A.n + new.length
      · rw [if_pos q] at h3'
        obtain ⟨v, hv, VV⟩ := V.get _ _ h3'
        refine ⟨v, ?_, VV⟩
        show (w.drew.alloc _).cell? ⟨w.heap.size, 0 + (i - o), none⟩ = some v
        rw [hcell, Nat.zero_add, List.getElem?_append_left (by simp only [List.length_append]; omega), List.getElem?_append_right (by omega), ho]
        rw [show i - o - len * esz = i - A.n by omega]; exact hv
      · rw [if_neg q] at h3'
        obtain ⟨v, hv, VV⟩ := K.cells i a (by omega) (by omega) h3'
        refine ⟨v, ?_, VV⟩
        show (w.drew.alloc _).cell? ⟨w.heap.size, 0 + (i - o), none⟩ = some v
        rw [hcell, Nat.zero_add, List.getElem?_append_left (by simp only [List.length_append]; omega), List.getElem?_append_left (by omega)]
        have hb : i - o < old.length := by omega
        have := hold (i - o) old[i - o] (List.getElem?_eq_getElem hb)
        rw [show p.off + (o - p.lo) + (i - o) = p.off + (i - p.lo) by omega, hv] at this
        rw [List.getElem?_eq_getElem hb]; exact this.symm
  obtain ⟨e1, e2⟩ := R.ext hA { c := w.heap.size, lo := o, off := 0, n := A.n + new.length, sz := cap' * esz } ((Below.refl B0 w).drew.alloc R.le _) (by rw [hsz]; omega)
    (fun c hc _ => heap_alloc_ne w.drew _ c (Nat.ne_of_lt hc))
    (fun g q h1 h2 hq hqc => absurd hqc (Nat.ne_of_lt (live_lt R ((live_blk hA).2 ⟨h1, h2⟩) hq).1))
    (fun hlt => absurd hlt (Nat.lt_irrefl _)) hK'
  refine ⟨_, ⟨e1, e2, by rw [hsz]; omega, fun c hc u => ⟨heap_alloc_ne w.drew _ c (Nat.ne_of_lt hc), fun x g q hx hq => ?_⟩⟩, by simp [Gh.addB]⟩
  by_cases e : x = b ∧ g = A.gen + 1
  · obtain ⟨rfl, rfl⟩ := e
    simp only [Gh.addB, and_self, if_true] at hq
    cases hq
    exact Nat.ne_of_gt hc
  · simp only [Gh.addB] at hq
    rw [if_neg e] at hq
    refine u x g q ?_ hq
    have hm : ∀ y, (h.m.put b (some (.blk (extA A new)))).get y = if y = b then some (.blk (extA A new)) else h.m.get y := fun y => PT.get_put _ _ _ _
    simp only [Live, hm] at hx ⊢
    by_cases ex : x = b
    · subst ex
      rw [if_pos rfl] at hx; rw [hA]
      have h1 : A.lw ≤ g := hx.1
      have h2 : g ≤ A.gen + 1 := hx.2
      exact ⟨h1, by have : g ≠ A.gen + 1 := fun q => e ⟨rfl, q⟩; omega⟩
    · rw [if_neg ex] at hx; exact hx
end
end Go.Vd

namespace Go.Vd
open Go Go.RowKit

section
variable {P : Program} {H : Hints} {isG : Nat → Bool} {sz : Nat} {ns : Nms} {o : Oper}
theorem fresh_val {B0 : Nat} {W w : World} {G : Gh} {h : AHeap} (R : Rel B0 W G h w) {esz n cap' : Nat} {cs : List AV} {vs more : List Value} (V : VRels G cs vs) (hl : cs.length = n * esz) (hm : more.length = (cap' - n) * esz) (hc : n ≤ cap') (e : TypeId) :
    ∃ G', Stp B0 W G h w G' (h.alloc cs) (w.drew.alloc (.cells (vs ++ more).toArray e)) ∧ VRel G' (.slice h.next 0 0 n n esz false) (.slice (some ⟨w.heap.size, 0, none⟩) n cap') := by
  have hvl : vs.length = n * esz := by rw [← V.length]; exact hl
  obtain ⟨G', S, VV⟩ := allocSl_val (more := more) R.drew V e (len := n) (cap := n) (cap' := cap') (esz := esz) (ex := false) (Nat.le_refl _) hl.symm hc (by rw [hvl, hm, ← Nat.add_mul, Nat.add_sub_cancel' hc]) (fun h => by cases h)
  exact ⟨G', R.sDrew.trans S, VV⟩
theorem app_val {B0 : Nat} {W w : World} {G : Gh} {h : AHeap} (R : Rel B0 W G h w) {ts : Array TypeId} {t u ty e : TypeId} {i : TypeInfo} {d : TypeDesc} {z : Value} (h0 : ts[0]? = some t) (h1 : ts[1]? = some u)
    (ht : P.underlying t = some (.slice e)) (hu : P.underlying u = some d) (hd : ∀ k, d ≠ .int k) (hi : P.info? e = some i) (hz : i.zero = some z) (hzs : z.cells.size = i.size) {s x r : AV} {sv xv : Value} {h' : AHeap}
    (VS : VRel G s sv) (VX : VRel G x xv) (ha : appAV h i.size i.bytes s x = some (r, h')) : ∃ G' v w', (Builtin.append_ ts ty #[sv, xv]).run P w = .ok v w' ∧ Stp B0 W G h w G' h' w' ∧ VRel G' r v := by
  unfold appAV at ha
  split at ha
  · cases ha
  · rename_i new he
    obtain ⟨vs, V, hl, hlen, hf, hfd⟩ := src_val (P := P) R VX he
    have hv0 : vs = [] := by
      have := V.length; rw [hl] at this; simp at this; exact List.eq_nil_of_length_eq_zero (by omega)
    subst hv0
    have hst : ∀ a : Addr, (storeCells a ([] : List Value).toArray.toList).run P w = .ok () w := fun a => by simp [storeCells]
    split at ha
    · cases ha; cases VS
      exact ⟨G, _, w, run_app_nil0 h0 h1 ht hu hd hi hlen hf, Stp.refl R, .nils⟩
    · cases ha
      have VS0 := VS
      cases VS with
      | fl _ _ _ hc _ _ => exact ⟨G, _, w, run_app_fit h0 h1 ht hu hd hi hlen hf (by omega) (hst _), Stp.refl R, VS0⟩
    · cases ha
      have VS0 := VS
      cases VS with
      | slice _ _ k1 k2 _ _ _ _ => exact ⟨G, _, w, run_app_fit h0 h1 ht hu hd hi hlen hf (by omega) (hst _), Stp.refl R, VS0⟩
    · cases ha
  · rename_i k new hk he
    have hk0 : 0 < k := by
      rcases Nat.eq_zero_or_pos k with q | q
      · subst q; exact (hk rfl).elim
      · exact q
    obtain ⟨vs, V, hl, hlen, hf, hfd⟩ := src_val (P := P) R VX he
    have big : ∀ n, n * Nat.succ i.bytes ≤ 1099511627776 → n * i.bytes ≤ 1099511627776 ∧ n ≤ 4611686018427387904 := fun n hn => by
      rw [Nat.mul_succ] at hn; omega
    have hzl : ∀ n, (Builtin.zeroCells z.cells n).toList.length = n * i.size := fun n => by
      rw [Array.length_toList]; simp [Builtin.zeroCells, hzs]
    split at ha
    · split at ha
      · rename_i hb
        cases ha; cases VS
        obtain ⟨b1, b2⟩ := big k (ble_iff.1 hb)
        obtain ⟨cap', c1, hr⟩ := run_app_move (base := none) (n := 0) (cap := 0) (old := #[]) h0 h1 ht hu hd hi hz (ty := ty) hlen hfd (by simp [Builtin.firstCells]) (by omega) (by rw [Nat.zero_add]; exact b1) (by omega)
        rw [Nat.zero_add] at c1 hr
        obtain ⟨G', S, VV⟩ := fresh_val (more := (Builtin.zeroCells z.cells (cap' - k)).toList) R V hl (hzl _) c1 e
        refine ⟨G', _, _, hr, ?_, VV⟩
        have : #[] ++ vs.toArray ++ Builtin.zeroCells z.cells (cap' - k) = (vs ++ (Builtin.zeroCells z.cells (cap' - k)).toList).toArray := by
          apply Array.ext'; simp
        rw [this]; exact S
      · cases ha
    · rename_i fs of len e' ex
      split at ha
      · rename_i old he' hp hbig
        cases ha
        obtain ⟨b1, b2⟩ := big (len + k) (ble_iff.1 hbig)
        obtain rfl : i.size = e' := (beq_iff.1 he').symm
        cases VS with
        | fl hzz hvv hff hc hxx haa =>
          rename_i c base cap us ad
          obtain ⟨ovs, ov, ol, olen, of1, of2⟩ := src_val (P := P) (esz := i.size) (k := len) (new := old) R (VRel.fl (ex := true) hzz hvv hff hc hxx haa) (by simp only [elemsAV, hp]; rw [beq_iff.2 rfl])
          have hcap : cap = len := hxx rfl
          obtain ⟨cap', c1, hr⟩ := run_app_move (base := some ad) (n := len) (cap := cap) (old := ovs.toArray) h0 h1 ht hu hd hi hz (ty := ty) hlen hfd of2 (by omega) b1 b2
          obtain ⟨G', S, VV⟩ := fresh_val (esz := i.size) (n := len + k) (more := (Builtin.zeroCells z.cells (cap' - (len + k))).toList) R (ov.append V) (by rw [List.length_append, ol, hl, Nat.add_mul]) (hzl _) c1 e
          refine ⟨G', _, _, hr, ?_, ?_⟩
          · have : ovs.toArray ++ vs.toArray ++ Builtin.zeroCells z.cells (cap' - (len + k)) = (ovs ++ vs ++ (Builtin.zeroCells z.cells (cap' - (len + k))).toList).toArray := by
              apply Array.ext'; simp
            rw [this, lapp_eq]; exact S
          · exact VV
      · cases ha
    · rename_i b of gn len cap e' ex
      split at ha
      · rename_i he' hbig
        obtain ⟨b1, b2⟩ := big (len + k) (ble_iff.1 hbig)
        obtain rfl : i.size = e' := (beq_iff.1 he').symm
        have VS0 := VS
        cases VS with
        | slice hB hlo k1 k2 hxx haa hnn hss =>
          rename_i cap' pl ad
          split at ha
          · rename_i hfit
            have hfit := ble_iff.1 hfit
            have hfit' : len + k ≤ cap := hfit
            split at ha
            · rename_i h2 hw
              cases ha
              have had : ad = ⟨pl.c, pl.off + (of - pl.lo), none⟩ := by
                rcases haa with q | q
                · omega
                · exact q
              subst had
              obtain ⟨w', hr, S⟩ := R.sWrn (P := P) (o := of + len * i.size) hw hB (by omega) V
              refine ⟨G, _, w', run_app_fit h0 h1 ht hu hd hi hlen hf (by omega) ?_, S, ?_⟩
              · rw [addr_add]
                rw [show pl.off + (of - pl.lo) + len * i.size = pl.off + (of + len * i.size - pl.lo) by omega]
                exact hr
              · exact .slice hB hlo hfit' k2 hxx haa hnn hss
            · cases ha
          · rename_i hnofit
            have hnofit := ble_ff.1 hnofit
            have hnofit' : ¬ len + k ≤ cap := hnofit
            split at ha
            · split at ha
              · rename_i old hrd
                cases ha
                obtain ⟨ovs, ov, ol, olen, of1, of2⟩ := src_val (P := P) (esz := i.size) (k := len) (new := old) R VS0 (by
                  have hrd' : h.rdn b of gn (len * i.size) = some old := hrd
                  simp only [elemsAV]; rw [beq_iff.2 rfl, show Nat.mul len i.size = len * i.size from rfl, hrd'])
                have hcap : cap' = cap := hxx rfl
                obtain ⟨cap2, c1, hr⟩ := run_app_move (base := some ad) (n := len) (cap := cap') (old := ovs.toArray) h0 h1 ht hu hd hi hz (ty := ty) hlen hfd of2 (by omega) b1 b2
                obtain ⟨G', S, VV⟩ := fresh_val (esz := i.size) (n := len + k) (more := (Builtin.zeroCells z.cells (cap2 - (len + k))).toList) R (ov.append V) (by rw [List.length_append, ol, hl, Nat.add_mul]) (hzl _) c1 e
                refine ⟨G', _, _, hr, ?_, VV⟩
                have : ovs.toArray ++ vs.toArray ++ Builtin.zeroCells z.cells (cap2 - (len + k)) = (ovs ++ vs ++ (Builtin.zeroCells z.cells (cap2 - (len + k))).toList).toArray := by
                  apply Array.ext'; simp
                rw [this, lapp_eq]; exact S
              · cases ha
            · split at ha
              · cases ha
              · rename_i A hA0
                split at ha
                · rename_i hg hend hcells
                  cases ha
                  have hA := blk?_some hA0
                  have hg := beq_iff.1 hg
                  subst hg
                  have hend : of + len * i.size = A.n := beq_iff.1 hend
                  have hcells : new.all isCell = true := by rw [← allCells_eq]; exact hcells
                  by_cases hroom : len + k ≤ cap'
                  · have had : ad = ⟨pl.c, pl.off + (of - pl.lo), none⟩ := by
                      rcases haa with q | q
                      · omega
                      · exact q
                    subst had
                    obtain ⟨G', w', hr, S, hB'⟩ := R.sExtIn (P := P) (k := k) hA hB hlo hend hroom hss V hl hcells
                    refine ⟨G', _, w', run_app_fit h0 h1 ht hu hd hi hlen hf hroom (by rw [addr_add]; exact hr), S, ?_⟩
                    refine .slice (p := { pl with n := A.n + new.length }) hB' hlo (Nat.le_refl _) hroom (fun h => by cases h) (.inr rfl) ?_ hss
                    show of + (len + k) * i.size ≤ A.n + new.length
                    rw [hl, Nat.add_mul]; omega
                  · obtain ⟨ovs, ov, ol, olen, of1, of2⟩ : ∃ ovs : List Value, ovs.length = len * i.size ∧ (∀ (j : Nat) v, ovs[j]? = some v → w.cell? ⟨pl.c, pl.off + (of - pl.lo) + j, none⟩ = some v) ∧
                        (Builtin.firstCells i.size len (.slice (some ad) len cap')).run P w.drew = .ok ovs.toArray w.drew ∧ True ∧ True := by
                      obtain ⟨hlw, hgn, _⟩ := R.blk b A hA
                      obtain ⟨q, hq, K⟩ := hgn A.gen hlw (Nat.le_refl _)
                      rw [hB] at hq; cases hq
                      have hmul : len * i.size ≤ cap' * i.size := Nat.mul_le_mul_right _ (by omega)
                      have hex : ∀ j, j < len * i.size → ∃ v, w.cell? ⟨pl.c, pl.off + (of - pl.lo) + j, none⟩ = some v := fun j hj => Option.isSome_iff_exists.1 (K.room _ (by omega)).1
                      have : ∀ n, n ≤ len * i.size → ∃ ovs : List Value, ovs.length = n ∧ ∀ (j : Nat) v, ovs[j]? = some v → w.cell? ⟨pl.c, pl.off + (of - pl.lo) + j, none⟩ = some v := by
                        intro n
                        induction n with
                        | zero => intro _; exact ⟨[], rfl, fun j v hv => by simp at hv⟩
                        | succ n ih =>
                          intro hn
                          obtain ⟨l, l1, l2⟩ := ih (by omega)
                          obtain ⟨v, hv⟩ := hex n (by omega)
                          refine ⟨l ++ [v], by simp [l1], fun j u hu => ?_⟩
                          by_cases q : j < l.length
                          · rw [List.getElem?_append_left q] at hu; exact l2 j u hu
                          · rw [List.getElem?_append_right (by omega)] at hu
                            have hj : j = n := by
                              rcases Nat.lt_or_ge (j - l.length) 1 with q' | q'
                              · omega
                              · rw [List.getElem?_eq_none (by simpa using q')] at hu; cases hu
                            subst hj
                            rw [show j - l.length = 0 by omega] at hu
                            simp at hu; subst hu; exact hv
                      obtain ⟨ovs, q1, q2⟩ := this (len * i.size) (Nat.le_refl _)
                      refine ⟨ovs, q1, q2, ?_, trivial, trivial⟩
                      have hcell : ∀ (j : Nat) v, ovs[j]? = some v → w.drew.cell? (ad.add j) = some v := fun j v hj => by
                        rw [World.cell?_drew]
                        rcases haa with q | q
                        · have : len * i.size = 0 := by rw [show len = 0 by omega]; simp
                          rw [this] at q1
                          rw [List.eq_nil_of_length_eq_zero q1] at hj; simp at hj
                        · subst q; rw [addr_add]; exact q2 j v hj
                      have := run_loadCells_list (P := P) w.drew ad ovs hcell
                      rw [q1] at this
                      simp [Builtin.firstCells, this]
                    obtain ⟨cap2, c1, hr⟩ := run_app_move (base := some ad) (n := len) (cap := cap') (old := ovs.toArray) h0 h1 ht hu hd hi hz (ty := ty) hlen hfd olen (by omega) b1 b2
                    obtain ⟨G', S, hB'⟩ := R.sExtMove (esz := i.size) (k := k) (cap' := cap2) (old := ovs) (vs := vs) (more := (Builtin.zeroCells z.cells (cap2 - (len + k))).toList) hA hB hlo hend c1 V hl ov ol (hzl _) e
                    refine ⟨G', _, _, hr, ?_, ?_⟩
                    · have : ovs.toArray ++ vs.toArray ++ Builtin.zeroCells z.cells (cap2 - (len + k)) = (ovs ++ vs ++ (Builtin.zeroCells z.cells (cap2 - (len + k))).toList).toArray := by
                        apply Array.ext'; simp
                      rw [this]; exact S
                    · have := VRel.slice (G := G') (b := b) (o := of) (g := A.gen + 1) (len := len + k) (cap := len + k) (esz := i.size) (cap' := cap2) (ex := false) (a := ⟨w.heap.size, 0, none⟩) hB' (Nat.le_refl _) (Nat.le_refl _) c1 (fun h => by cases h) (.inr (by simp))
                        (by show of + (len + k) * i.size ≤ A.n + new.length; rw [hl, Nat.add_mul]; omega) (by simp)
                      exact this
                · cases ha
      · cases ha
    · cases ha
end
end Go.Vd

namespace Go.Vd
open Go Go.RowKit

section
variable {P : Program} {H : Hints} {isG : Nat → Bool} {sz : Nat} {ns : Nms} {o : Oper}
theorem app_s {b : Call} {r : OpR} (hop : o.op = .call b) (hb : b.callee = .builtin .append) (h : compApp P H ns b = some r) : ValS P H isG sz ns o r := by
  unfold compApp at h
  split at h
  · rename_i s x t u ha h0 h1
    split at h
    · cases h
    · rename_i sx xx el du hnot hs hx ht hu
      split at h
      · rename_i i hi
        split at h
        · rename_i z hz
          split at h
          · rename_i hzs
            cases h
            intro cf B0 W G g l h a w R X
            have ha' : b.args = #[s, x] := by rw [← Array.toArray_toList (xs := b.args), ha]
            unfold oApp
            cases hsv : sx g l with
            | none => trivial
            | some sv =>
              cases hxv : xx g l with
              | none => trivial
              | some xv =>
                simp only
                cases hr : appAV h i.size i.bytes sv xv with
                | none => trivial
                | some rh =>
                  obtain ⟨r, h'⟩ := rh
                  have hd : ∀ k, du ≠ .int k := fun k q => by subst q; exact hnot k rfl
                  obtain ⟨G', v, w', e1, e2, e3⟩ := app_val (P := P) (ty := o.type) R h0 h1 ht hu hd hi hz hzs (X.opd hs hsv) (X.opd hx hxv) hr
                  exact ⟨G', v, w', by simp [execOp, hop, resolve, hb, ha', invoke, builtin, e1], e2, e3⟩
          · cases h
        · cases h
      · cases h
    · cases h
  · cases h
theorem panic_s {q : Operand} {x : OpdR} (hop : o.op = .panic q) (hx : compOpd H ns q = some x) : OpS P H isG sz ns o (oPanicI x) := by
  intro cf _ B0 W G g l h a w R X next Q
  unfold oPanicI
  cases hv : x g l with
  | none => trivial
  | some v =>
    cases v <;> try trivial
    rename_i t u
    have V := X.opd hx hv
    intro K
    show o.upon P a next Q _
    generalize hq : a.eval q = qv at V
    have : (execOp a.eval o).run P w = .halt (.panic qv) w := by
      cases V
      simp [execOp, hop, hq, Instr.panic]
    rw [this]
    exact K G qv w (Stp.refl R) V
theorem frz_s {q : Operand} {x : OpdR} (hop : o.op = .assign q) (hx : compOpd H ns q = some x) : ValS P H isG sz ns o (oFrz x) := by
  intro cf B0 W G g l h a w R X
  unfold oFrz
  cases hv : x g l with
  | none => trivial
  | some v =>
    have V := X.opd hx hv
    have hrun : (execOp a.eval o).run P w = .ok (.value (a.eval q)) w := by simp [execOp, hop]
    simp only
    cases hf : frzAV h v with
    | none => trivial
    | some rh =>
      obtain ⟨r, h'⟩ := rh
      unfold frzAV at hf
      split at hf
      · rename_i b gn
        split at hf
        · rename_i A hA0
          split at hf
          · rename_i cs hg hcs
            cases hf
            have hA := blk?_some hA0
            have hg := beq_iff.1 hg
            subst hg
            generalize hq : a.eval q = qv at V
            cases V with
            | ptr hB hl =>
              rename_i p
              obtain ⟨e1, e2⟩ := ptPart_some hcs
              obtain ⟨hlw, hgn, _⟩ := R.blk b A hA
              obtain ⟨p', hp', K⟩ := hgn A.gen hlw (Nat.le_refl _)
              rw [hB] at hp'; cases hp'
              have hpn : p.n = A.n := by rw [K.n, lenAt_gen]
              obtain ⟨vs, q1, q2, q3⟩ := loadCells_rel (w := w) (G := G) (c := p.c) (s := p.off) (n := A.n) (cs := cs) e1 fun j c hc => by
                have hj : j < A.n := by
                  rcases Nat.lt_or_ge j cs.length with z | z
                  · omega
                  · rw [List.getElem?_eq_none z] at hc; cases hc
                have := e2 j hj
                rw [Nat.zero_add] at this
                obtain ⟨u, hu, U⟩ := K.cells j c (by omega) (by omega) (by rw [this]; exact hc)
                exact ⟨u, by rw [show p.off + j = p.off + (j - p.lo) by omega]; exact hu, U⟩
              have S := R.sFreeze hA hB (base := p.off) (vs := vs) q3
              refine ⟨_, _, w, hrun, S, ?_⟩
              rw [hq]
              have := VRel.imm (G := G.addZ p.c (p.off, vs)) (fs := cs) (o := 0) (c := p.c) (base := p.off) (vs := vs) (by simp [Gh.addZ]) (q2.mono S.le)
              rw [show p.off + (0 - p.lo) = p.off + 0 by omega]
              exact this
          · cases hf
        · cases hf
      · rename_i b of gn len cap esz ex
        split at hf
        · rename_i A hA0
          split at hf
          · rename_i cs hg hle hcs
            cases hf
            have hA := blk?_some hA0
            have hg := beq_iff.1 hg
            subst hg
            have hle : of + len * esz ≤ A.n := ble_iff.1 hle
            generalize hq : a.eval q = qv at V
            cases V with
            | slice hB hl k1 k2 hxx haa hnn hss =>
              rename_i cap' p ad
              obtain ⟨e1, e2⟩ := ptPart_some hcs
              obtain ⟨hlw, hgn, _⟩ := R.blk b A hA
              obtain ⟨p', hp', K⟩ := hgn A.gen hlw (Nat.le_refl _)
              rw [hB] at hp'; cases hp'
              have hpn : p.n = A.n := by rw [K.n, lenAt_gen]
              have e1 : cs.length = len * esz := e1
              obtain ⟨vs, q1, q2, q3⟩ := loadCells_rel (w := w) (G := G) (c := p.c) (s := p.off + (of - p.lo)) (n := len * esz) (cs := cs) e1 fun j c hc => by
                have hj : j < len * esz := by
                  rcases Nat.lt_or_ge j cs.length with z | z
                  · omega
                  · rw [List.getElem?_eq_none z] at hc; cases hc
                have := e2 j hj
                obtain ⟨u, hu, U⟩ := K.cells (of + j) c (by omega) (by omega) (by rw [this]; exact hc)
                exact ⟨u, by rw [show p.off + (of - p.lo) + j = p.off + (of + j - p.lo) by omega]; exact hu, U⟩
              have S := R.sFreeze hA hB (base := p.off + (of - p.lo)) (vs := vs) q3
              refine ⟨_, _, w, hrun, S, ?_⟩
              rw [hq]
              exact .fl (c := p.c) (base := p.off + (of - p.lo)) (vs := vs) (by simp [Gh.addZ]) (q2.mono S.le) (by omega) (by omega) (fun h => by cases h) (by rcases haa with z | z; exact .inl z; exact .inr (by rw [z]; simp))
          · cases hf
        · cases hf
      · cases hf; exact ⟨G, _, w, hrun, Stp.refl R, V⟩
      · cases hf; exact ⟨G, _, w, hrun, Stp.refl R, V⟩
      · cases hf; exact ⟨G, _, w, hrun, Stp.refl R, V⟩
      · cases hf; exact ⟨G, _, w, hrun, Stp.refl R, V⟩
      · cases hf

/-! ## calls -/
theorem callFunc_body {f : Nat} (hb : hasBody P f = true) (args : Array Value) (w : World) : (callFunc f args).run P w = .ok (.enter f args) w := by
  unfold hasBody at hb
  split at hb
  · rename_i fn hf
    simp only [Bool.and_eq_true, Bool.not_eq_true'] at hb
    obtain ⟨h1, h2⟩ := hb
    have h3 : fn.body.isNone = false := by
      cases hfb : fn.body with
      | none => rw [hfb] at h1; cases h1
      | some c => rfl
    simp only [callFunc, Sem.run_bind, run_program, Result.andThen_ok, hf, h2, Bool.false_eq_true, if_false, h3]
    rfl
  · cases hb
/-- What is left behind a call. -/
theorem call_core {cf : CallF} (hcf : CallS P H cf) {B0 : Nat} {W : World} {G : Gh} {h : AHeap} {a : Act} {w : World} (R : Rel B0 W G h w) {f : Nat} {vs : List AV} {ws : Array Value} (V : VRels G vs ws.toList)
    (hglob : ∀ b cs, H.glob b = some cs → ∃ us, G.Z b = some (0, us) ∧ VRels G cs us) (hrun : (execOp a.eval o).run P w = .ok (.enter f ws) w) (next : Act → World → Prop) (Q : Exit → Act → World → Prop) :
    match cf f vs h with
    | .fail => True
    | .ok v h' => (∀ G' v' w', Stp B0 W G h w G' h' w' → VRel G' v v' → next (a.put o.dst v') w') → o.wp P a w next Q
    | .pan v h' => (∀ G' v' w', Stp B0 W G h w G' h' w' → VRel G' v v' → Q (.panic [{ v := v', recovered := false }]) a w') → o.wp P a w next Q := by
  have k := hcf f vs h B0 W G w ws R V hglob
  split
  · trivial
  · rename_i v h' e
    rw [e] at k
    intro K
    show o.upon P a next Q _
    rw [hrun]
    refine k.mono ?_
    rintro e' w' ⟨G', v', rfl, S, VV⟩
    exact K G' v' w' S VV
  · rename_i v h' e
    rw [e] at k
    intro K
    show o.upon P a next Q _
    rw [hrun]
    refine k.mono ?_
    rintro e' w' ⟨G', v', rfl, S, VV⟩
    exact K G' v' w' S VV
theorem call_s {b : Call} {f : Nat} {xs : List OpdR} (hop : o.op = .call b) (hc : b.callee = .value (.func f)) (hb : hasBody P f = true) (hx : compOpds H ns b.args = some xs) : OpS P H isG sz ns o (oCall f xs) := by
  intro cf hcf B0 W G g l h a w R X next Q
  unfold oCall
  cases hv : opds xs g l with
  | none => trivial
  | some vs =>
    have V := X.opds hx hv
    rw [← Array.toList_map] at V
    refine call_core (o := o) hcf R V X.glob ?_ next Q
    simp [execOp, hop, resolve, hc, Act.eval, Deferred.ofValue, invoke, callFunc_body hb]
theorem callv_s {b : Call} {p : Operand} {x : OpdR} {xs : List OpdR} (hop : o.op = .call b) (hc : b.callee = .value p) (hx0 : compOpd H ns p = some x) (hx : compOpds H ns b.args = some xs) : OpS P H isG sz ns o (oCallv (hasBody P) x xs) := by
  intro cf hcf B0 W G g l h a w R X next Q
  unfold oCallv
  cases hv : opds xs g l with
  | none => cases x g l with
    | none => trivial
    | some v => cases v <;> trivial
  | some vs =>
    cases h0 : x g l with
    | none => trivial
    | some v =>
      cases v <;> try trivial
      rename_i f cs
      have V0 := X.opd hx0 h0
      have V := X.opds hx hv
      generalize hq : a.eval p = pv at V0
      cases V0 with
      | func VC =>
        rename_i cvs
        simp only
        cases hb : hasBody P f with
        | false => trivial
        | true =>
          simp only
          have VV := V.append VC
          rw [lapp_eq]
          refine call_core (o := o) (ws := b.args.map a.eval ++ cvs) hcf R (by rw [Array.toList_append, Array.toList_map]; exact VV) X.glob ?_ next Q
          simp [execOp, hop, resolve, hc, hq, Deferred.ofValue, invoke, callFunc_body hb]
end
end Go.Vd

namespace Go.Vd
open Go Go.RowKit

section
variable {P : Program} {H : Hints} {isG : Nat → Bool} {sz : Nat} {ns : Nms} {o : Oper}
theorem compOp_ok {f rg ix : Nat} {r : OpR} (h : compOp P H f ns rg ix o = some r) : OpS P H isG sz ns o r := by
  unfold compOp at h
  split at h
  · rename_i x hop
    obtain ⟨y, hy, rfl⟩ := comp1_some h
    exact (mov_s (.inl hop) hy).op
  · rename_i x hop
    obtain ⟨y, hy, rfl⟩ := comp1_some h
    split
    · exact (frz_s hop hy).op
    · exact (mov_s (.inr hop) hy).op
  · rename_i c a b hop
    split at h
    · rename_i c' hc
      obtain ⟨p, q, hp, hq, rfl⟩ := comp2_some h
      exact (pick_s hop hc hp hq).op
    · cases h
  · rename_i e hop
    split at h
    · rename_i zs hz; cases h; exact (alloc_s hop hz).op
    · cases h
  · rename_i e x hop
    obtain ⟨y, hy, rfl⟩ := comp1_some h
    split
    · exact (boxF_s hop hy).op
    · exact (boxM_s hop hy).op
  · rename_i t ps hop; exact (build_s hop h).op
  · rename_i t len ps hop; exact (bsl_s hop h).op
  · rename_i t x hop
    split at h
    · rename_i n hn
      obtain ⟨y, hy, rfl⟩ := comp1_some h
      exact (load_s hop hn hy).op
    · cases h
  · rename_i t a v hop
    split at h
    · rename_i n hn
      obtain ⟨p, q, hp, hq, rfl⟩ := comp2_some h
      exact store_s hop hn hp hq
    · cases h
  · rename_i x hop
    obtain ⟨y, hy, rfl⟩ := comp1_some h
    exact (nilchk_s hop hy).op
  · rename_i op t x y u hop
    unfold compBin at h
    split at h
    · exact (eq_s (neg := false) hop h).op
    · exact (eq_s (neg := true) hop h).op
    · rename_i h1 h2
      obtain ⟨p, q, hp, hq, rfl⟩ := comp2_some h
      exact (bin_s hop (fun e => h1 e) (fun e => h2 e) hp hq).op
  · rename_i t x hop
    obtain ⟨y, hy, rfl⟩ := comp1_some h
    exact (not_s hop hy).op
  · rename_i t x hop
    obtain ⟨y, hy, rfl⟩ := comp1_some h
    exact (neg_s hop hy).op
  · rename_i t x hop
    obtain ⟨y, hy, rfl⟩ := comp1_some h
    exact (cpl_s hop hy).op
  · rename_i s d x hop
    split at h
    · rename_i k hk
      obtain ⟨y, hy, rfl⟩ := comp1_some h
      exact (conv_s hop hk hy).op
    · cases h
  · rename_i t x hop
    split at h
    · cases h
    · rename_i d hnot hd
      obtain ⟨y, hy, rfl⟩ := comp1_some h
      exact (mkif_s hop hd (fun ms e => hnot ms (by rw [e])) hy).op
    · cases h
  · rename_i g first cs hop
    split at h
    · rename_i xs hf hx; cases h; exact (mkfn_s hop hf hx).op
    · cases h
  · rename_i t x lo hi mx hop
    unfold compSlice at h
    split at h
    · rename_i k y l' h' m' hk hy hl hh hm
      cases h; exact (slice_s hop hk hy hl hh hm).op
    · cases h
  · rename_i s x i hop
    split at h
    · rename_i fs hu
      split at h
      · rename_i fl hf
        split at h
        · rename_i n hn
          obtain ⟨y, hy, rfl⟩ := comp1_some h
          exact (faddr_s hop hu hf hn hy).op
        · cases h
      · cases h
    · cases h
  · rename_i t x i hop
    split at h
    · rename_i fs hu
      split at h
      · rename_i fl hf
        split at h
        · rename_i n hn
          obtain ⟨y, hy, rfl⟩ := comp1_some h
          exact (fld_s hop hu hf hn hy).op
        · cases h
      · cases h
    · cases h
  · rename_i t x i hop
    split at h
    · rename_i k hk
      obtain ⟨p, q, hp, hq, rfl⟩ := comp2_some h
      exact (iaddr_s hop hk hp hq).op
    · cases h
  · rename_i t x i hop
    split at h
    · rename_i hu
      obtain ⟨p, q, hp, hq, rfl⟩ := comp2_some h
      exact (sidx_s hop hu hp hq).op
    · rename_i n e hu
      split at h
      · rename_i k ag hk hag
        obtain ⟨p, q, hp, hq, rfl⟩ := comp2_some h
        exact (idx_s hop hu hk hag hp hq).op
      · cases h
    · cases h
  · rename_i x i hop
    obtain ⟨y, hy, rfl⟩ := comp1_some h
    exact (extr_s hop hy).op
  · rename_i c hop
    unfold compCall at h
    split at h
    · rename_i g hc
      split at h
      · rename_i xs hx
        split at h
        · rename_i hb; cases h; exact call_s hop hc hb hx
        · cases h
      · cases h
    · rename_i x _ hc
      split at h
      · rename_i y xs hy hx; cases h; exact callv_s hop hc hy hx
      · cases h
    · cases h
    · rename_i b hc
      unfold compBuiltin at h
      split at h
      · exact (app_s hop hc h).op
      · unfold compLen at h
        split at h
        · rename_i x t ha ht
          split at h
          · rename_i y hy hu; cases h; exact (lenStr_s hop hc ha ht hu hy).op
          · rename_i y el hy hu; cases h; exact (lenSl_s hop hc ha ht hu hy).op
          · rename_i y n el hy hu; cases h; exact (lenArr_s hop hc ha ht hu).op
          · cases h
        · cases h
      · split at h
        · rename_i xs hx; cases h; exact (minmax_s (mx := false) hop hc hx).op
        · cases h
      · split at h
        · rename_i xs hx; cases h; exact (minmax_s (mx := true) hop hc hx).op
        · cases h
      · cases h
  · rename_i x hop
    obtain ⟨y, hy, rfl⟩ := comp1_some h
    exact panic_s hop hy
  · cases h
end
end Go.Vd

namespace Go.Vd
open Go Go.RowKit

theorem idxOf_cons (x : Option Nat) (xs : Nms) (a : Option Nat) : (x :: xs).idxOf? a = if x = a then some 0 else (xs.idxOf? a).map (· + 1) := by
  rw [List.idxOf?_cons]
  by_cases h : x = a
  · subst h; simp
  · rw [if_neg h, if_neg (by simpa using h)]
section
variable {P : Program} {H : Hints} {isG : Nat → Bool} {sz : Nat} {ns : Nms} {G : Gh} {g : PT AV} {l : List AV} {a : Act}
theorem put_size (a : Act) (d : Option Tmp) (v : Value) : (a.put d v).tmps.size = a.tmps.size := by
  cases d <;> simp [Act.put]
theorem put_defers (a : Act) (d : Option Tmp) (v : Value) : (a.put d v).defers = a.defers := by
  cases d <;> simp [Act.put]
theorem put_getD_same {a : Act} {d : Nat} (h : d < a.tmps.size) (v : Value) : (a.put (some d) v).tmps.getD d undef = v := by
  simp [Act.put, Array.getD, h]
theorem put_getD_ne {a : Act} {d t : Nat} (h : t ≠ d) (v : Value) : (a.put (some d) v).tmps.getD t undef = a.tmps.getD t undef := by
  simp only [Act.put, Array.getD_eq_getD_getElem?]
  rw [Array.getElem?_setIfInBounds, if_neg (fun e => h e.symm)]
/-- The frame too holds what it told. -/
structure EnvT (H : Hints) (isG : Nat → Bool) (sz : Nat) (G : Gh) (ns : Nms) (g : PT AV) (l : List AV) (a : Act) : Prop extends Env H isG sz G ns g l a where
  all : ∀ t v, g.get t = some v → isG t = true ∧ VRel G v (a.tmps.getD t undef)
theorem Env.toT (X : Env H isG sz G [] g [] a) : EnvT H isG sz G [] g [] a := ⟨X, fun t v h => X.fr t v (by simp) h⟩
theorem EnvT.mk' (h1 : sz ≤ a.tmps.size) (h2 : ∀ t v, g.get t = some v → isG t = true ∧ VRel G v (a.tmps.getD t undef)) (h3 : ns.length = l.length)
    (h4 : ∀ t (i : Nat) v, ns.idxOf? (some t) = some i → l[i]? = some v → VRel G v (a.tmps.getD t undef)) (h5 : ∀ b cs, H.glob b = some cs → ∃ vs, G.Z b = some (0, vs) ∧ VRels G cs vs) : EnvT H isG sz G ns g l a :=
  ⟨⟨h1, fun t v _ h => h2 t v h, h3, h4, h5⟩, h2⟩
theorem EnvT.mono {G' : Gh} (hle : G.le G') (X : EnvT H isG sz G ns g l a) : EnvT H isG sz G' ns g l a := ⟨X.toEnv.mono hle, fun t v h => ⟨(X.all t v h).1, (X.all t v h).2.mono hle⟩⟩
theorem EnvT.bare (X : EnvT H isG sz G ns g l a) : Env H isG sz G [] g [] a := ⟨X.size, fun t v _ h => X.all t v h, rfl, fun t i v h => by simp at h, X.glob⟩
theorem EnvT.pushN (X : EnvT H isG sz G ns g l a) (v : AV) : EnvT H isG sz G (none :: ns) g (v :: l) a := by
  refine EnvT.mk' X.size X.all (by simp [X.len]) (fun t i u h e => ?_) X.glob
  rw [idxOf_cons, if_neg (by simp)] at h
  cases hi : ns.idxOf? (some t) with
  | none => rw [hi] at h; cases h
  | some j =>
    rw [hi] at h; cases h
    exact X.loc t j u hi (by simpa using e)
theorem EnvT.pushL (X : EnvT H isG sz G ns g l a) {d : Nat} (hd : d < sz) (hg : isG d = false) {v : AV} {v' : Value} (V : VRel G v v') : EnvT H isG sz G (some d :: ns) g (v :: l) (a.put (some d) v') := by
  have hs : d < a.tmps.size := Nat.lt_of_lt_of_le hd X.size
  refine EnvT.mk' (by rw [put_size]; exact X.size) (fun t u h => ?_) (by simp [X.len]) (fun t i u h e => ?_) X.glob
  · obtain ⟨h1, h2⟩ := X.all t u h
    have hne : t ≠ d := fun q => by subst q; rw [hg] at h1; cases h1
    exact ⟨h1, by rw [put_getD_ne hne]; exact h2⟩
  · rw [idxOf_cons] at h
    by_cases q : d = t
    · subst q
      rw [if_pos rfl] at h; cases h
      simp at e; subst e
      rw [put_getD_same hs]; exact V
    · rw [if_neg (by simpa using q)] at h
      cases hi : ns.idxOf? (some t) with
      | none => rw [hi] at h; cases h
      | some j =>
        rw [hi] at h; cases h
        rw [put_getD_ne (fun z => q z.symm)]
        exact X.loc t j u hi (by simpa using e)
theorem EnvT.pushG (X : EnvT H isG sz G ns g l a) {d : Nat} (hd : d < sz) (hg : isG d = true) {v : AV} {v' : Value} (V : VRel G v v') : EnvT H isG sz G (some d :: ns) (g.put d (some v)) (v :: l) (a.put (some d) v') := by
  have hs : d < a.tmps.size := Nat.lt_of_lt_of_le hd X.size
  refine EnvT.mk' (by rw [put_size]; exact X.size) (fun t u h => ?_) (by simp [X.len]) (fun t i u h e => ?_) X.glob
  · rw [PT.get_put] at h
    by_cases q : t = d
    · subst q; rw [if_pos rfl] at h; cases h
      exact ⟨hg, by rw [put_getD_same hs]; exact V⟩
    · rw [if_neg q] at h
      obtain ⟨h1, h2⟩ := X.all t u h
      exact ⟨h1, by rw [put_getD_ne q]; exact h2⟩
  · rw [idxOf_cons] at h
    by_cases q : d = t
    · subst q
      rw [if_pos rfl] at h; cases h
      simp at e; subst e
      rw [put_getD_same hs]; exact V
    · rw [if_neg (by simpa using q)] at h
      cases hi : ns.idxOf? (some t) with
      | none => rw [hi] at h; cases h
      | some j =>
        rw [hi] at h; cases h
        rw [put_getD_ne (fun z => q z.symm)]
        exact X.loc t j u hi (by simpa using e)
theorem EnvT.skipG (X : EnvT H isG sz G ns g l a) {d : Nat} (hd : d < sz) : EnvT H isG sz G (some d :: ns) (g.put d none) (.undef :: l) (a.put (some d) undef) := by
  have hs : d < a.tmps.size := Nat.lt_of_lt_of_le hd X.size
  refine EnvT.mk' (by rw [put_size]; exact X.size) (fun t u h => ?_) (by simp [X.len]) (fun t i u h e => ?_) X.glob
  · rw [PT.get_put] at h
    by_cases q : t = d
    · rw [if_pos q] at h; cases h
    · rw [if_neg q] at h
      obtain ⟨h1, h2⟩ := X.all t u h
      exact ⟨h1, by rw [put_getD_ne q]; exact h2⟩
  · rw [idxOf_cons] at h
    by_cases q : d = t
    · subst q
      rw [if_pos rfl] at h; cases h
      simp at e; subst e
      rw [put_getD_same hs]; exact .undef
    · rw [if_neg (by simpa using q)] at h
      cases hi : ns.idxOf? (some t) with
      | none => rw [hi] at h; cases h
      | some j =>
        rw [hi] at h; cases h
        rw [put_getD_ne (fun z => q z.symm)]
        exact X.loc t j u hi (by simpa using e)
theorem Env.wanted (X : Env H isG sz G ns g l a) {ops : Array Oper} {o : Oper} {j t i : Nat} {want b : Bool} (hg : o.guard = some (j, want)) (ht : (ops[j]?).bind (·.dst) = some t) (hi : ns.idxOf? (some t) = some i)
    (hb : wantedA l i want = some b) : Region.wanted o (yielded ops a.tmps) = b := by
  unfold wantedA at hb
  rw [lget_eq] at hb
  simp only [Region.wanted, hg, yielded, ht, Option.bind_some]
  split at hb
  · rename_i q hq
    cases hb
    have V := X.loc t i _ hi hq
    rw [Array.getD_eq_getD_getElem?] at V
    cases hx : a.tmps[t]? with
    | none => rw [hx] at V; simp [undef] at V; cases V
    | some x =>
      rw [hx] at V
      simp only [Option.getD_some] at V
      cases V
      cases q <;> cases want <;> rfl
  · rename_i v hnot hq
    cases hb
    have V := X.loc t i _ hi hq
    rw [Array.getD_eq_getD_getElem?] at V
    cases hx : a.tmps[t]? with
    | none => cases want <;> rfl
    | some x =>
      rw [hx] at V
      simp only [Option.getD_some] at V
      cases V <;> first | (exact absurd rfl (hnot _)) | (cases want <;> rfl)
  · cases hb
end

/-- What holds behind code that leaves so. -/
def ExQ (G : Gh) (e : Ex) (Q : Exit → Act → World → Prop) (a : Act) (w : World) : Prop :=
  match e with
  | .normal => Q .normal a w
  | .exit id => Q (.exit id) a w
  | .ret => Q .ret a w
  | .pan v => ∀ v', VRel G v v' → Q (.panic [{ v := v', recovered := false }]) a w

section
variable {P : Program} {H : Hints} {isG : Nat → Bool} {sz : Nat}
theorem compOps_ok {f rg : Nat} {ops : Array Oper} : ∀ (os : List (Oper × Nat)) (ns : Nms) (r : RegR), compOps P H f isG sz rg ops ns os = some r → (∀ p ∈ os, ops[p.2]? = some p.1) →
    ∀ (cf : CallF), CallS P H cf → ∀ (B0 : Nat) (W : World) (G : Gh) (g : PT AV) (l : List AV) (h : AHeap) (a : Act) (w : World), Rel B0 W G h w → EnvT H isG sz G ns g l a → ∀ (Q : Exit → Act → World → Prop),
    match r cf l g h with
    | .fail => True
    | .ok e g' h' => (∀ G' a' w', Stp B0 W G h w G' h' w' → Env H isG sz G' [] g' [] a' → a'.defers = a.defers → ExQ G' e Q a' w') → wpOps P ops Q (os.map (·.2)) a w
  | [], ns, r, hr, _, cf, hcf, B0, W, G, g, l, h, a, w, R, X, Q => by
    cases hr
    intro K
    exact K G a w (Stp.refl R) X.bare rfl
  | (o, ix) :: os, ns, r, hr, hat, cf, hcf, B0, W, G, g, l, h, a, w, R, X, Q => by
    have ho : ops[ix]? = some o := hat (o, ix) (by simp)
    have hat' : ∀ p ∈ os, ops[p.2]? = some p.1 := fun p hp => hat p (by simp [hp])
    simp only [compOps] at hr
    split at hr
    · rename_i op r' hop hr'
      have OK := compOp_ok (P := P) (isG := isG) (sz := sz) hop
      have IH := compOps_ok os (o.dst :: ns) r' hr' hat' cf hcf
      -- an operation that runs
      have runs : ∀ (g1 : AV → PT AV), (∀ G' v v', VRel G' v v' → EnvT H isG sz G' ns g l a → EnvT H isG sz G' (o.dst :: ns) (g1 v) (v :: l) (a.put o.dst v')) → Region.wanted o (yielded ops a.tmps) = true →
          match (match op cf g l h with | .ok v h => r' cf (v :: l) (g1 v) h | .pan v h => .ok (.pan v) g h | .fail => .fail) with
          | .fail => True
          | .ok e g' h' => (∀ G' a' w', Stp B0 W G h w G' h' w' → Env H isG sz G' [] g' [] a' → a'.defers = a.defers → ExQ G' e Q a' w') → wpOps P ops Q (((o, ix) :: os).map (·.2)) a w := by
        intro g1 hpush hw
        have k := OK cf hcf B0 W G g l h a w R X.toEnv (wpOps P ops Q (os.map (·.2))) Q
        have hunf : wpOps P ops Q (((o, ix) :: os).map (·.2)) a w = (o.wp P a w (wpOps P ops Q (os.map (·.2))) Q ∨ (o.asks P a w ∧ LetsOut Q)) := by
          simp only [List.map_cons, wpOps, ho, hw, if_true]
        cases hx : op cf g l h with
        | fail => trivial
        | pan v h1 =>
          rw [hx] at k
          intro K
          rw [hunf]
          exact .inl (k fun G' v' w' S V => K G' a w' S (X.mono S.le).bare rfl v' V)
        | ok v h1 =>
          rw [hx] at k
          simp only
          have IH' := fun G' v' w' (S : Stp B0 W G h w G' h1 w') (V : VRel G' v v') => IH B0 W G' (g1 v) (v :: l) h1 (a.put o.dst v') w' S.rel (hpush G' v v' V (X.mono S.le)) Q
          cases hy : r' cf (v :: l) (g1 v) h1 with
          | fail => trivial
          | ok e g2 h2 =>
            intro K
            rw [hunf]
            refine .inl (k fun G' v' w' S V => ?_)
            have := IH' G' v' w' S V
            rw [hy] at this
            exact this fun G2 a2 w2 S2 X2 hd => K G2 a2 w2 (S.trans S2) X2 (by rw [hd, put_defers])
      -- an operation that doesn't
      have skips : ∀ (g1 : PT AV), EnvT H isG sz G (o.dst :: ns) g1 (.undef :: l) (a.put o.dst undef) → Region.wanted o (yielded ops a.tmps) = false →
          match r' cf (.undef :: l) g1 h with
          | .fail => True
          | .ok e g' h' => (∀ G' a' w', Stp B0 W G h w G' h' w' → Env H isG sz G' [] g' [] a' → a'.defers = a.defers → ExQ G' e Q a' w') → wpOps P ops Q (((o, ix) :: os).map (·.2)) a w := by
        intro g1 X1 hw
        have hunf : wpOps P ops Q (((o, ix) :: os).map (·.2)) a w = wpOps P ops Q (os.map (·.2)) (a.put o.dst undef) w := by
          simp only [List.map_cons, wpOps, ho, hw, if_false, Bool.false_eq_true]
        have := IH B0 W G g1 (.undef :: l) h (a.put o.dst undef) w R X1 Q
        cases hy : r' cf (.undef :: l) g1 h with
        | fail => trivial
        | ok e g2 h2 =>
          rw [hy] at this
          intro K
          rw [hunf]
          exact this fun G2 a2 w2 S2 X2 hd => K G2 a2 w2 S2 X2 (by rw [hd, put_defers])
      split at hr
      · rename_i hd hgd
        cases hr
        exact runs (fun _ => g) (fun G' v v' V X' => by rw [hd]; exact X'.pushN v) (by simp [Region.wanted, hgd])
      · rename_i d hd hgd
        split at hr
        · rename_i hlt
          split at hr
          · rename_i hg; cases hr
            exact runs (fun v => g.put d (some v)) (fun G' v v' V X' => by rw [hd]; exact X'.pushG hlt hg V) (by simp [Region.wanted, hgd])
          · rename_i hg; cases hr
            exact runs (fun _ => g) (fun G' v v' V X' => by rw [hd]; exact X'.pushL hlt (by simpa using hg) V) (by simp [Region.wanted, hgd])
        · cases hr
      · rename_i dst j want hgd
        split at hr
        · rename_i t ht
          split at hr
          · rename_i i hi
            split at hr
            · rename_i hd
              cases hr
              unfold rGOp
              cases hb : wantedA l i want with
              | none => trivial
              | some b =>
                have hw := X.toEnv.wanted hgd ht hi hb
                cases b with
                | true => exact runs (fun _ => g) (fun G' v v' V X' => by rw [hd]; exact X'.pushN v) hw
                | false => exact skips g (by rw [hd]; exact X.pushN _) hw
            · rename_i d hd
              split at hr
              · rename_i hlt
                split at hr
                · rename_i hg; cases hr
                  unfold rGDst
                  cases hb : wantedA l i want with
                  | none => trivial
                  | some b =>
                    have hw := X.toEnv.wanted hgd ht hi hb
                    cases b with
                    | true => exact runs (fun v => g.put d (some v)) (fun G' v v' V X' => by rw [hd]; exact X'.pushG hlt hg V) hw
                    | false => exact skips (g.put d none) (by rw [hd]; exact X.skipG hlt) hw
                · rename_i hg; cases hr
                  unfold rGOp
                  cases hb : wantedA l i want with
                  | none => trivial
                  | some b =>
                    have hw := X.toEnv.wanted hgd ht hi hb
                    cases b with
                    | true => exact runs (fun _ => g) (fun G' v v' V X' => by rw [hd]; exact X'.pushL hlt (by simpa using hg) V) hw
                    | false => exact skips g (by rw [hd]; exact X.pushL hlt (by simpa using hg) .undef) hw
              · cases hr
          · cases hr
        · cases hr
    · cases hr
end
end Go.Vd

namespace Go.Vd
open Go Go.RowKit

noncomputable section
/-- Are the values alike? (so deep) -/
def avEqL (eq : AV → AV → Bool) (a : List AV) : List AV → Bool :=
  List.rec (motive := fun _ => List AV → Bool) (fun b => match b with | [] => true | _ => false)
    (fun x _ ih b => match b with
      | [] => false
      | y :: ys => match eq x y with | true => ih ys | false => false) a
def avStep (ih : AV → AV → Bool) (a b : AV) : Bool :=
  match a with
  | .undef => match b with | .undef => true | _ => false
  | .bool true => match b with | .bool true => true | _ => false
  | .bool false => match b with | .bool false => true | _ => false
  | .int j x => match b with
      | .int k y => match keq j k with | true => ieq x y | false => false
      | _ => false
  | .str s => match b with | .str t => seq s t | _ => false
  | .nilp => match b with | .nilp => true | _ => false
  | .imm fs o => match b with
      | .imm gs p => match Nat.beq o p with | true => avEqL ih fs gs | false => false
      | _ => false
  | .ptr x o g => match b with
      | .ptr y p i => match Nat.beq x y, Nat.beq o p with | true, true => Nat.beq g i | _, _ => false
      | _ => false
  | .nils => match b with | .nils => true | _ => false
  | .fl fs o len esz ex => match b with
      | .fl gs p m e y => match Nat.beq o p, Nat.beq len m, Nat.beq esz e, ex == y with | true, true, true, true => avEqL ih fs gs | _, _, _, _ => false
      | _ => false
  | .slice x o g len cap esz ex => match b with
      | .slice y p i m c e z => match Nat.beq x y, Nat.beq o p, Nat.beq g i, Nat.beq len m with
        | true, true, true, true => match Nat.beq cap c, Nat.beq esz e with | true, true => ex == z | _, _ => false
        | _, _, _, _ => false
      | _ => false
  | .nilm => match b with | .nilm => true | _ => false
  | .map x => match b with | .map y => Nat.beq x y | _ => false
  | .func f cs => match b with
      | .func g ds => match Nat.beq f g with | true => avEqL ih cs ds | false => false
      | _ => false
  | .nilf => match b with | .nilf => true | _ => false
  | .iface t v => match b with
      | .iface u w => match Nat.beq t u with | true => ih v w | false => false
      | _ => false
  | .nili => match b with | .nili => true | _ => false
  | .agg cs => match b with | .agg ds => avEqL ih cs ds | _ => false
  | .tup cs => match b with | .tup ds => avEqL ih cs ds | _ => false
def avEqF (n : Nat) : AV → AV → Bool := Nat.rec (motive := fun _ => AV → AV → Bool) (fun _ _ => false) (fun _ ih => avStep ih) n
def avEq (a b : AV) : Bool := avEqF 64 a b

structure DOp where
  m : Bool                      -- it may write
  op : OpR
  gd : Option (Nat × Bool)
  sk : Nat                      -- heaps it doesn't see, from the last
  cnt : Nat                     -- and those it may see; 0: it sees just the one
  px : OpdR                     -- the pointer that it reads through
/-- The address of what is never written again. -/
def isImm (v : Option AV) : Bool :=
  match v with
  | some (.imm _ _) => true
  | _ => false
def wantD (gd : Option (Nat × Bool)) (l : List AV) : Option Bool :=
  match gd with
  | none => some true
  | some (i, want) => wantedA l i want
def chkH (op : OpR) (cf : CallF) (g : PT AV) (l : List AV) (v : AV) (hs : List AHeap) : Bool :=
  List.rec (motive := fun _ => Bool) true (fun h _ ih => match op cf g l h with
    | .ok u _ => match avEq u v with | true => ih | false => false
    | _ => false) hs
def evD (cf : CallF) (g : PT AV) (ds : List DOp) : List AV → AHeap → List AHeap → Option (List AV × List AHeap) :=
  List.rec (motive := fun _ => List AV → AHeap → List AHeap → Option (List AV × List AHeap)) (fun l _ hs => some (l, hs)) (fun d _ ih l h hs =>
    match wantD d.gd l with
    | some true => match d.op cf g l h with
      | .ok v h' => match d.m with
        | true => ih (v :: l) h' (h' :: hs)
        | false => match d.cnt with
          | 0 => ih (v :: l) h hs
          | c + 1 => match isImm (d.px g l) with
            | true => ih (v :: l) h hs
            | false => match ih (v :: l) h hs with
              | some (lf, hsf) => match chkH d.op cf g l v (ltake (ldrop d.sk hsf) (c + 1)) with
                | true => some (lf, hsf)
                | false => none
              | none => none
      | _ => none
    | some false => match d.m with
      | true => ih (.undef :: l) h (h :: hs)
      | false => ih (.undef :: l) h hs
    | none => none) ds
/-- The frame behind a drawn region: what it told, from the last. -/
def putsD (fin : List (Option Nat)) : List AV → PT AV → PT AV :=
  List.rec (motive := fun _ => List AV → PT AV → PT AV) (fun _ g => g) (fun d _ ih l g => match l with
    | [] => g
    | v :: l => match d with
      | some t => ih l (g.put t (some v))
      | none => ih l g) fin
def rDraw (ds : List DOp) (fin : List (Option Nat)) : RegR := fun cf _ g h =>
  match evD cf g ds [] h [h] with
  | some (l, h' :: _) => .ok .normal (putsD fin l g) h'
  | _ => .fail
end

theorem avEqL_eq {eq : AV → AV → Bool} (h : ∀ a b, eq a b = true → a = b) : ∀ (a b : List AV), avEqL eq a b = true → a = b
  | [], [], _ => rfl
  | [], _ :: _, e => by cases e
  | x :: a, [], e => by cases e
  | x :: a, y :: b, e => by
    have e' : (match eq x y with | true => avEqL eq a b | false => false) = true := e
    cases q : eq x y with
    | false => rw [q] at e'; cases e'
    | true => rw [q] at e'; rw [h x y q, avEqL_eq h a b e']
theorem avStep_eq {ih : AV → AV → Bool} (hi : ∀ a b, ih a b = true → a = b) (a b : AV) (h : avStep ih a b = true) : a = b := by
  have L := avEqL_eq hi
  cases a with
  | undef => cases b <;> first | rfl | (exact absurd h (by simp [avStep]))
  | bool x => cases b with
    | bool y => cases x <;> cases y <;> first | rfl | (exact absurd h (by simp [avStep]))
    | _ => cases x <;> exact absurd h (by simp [avStep])
  | int j x => cases b with
    | int k y =>
      simp only [avStep] at h
      split at h
      · rename_i q
        rw [ieq_eq] at h
        rw [keq_iff.1 q, eq_of_beq h]
      · cases h
    | _ => exact absurd h (by simp [avStep])
  | str s => cases b with
    | str t => simp only [avStep] at h; rw [seq_eq] at h; rw [eq_of_beq h]
    | _ => exact absurd h (by simp [avStep])
  | nilp => cases b <;> first | rfl | (exact absurd h (by simp [avStep]))
  | imm fs o => cases b with
    | imm gs p =>
      simp only [avStep] at h
      split at h
      · rename_i q; rw [beq_iff.1 q, L _ _ h]
      · cases h
    | _ => exact absurd h (by simp [avStep])
  | ptr x o g => cases b with
    | ptr y p i =>
      simp only [avStep] at h
      split at h
      · rename_i q1 q2; rw [beq_iff.1 q1, beq_iff.1 q2, beq_iff.1 h]
      · cases h
    | _ => exact absurd h (by simp [avStep])
  | nils => cases b <;> first | rfl | (exact absurd h (by simp [avStep]))
  | fl fs o len esz ex => cases b with
    | fl gs p m e y =>
      simp only [avStep] at h
      split at h
      · rename_i q1 q2 q3 q4; rw [beq_iff.1 q1, beq_iff.1 q2, beq_iff.1 q3, eq_of_beq q4, L _ _ h]
      · cases h
    | _ => exact absurd h (by simp [avStep])
  | slice x o g len cap esz ex => cases b with
    | slice y p i m c e z =>
      simp only [avStep] at h
      split at h
      · rename_i q1 q2 q3 q4
        split at h
        · rename_i q5 q6; rw [beq_iff.1 q1, beq_iff.1 q2, beq_iff.1 q3, beq_iff.1 q4, beq_iff.1 q5, beq_iff.1 q6, eq_of_beq h]
        · cases h
      · cases h
    | _ => exact absurd h (by simp [avStep])
  | nilm => cases b <;> first | rfl | (exact absurd h (by simp [avStep]))
  | map x => cases b with
    | map y => simp only [avStep] at h; rw [beq_iff.1 h]
    | _ => exact absurd h (by simp [avStep])
  | func f cs => cases b with
    | func g ds =>
      simp only [avStep] at h
      split at h
      · rename_i q; rw [beq_iff.1 q, L _ _ h]
      · cases h
    | _ => exact absurd h (by simp [avStep])
  | nilf => cases b <;> first | rfl | (exact absurd h (by simp [avStep]))
  | iface t v => cases b with
    | iface u w =>
      simp only [avStep] at h
      split at h
      · rename_i q; rw [beq_iff.1 q, hi _ _ h]
      · cases h
    | _ => exact absurd h (by simp [avStep])
  | nili => cases b <;> first | rfl | (exact absurd h (by simp [avStep]))
  | agg cs => cases b with
    | agg ds => simp only [avStep] at h; rw [L _ _ h]
    | _ => exact absurd h (by simp [avStep])
  | tup cs => cases b with
    | tup ds => simp only [avStep] at h; rw [L _ _ h]
    | _ => exact absurd h (by simp [avStep])
theorem avEqF_eq : ∀ (n : Nat) (a b : AV), avEqF n a b = true → a = b := by
  intro n
  induction n with
  | zero => intro a b h; cases h
  | succ n ih => exact fun a b h => avStep_eq ih a b h
theorem avEq_eq {a b : AV} (h : avEq a b = true) : a = b := avEqF_eq 64 a b h
end Go.Vd

namespace Go.Vd
open Go Go.RowKit

def OR.at (r : OR) (h : AHeap) : OR :=
  match r with
  | .ok v _ => .ok v h
  | .pan v _ => .pan v h
  | .fail => .fail
theorem OR.of_at (h h' : AHeap) (v : Option AV) : (OR.of h v).at h' = OR.of h' v := by cases v <;> rfl
/-- The value hangs on the operands alone. -/
def Pur (r : OpR) : Prop := ∀ cf g l h cf' h', r cf' g l h' = (r cf g l h).at h'
/-- Nothing is written. -/
def Rds (r : OpR) : Prop := ∀ cf g l h, r cf g l h = (r cf g l h).at h
theorem Pur.rds {r : OpR} (h : Pur r) : Rds r := fun cf g l hh => h cf g l hh cf hh
theorem pur_mov (x : OpdR) : Pur (oMov x) := fun _ _ _ _ _ _ => (OR.of_at _ _ _).symm
theorem pur_pick (c x y : OpdR) : Pur (oPick c x y) := by
  intro cf g l h cf' h'
  simp only [oPick]
  rcases c g l with _ | v
  · rfl
  · cases v with
    | bool b => cases b <;> exact (OR.of_at _ _ _).symm
    | _ => rfl
theorem pur_boxF (x : OpdR) : Pur (oBoxF x) := by
  intro cf g l h cf' h'
  simp only [oBoxF]
  cases x g l <;> rfl
theorem pur_build (zs : List AV) (ps : List (Nat × Nat × OpdR)) : Pur (oBuild zs ps) := by
  intro cf g l h cf' h'
  simp only [oBuild]
  cases buildV zs ps g l <;> rfl
theorem pur_bslF (a b : Nat) (zs : List AV) (ps : List (Nat × Nat × OpdR)) : Pur (oBslF a b zs ps) := by
  intro cf g l h cf' h'
  simp only [oBslF]
  cases buildV zs ps g l <;> rfl
theorem rds_load (n : Option Nat) (x : OpdR) : Rds (oLoad n x) := by
  intro cf g l h
  simp only [oLoad]
  cases x g l with
  | none => rfl
  | some v => exact (OR.of_at _ _ _).symm
theorem load_imm {n : Option Nat} {x : OpdR} {cf : CallF} {g : PT AV} {l : List AV} (hx : isImm (x g l) = true) (h h' : AHeap) : oLoad n x cf g l h' = (oLoad n x cf g l h).at h' := by
  simp only [oLoad]
  cases hv : x g l with
  | none => rfl
  | some v =>
    rw [hv] at hx
    cases v with
    | imm fs o => simp only [loadAV]; exact (OR.of_at _ _ _).symm
    | _ => cases hx
theorem pur_nilchk (x : OpdR) : Pur (oNilchk x) := by
  intro cf g l h cf' h'
  simp only [oNilchk]
  cases x g l with
  | none => rfl
  | some v => simp only; cases notNil v <;> rfl
theorem pur_bin (op : BinOp) (x y : OpdR) : Pur (oBin op x y) := by
  intro cf g l h cf' h'
  simp only [oBin]
  cases x g l with
  | none => rfl
  | some v => cases y g l with
    | none => rfl
    | some u => exact (OR.of_at _ _ _).symm
theorem pur_eq (tk : Nat → TK) (neg : Bool) (k : EqK) (x y : OpdR) : Pur (oEq tk neg k x y) := by
  intro cf g l h cf' h'
  simp only [oEq]
  cases x g l with
  | none => rfl
  | some v => cases y g l with
    | none => rfl
    | some u => simp only; cases eqAV tk k v u <;> rfl
theorem pur_not (x : OpdR) : Pur (oNot x) := by
  intro cf g l h cf' h'
  simp only [oNot]
  rcases x g l with _ | v
  · rfl
  · cases v <;> rfl
theorem pur_neg (x : OpdR) : Pur (oNeg x) := by
  intro cf g l h cf' h'
  simp only [oNeg]
  rcases x g l with _ | v
  · rfl
  · cases v <;> rfl
theorem pur_cpl (x : OpdR) : Pur (oCpl x) := by
  intro cf g l h cf' h'
  simp only [oCpl]
  rcases x g l with _ | v
  · rfl
  · cases v <;> first | rfl | exact (OR.of_at _ _ _).symm
theorem pur_mkif (t : Nat) (x : OpdR) : Pur (oMkif t x) := by
  intro cf g l h cf' h'
  simp only [oMkif]
  cases x g l <;> rfl
theorem pur_mkfn (f : Nat) (cs : List OpdR) : Pur (oMkfn f cs) := by
  intro cf g l h cf' h'
  simp only [oMkfn]
  cases opds cs g l <;> rfl
theorem pur_slice (k : SlK) (x : OpdR) (lo hi mx : Option OpdR) : Pur (oSlice k x lo hi mx) := by
  intro cf g l h cf' h'
  simp only [oSlice]
  cases x g l with
  | none => rfl
  | some v => cases opdO lo g l with
    | none => rfl
    | some a => cases opdO hi g l with
      | none => rfl
      | some b => cases opdO mx g l with
        | none => rfl
        | some c => exact (OR.of_at _ _ _).symm
theorem pur_faddr (off : Nat) (x : OpdR) : Pur (oFaddr off x) := by
  intro cf g l h cf' h'
  simp only [oFaddr]
  rcases x g l with _ | v
  · rfl
  · cases v <;> rfl
theorem pur_fld (off : Nat) (n : Option Nat) (x : OpdR) : Pur (oFld off n x) := by
  intro cf g l h cf' h'
  simp only [oFld]
  rcases x g l with _ | v
  · rfl
  · cases v with
    | agg cs =>
      simp only
      cases lpart cs off (n.getD 1) with
      | none => rfl
      | some r => exact (OR.of_at _ _ _).symm
    | _ => rfl
theorem pur_iaddr (k : SlK) (x i : OpdR) : Pur (oIaddr k x i) := by
  intro cf g l h cf' h'
  simp only [oIaddr]
  cases x g l with
  | none => rfl
  | some v => cases opdN i g l with
    | none => rfl
    | some u => exact (OR.of_at _ _ _).symm
theorem pur_idx (esz : Nat) (n : Option Nat) (len : Nat) (x i : OpdR) : Pur (oIdx esz n len x i) := by
  intro cf g l h cf' h'
  simp only [oIdx]
  rcases x g l with _ | v
  · rfl
  · cases v with
    | agg cs => cases opdN i g l with
      | none => rfl
      | some u =>
        simp only
        cases Nat.ble (Nat.succ u) len with
        | false => rfl
        | true => cases lpart cs (Nat.mul u esz) (n.getD 1) with
          | none => rfl
          | some r => exact (OR.of_at _ _ _).symm
    | _ => cases opdN i g l <;> rfl
theorem pur_sidx (x i : OpdR) : Pur (oSidx x i) := by
  intro cf g l h cf' h'
  simp only [oSidx]
  rcases x g l with _ | v
  · rfl
  · cases v with
    | str s => cases opdN i g l with
      | none => rfl
      | some u => simp only; cases lget s u <;> rfl
    | _ => cases opdN i g l <;> rfl
theorem pur_extr (i : Nat) (x : OpdR) : Pur (oExtr i x) := by
  intro cf g l h cf' h'
  simp only [oExtr]
  rcases x g l with _ | v
  · rfl
  · cases v <;> first | rfl | exact (OR.of_at _ _ _).symm
theorem pur_lenStr (x : OpdR) : Pur (oLenStr x) := by
  intro cf g l h cf' h'
  simp only [oLenStr]
  cases x g l with
  | none => rfl
  | some v => exact (OR.of_at _ _ _).symm
theorem pur_lenSl (x : OpdR) : Pur (oLenSl x) := by
  intro cf g l h cf' h'
  simp only [oLenSl]
  cases x g l with
  | none => rfl
  | some v => exact (OR.of_at _ _ _).symm
theorem pur_minmax (mx : Bool) (xs : List OpdR) : Pur (oMinmax mx xs) := by
  intro cf g l h cf' h'
  simp only [oMinmax]
  cases opds xs g l with
  | none => rfl
  | some v => exact (OR.of_at _ _ _).symm

/-- Conversions whose value hangs on the operand alone. -/
def convPur : ConvK → Bool
  | .int _ | .same => true
  | _ => false
theorem pur_conv {k : ConvK} (hk : convPur k = true) (x : OpdR) : Pur (oConv k x) := by
  intro cf g l h cf' h'
  simp only [oConv]
  cases x g l with
  | none => rfl
  | some v =>
    cases k with
    | int j => cases v <;> rfl
    | same => cases v <;> rfl
    | _ => cases hk

section
variable (P : Program) (H : Hints) (f : Nat)
/-- Does the operation's value hang on its operands alone (true), or on memory too (false)? None: it may write. -/
def floatK (rg ix : Nat) (o : Op) : Option Bool :=
  match o with
  | .move _ | .pick .. | .build .. | .nilCheck _ | .binOp .. | .unOp .. | .makeInterface .. | .makeFunc .. | .slice .. | .fieldAddr .. | .field .. | .indexAddr .. | .index .. | .extract .. => some true
  | .assign _ => if H.frz.contains (f, rg, ix) then none else some true
  | .box e _ => if H.fz e && !H.wr.contains (f, rg, ix) then some true else none
  | .buildSlice .. => if H.wr.contains (f, rg, ix) then none else some true
  | .load .. => some false
  | .convert s d _ => match convK P s d with
    | some k => if convPur k then some true else none
    | none => none
  | .call c => match c.callee with
    | .builtin .len | .builtin .min | .builtin .max => some true
    | _ => none
  | _ => none
end
section
variable {P : Program} {H : Hints} {f : Nat} {ns : Nms} {rg ix : Nat} {o : Oper} {r : OpR}
theorem comp1_pur {x : Operand} {k : OpdR → OpR} (hk : ∀ x, Pur (k x)) (h : comp1 H ns x k = some r) : Pur r := by
  obtain ⟨y, _, rfl⟩ := comp1_some h; exact hk y
theorem comp2_pur {x y : Operand} {k : OpdR → OpdR → OpR} (hk : ∀ x y, Pur (k x y)) (h : comp2 H ns x y k = some r) : Pur r := by
  obtain ⟨p, q, _, _, rfl⟩ := comp2_some h; exact hk p q
theorem compEq_pur {neg : Bool} {t : TypeId} {x y : Operand} (h : compEq P H ns neg t x y = some r) : Pur r := by
  unfold compEq at h
  split at h
  · cases h; exact pur_eq _ _ _ _ _
  · cases h
theorem floatK_true (hf : floatK P H f rg ix o.op = some true) (h : compOp P H f ns rg ix o = some r) : Pur r := by
  unfold floatK at hf
  unfold compOp at h
  cases ho : o.op <;> simp only [ho] at hf h <;> try (cases hf; done)
  case move x => exact comp1_pur pur_mov h
  case assign x =>
    split at hf
    · cases hf
    · rename_i hz; rw [if_neg hz] at h; exact comp1_pur pur_mov h
  case pick c a b =>
    split at h
    · exact comp2_pur (pur_pick _) h
    · cases h
  case box e x =>
    split at hf
    · rename_i hz; rw [if_pos hz] at h; exact comp1_pur pur_boxF h
    · cases hf
  case build t ps =>
    unfold compBuild at h
    split at h
    · split at h
      · split at h
        · cases h; exact pur_build _ _
        · cases h
      · cases h
    · split at h
      · split at h
        · cases h; exact pur_build _ _
        · cases h
      · cases h
    · cases h
  case buildSlice t n ps =>
    split at hf
    · cases hf
    · rename_i hz
      unfold compBsl at h
      split at h
      · split at h
        · split at h
          · split at h
            · cases h; exact pur_bslF _ _ _ _
            · cases h
          · cases h
        · cases h
      · cases h
  case nilCheck x => exact comp1_pur pur_nilchk h
  case binOp op t x y u =>
    unfold compBin at h
    split at h
    · exact compEq_pur h
    · exact compEq_pur h
    · exact comp2_pur (pur_bin _) h
  case unOp op t x =>
    cases op with
    | not => exact comp1_pur pur_not h
    | neg => exact comp1_pur pur_neg h
    | xor => exact comp1_pur pur_cpl h
    | _ => cases h
  case convert s d x =>
    split at hf
    · rename_i k hk
      split at hf
      · rename_i hp
        simp only [hk] at h
        exact comp1_pur (pur_conv hp) h
      · cases hf
    · cases hf
  case makeInterface t x =>
    split at h
    · cases h
    · exact comp1_pur (pur_mkif _) h
    · cases h
  case makeFunc c first cs =>
    cases c <;> simp only at h <;> try (cases h; done)
    split at h
    · cases h; exact pur_mkfn _ _
    · cases h
  case slice t x lo hi mx =>
    unfold compSlice at h
    split at h
    · cases h; exact pur_slice _ _ _ _ _
    · cases h
  case fieldAddr t x i =>
    split at h
    · split at h
      · split at h
        · exact comp1_pur (pur_faddr _) h
        · cases h
      · cases h
    · cases h
  case field t x i =>
    split at h
    · split at h
      · split at h
        · exact comp1_pur (pur_fld _ _) h
        · cases h
      · cases h
    · cases h
  case indexAddr t x i =>
    split at h
    · exact comp2_pur (pur_iaddr _) h
    · cases h
  case index t x i =>
    split at h
    · exact comp2_pur pur_sidx h
    · split at h
      · exact comp2_pur (pur_idx _ _ _) h
      · cases h
    · cases h
  case extract x i => exact comp1_pur (pur_extr _) h
  case call c =>
    unfold compCall at h
    cases hc : c.callee <;> simp only [hc] at hf h <;> try (cases hf; done)
    rename_i b
    cases b <;> simp only at hf h <;> try (cases hf; done)
    all_goals unfold compBuiltin at h
    all_goals simp only at h
    all_goals first
      | (split at h <;> first | (cases h; exact pur_minmax _ _) | (cases h; done))
      | (unfold compLen at h
         split at h
         · split at h <;> first | (cases h; exact pur_lenStr _) | (cases h; exact pur_lenSl _) | (cases h; exact pur_mov _) | (cases h; done)
         · cases h)
/-- The pointer that a load reads through. -/
noncomputable def pxOf (H : Hints) (ns : Nms) (o : Op) : OpdR :=
  match o with
  | .load _ x => (compOpd H ns x).getD fun _ _ => none
  | _ => fun _ _ => none
theorem floatK_false (hf : floatK P H f rg ix o.op = some false) (h : compOp P H f ns rg ix o = some r) : ∃ n, r = oLoad n (pxOf H ns o.op) := by
  unfold floatK at hf
  unfold compOp at h
  cases ho : o.op <;> simp only [ho] at hf h <;> try (cases hf; done)
  case assign x => split at hf <;> cases hf
  case box e x => split at hf <;> cases hf
  case buildSlice t n ps => split at hf <;> cases hf
  case load t x =>
    split at h
    · obtain ⟨y, hy, rfl⟩ := comp1_some h; rename_i n _; exact ⟨n, by simp only [pxOf, hy, Option.getD_some]⟩
    · cases h
  case convert s d x =>
    split at hf
    · split at hf <;> cases hf
    · cases hf
  case call c =>
    cases hc : c.callee <;> simp only [hc] at hf <;> try (cases hf; done)
    rename_i b
    cases b <;> simp only at hf <;> cases hf
end
end Go.Vd

namespace Go.Vd
open Go Go.RowKit

/-! ## the static side -/
section
variable (P : Program) (H : Hints) (f : Nat)
def maskOf (acc : List Nat) (o : Oper) : Nat := o.after.toList.foldl (fun s e => if Region.binds .any e then s ||| 2 ^ e.on ||| (acc[e.on]?).getD 0 else s) 0
def masksGo : List Oper → List Nat → List Nat
  | [], acc => acc
  | o :: os, acc => masksGo os (acc ++ [maskOf acc o])
/-- j is sure to run before i. -/
def bitB (B : List Nat) (i j : Nat) : Bool := ((B[i]?).getD 0).testBit j
def nsD (ops : Array Oper) (B : List Nat) (i : Nat) : Nms := ((List.range i).map fun j => if bitB B i j then (ops[j]?).bind (·.dst) else none).reverse
def gdD (ops : Array Oper) (B : List Nat) (i : Nat) (o : Oper) : Option (Option (Nat × Bool)) :=
  match o.guard with
  | none => some none
  | some (j, want) => match (ops[j]?).bind (·.dst) with
    | some t => match (nsD ops B i).idxOf? (some t) with
      | some k => some (some (k, want))
      | none => none
    | none => none
def kOf (ks : List Bool) (i : Nat) : Nat := (ks.take i).count true
/-- The heaps that an operation may see: from the one behind so many writers, to the one behind so many. -/
def spanD (B : List Nat) (ks : List Bool) (i : Nat) : Nat × Nat :=
  let n := ks.length
  let ms := (List.range n).filter fun j => ks.getD j false
  (Nat.min (ms.filter fun j => bitB B i j).length (kOf ks n), kOf ks n - (ms.filter fun j => bitB B j i).length)
noncomputable def compD (rg : Nat) (ops : Array Oper) (B : List Nat) (ks : List Bool) (x : Oper × Nat) : Option DOp :=
  match compOp P H f (nsD ops B x.2) rg x.2 x.1, gdD ops B x.2 x.1 with
  | some op, some gd => match floatK P H f rg x.2 x.1.op with
    | none => some { m := true, op := op, gd := gd, sk := 0, cnt := 0, px := fun _ _ => none }
    | some true => some { m := false, op := op, gd := gd, sk := 0, cnt := 0, px := fun _ _ => none }
    | some false =>
      let s := spanD B ks x.2
      if s.1 = s.2 ∧ s.1 = kOf ks x.2 then some { m := false, op := op, gd := gd, sk := 0, cnt := 0, px := pxOf H (nsD ops B x.2) x.1.op }
      else some { m := false, op := op, gd := gd, sk := kOf ks ks.length - s.2, cnt := s.2 + 1 - s.1, px := pxOf H (nsD ops B x.2) x.1.op }
  | _, _ => none
def pairD (_isG : Nat → Bool) (sz rg : Nat) (ops : Array Oper) (B : List Nat) (ks : List Bool) (x y : Oper × Nat) : Bool :=
  (match y.1.dst with
    | none => true
    | some t => decide (t < sz) && (x.2 == y.2 || x.1.dst != some t) && (x.2 == y.2 || bitB B x.2 y.2 || bitB B y.2 x.2 || !(x.1.looksAt ops).contains t)) &&
  (!(ks.getD y.2 false) ||
    ((!(ks.getD x.2 false) || Nat.ble y.2 x.2 || bitB B y.2 x.2) &&
     (match floatK P H f rg x.2 x.1.op with
      | some false =>
        let s := spanD B ks x.2
        (Nat.ble s.1 (kOf ks y.2) || bitB B x.2 y.2) && (Nat.ble (kOf ks y.2 + 1) s.2 || bitB B y.2 x.2)
      | _ => true)))
def ksD (rg : Nat) (ops : Array Oper) : List Bool := ops.toList.zipIdx.map fun x => (floatK P H f rg x.2 x.1.op).isNone
/-- In the order of the text, and in the compiler's, no operation waits for ever. -/
def edgeD (n : Nat) (dep : Bool) (ord : List Nat) (i : Nat) (e : Edge) : Bool :=
  (!(Region.binds .text e) || Nat.ble (e.on + 1) i) && (!dep || !(Region.binds .gc e) || (Nat.ble (e.on + 1) n && Nat.ble (ord.idxOf e.on + 1) (ord.idxOf i)))
def gcOrd (ops : Array Oper) : List Nat := if Region.departs ops then Region.linearise .gc ops 0 else []
def drawOk (isG : Nat → Bool) (sz rg : Nat) (ops : Array Oper) (B : List Nat) (ks : List Bool) : Bool :=
  ops.toList.zipIdx.all fun x => x.1.after.toList.all (edgeD ops.size (Region.departs ops) (gcOrd ops) x.2) && ops.toList.zipIdx.all fun y => pairD P H f isG sz rg ops B ks x y
def finD (isG : Nat → Bool) (ops : Array Oper) : List (Option Nat) := (ops.toList.map fun o => match o.dst with | some d => if isG d then some d else none | none => none).reverse
noncomputable def compDraw (isG : Nat → Bool) (sz rg : Nat) (ops : Array Oper) : Option RegR :=
  let B := masksGo ops.toList []
  let ks := ksD P H f rg ops
  if drawOk P H f isG sz rg ops B ks then match mapO (compD P H f rg ops B ks) ops.toList.zipIdx with
    | some ds => some (rDraw ds (finD isG ops))
    | none => none
  else none
end

/-! ## masks -/
theorem maskOf_spec (acc : List Nat) (o : Oper) (j : Nat) (h : (maskOf acc o).testBit j = true) :
    ∃ e ∈ o.after.toList, Region.binds .any e = true ∧ (e.on = j ∨ ((acc[e.on]?).getD 0).testBit j = true) := by
  unfold maskOf at h
  have key : ∀ (l : List Edge) (s : Nat), (l.foldl (fun s e => if Region.binds .any e then s ||| 2 ^ e.on ||| (acc[e.on]?).getD 0 else s) s).testBit j = true →
      s.testBit j = true ∨ ∃ e ∈ l, Region.binds .any e = true ∧ (e.on = j ∨ ((acc[e.on]?).getD 0).testBit j = true) := by
    intro l
    induction l with
    | nil => intro s h; exact .inl h
    | cons e l ih =>
      intro s h
      rw [List.foldl_cons] at h
      rcases ih _ h with h | ⟨e', he, h⟩
      · split at h
        · rename_i hb
          simp only [Nat.testBit_or, Bool.or_eq_true] at h
          rcases h with (h | h) | h
          · exact .inl h
          · refine .inr ⟨e, by simp, hb, .inl ?_⟩
            rw [Nat.testBit_two_pow] at h
            simpa using h
          · exact .inr ⟨e, by simp, hb, .inr h⟩
        · exact .inl h
      · exact .inr ⟨e', by simp [he], h⟩
  rcases key _ _ h with h | h
  · simp at h
  · exact h
theorem masksGo_pre : ∀ (os : List Oper) (acc : List Nat) (i x : Nat), acc[i]? = some x → (masksGo os acc)[i]? = some x
  | [], acc, i, x, h => h
  | o :: os, acc, i, x, h => by
    refine masksGo_pre os _ i x ?_
    rw [List.getElem?_append_left (List.getElem?_eq_some_iff.1 h).1]
    exact h
theorem masksGo_spec : ∀ (os : List Oper) (acc : List Nat) (n : Nat) (o : Oper), os[n]? = some o → ∀ j, bitB (masksGo os acc) (acc.length + n) j = true →
    ∃ e ∈ o.after.toList, Region.binds .any e = true ∧ (e.on = j ∨ bitB (masksGo os acc) e.on j = true)
  | [], acc, n, o, h, j, _ => by simp at h
  | p :: os, acc, 0, o, h, j, hb => by
    simp at h; subst h
    have e1 : (acc ++ [maskOf acc p])[acc.length]? = some (maskOf acc p) := by simp
    have e2 := masksGo_pre os _ _ _ e1
    have hb' : (maskOf acc p).testBit j = true := by
      simp only [bitB, masksGo, Nat.add_zero, e2, Option.getD_some] at hb; exact hb
    obtain ⟨e, he, h1, h2⟩ := maskOf_spec acc p j hb'
    refine ⟨e, he, h1, h2.imp id fun h2 => ?_⟩
    cases ha : acc[e.on]? with
    | none => rw [ha] at h2; simp at h2
    | some m =>
      rw [ha] at h2
      have : (acc ++ [maskOf acc p])[e.on]? = some m := by
        rw [List.getElem?_append_left (List.getElem?_eq_some_iff.1 ha).1]; exact ha
      have := masksGo_pre os _ _ _ this
      simp only [bitB, masksGo, this, Option.getD_some]
      simpa using h2
  | p :: os, acc, n + 1, o, h, j, hb => by
    have := masksGo_spec os (acc ++ [maskOf acc p]) n o (by simpa using h) j (by
      have e : (acc ++ [maskOf acc p]).length + n = acc.length + (n + 1) := by simp; omega
      rw [e]; exact hb)
    exact this
/-- What runs first has run. -/
theorem before_ran {ops : Array Oper} {D : Nat → Prop} (hlow : ∀ (i : Nat) o, ops[i]? = some o → ∀ e ∈ o.after.toList, Region.binds .any e = true → e.on < i)
    (hc : ∀ (j : Nat) o, ops[j]? = some o → D j → ∀ e ∈ o.after.toList, Region.binds .any e = true → D e.on) :
    ∀ (n i : Nat), i < n → (∀ o, ops[i]? = some o → ∀ e ∈ o.after.toList, Region.binds .any e = true → D e.on) → ∀ j, bitB (masksGo ops.toList []) i j = true → D j := by
  intro n
  induction n with
  | zero => intro i h; omega
  | succ n ih =>
    intro i hi hd j hb
    cases ho : ops[i]? with
    | none =>
      exfalso
      have hlen : ∀ (os : List Oper) (acc : List Nat), (masksGo os acc).length = acc.length + os.length := by
        intro os
        induction os with
        | nil => intro acc; rfl
        | cons o os ih => intro acc; rw [masksGo, ih]; simp; omega
      have h1 : ops.size ≤ i := by simpa using ho
      have : (masksGo ops.toList [])[i]? = none := by rw [List.getElem?_eq_none_iff, hlen]; simpa using h1
      simp [bitB, this] at hb
    | some o =>
      obtain ⟨e, he, h1, h2⟩ := masksGo_spec ops.toList [] i o (by simpa using ho) j (by simpa using hb)
      have hde := hd o ho e he h1
      rcases h2 with h2 | h2
      · rw [← h2]; exact hde
      · have := hlow i o ho e he h1
        exact ih e.on (by omega) (fun o' ho' => hc e.on o' ho' hde) j h2
end Go.Vd
