/-
  ShiftTells: whatever the input, the law returns true; no condition. Proved by an abstract evaluator of loaded code that is sound for every program, and by what each function of this seat does on trees.

-/
import Derived.LoopN
import Derived.Test.YtcafdimefhdfnaaProg
import Derived.KernelRfl
import Derived.Test.YtcafdimefhdfnaaXac
namespace Go.Vd
open Go Go.RowKit

/-! ## the dynamic side -/
def kD (ds : List DOp) (i : Nat) : Nat := ((ds.take i).map (·.m)).count true
theorem kD_succ {ds : List DOp} {i : Nat} {d : DOp} (h : ds[i]? = some d) : kD ds (i + 1) = kD ds i + (if d.m then 1 else 0) := by
  unfold kD
  rw [List.take_add_one, h]
  simp only [Option.toList_some, List.map_append, List.map_cons, List.map_nil, List.count_append]
  cases d.m <;> simp
/-- What an evaluation of a drawn region tells. -/
structure RanD (cf : CallF) (g : PT AV) (ds : List DOp) (lf : List AV) (hsf : List AHeap) (L : Nat → List AV) (Hp : Nat → AHeap) : Prop where
  last : L ds.length = lf
  first : L 0 = []
  heaps : ∀ k, k ≤ kD ds ds.length → hsf[kD ds ds.length - k]? = some (Hp k)
  step : ∀ (i : Nat) d, ds[i]? = some d → ∃ v, L (i + 1) = v :: L i ∧
    ((wantD d.gd (L i) = some false ∧ v = .undef ∧ (d.m = true → Hp (kD ds i + 1) = Hp (kD ds i))) ∨
     (wantD d.gd (L i) = some true ∧ (d.m = true → d.op cf g (L i) (Hp (kD ds i)) = .ok v (Hp (kD ds i + 1))) ∧
       (d.m = false → (∃ h', d.op cf g (L i) (Hp (kD ds i)) = .ok v h') ∧
         (d.cnt ≠ 0 → isImm (d.px g (L i)) = false → ∀ k, k ≤ kD ds ds.length → d.sk ≤ kD ds ds.length - k → kD ds ds.length - k < d.sk + d.cnt → ∃ h', d.op cf g (L i) (Hp k) = .ok v h'))))
theorem evD_cons (cf : CallF) (g : PT AV) (d : DOp) (ds : List DOp) (l : List AV) (h : AHeap) (hs : List AHeap) : evD cf g (d :: ds) l h hs =
    match wantD d.gd l with
    | some true => match d.op cf g l h with
      | .ok v h' => match d.m with
        | true => evD cf g ds (v :: l) h' (h' :: hs)
        | false => match d.cnt with
          | 0 => evD cf g ds (v :: l) h hs
          | c + 1 => match isImm (d.px g l) with
            | true => evD cf g ds (v :: l) h hs
            | false => match evD cf g ds (v :: l) h hs with
              | some (lf, hsf) => match chkH d.op cf g l v (ltake (ldrop d.sk hsf) (c + 1)) with
                | true => some (lf, hsf)
                | false => none
              | none => none
      | _ => none
    | some false => match d.m with
      | true => evD cf g ds (.undef :: l) h (h :: hs)
      | false => evD cf g ds (.undef :: l) h hs
    | none => none := rfl
theorem chkH_mem {op : OpR} {cf : CallF} {g : PT AV} {l : List AV} {v : AV} : ∀ {hs : List AHeap}, chkH op cf g l v hs = true → ∀ h ∈ hs, ∃ h', op cf g l h = .ok v h'
  | [], _, h, hm => by simp at hm
  | x :: hs, e, h, hm => by
    have e' : (match op cf g l x with
      | .ok u _ => match avEq u v with | true => chkH op cf g l v hs | false => false
      | _ => false) = true := e
    split at e'
    · rename_i u h' hop
      split at e'
      · rename_i hq
        rcases List.mem_cons.1 hm with rfl | hm
        · exact ⟨h', by rw [hop, avEq_eq hq]⟩
        · exact chkH_mem e' h hm
      · cases e'
    · cases e'
/-- Facts of an evaluation from a place on. -/
def FromD (cf : CallF) (g : PT AV) (lf : List AV) (hsf : List AHeap) : List DOp → List AV → List AHeap → Prop
  | [], l, hs => lf = l ∧ hsf = hs
  | d :: ds, l, hs => ∃ v h0 hs', hs = h0 :: hs' ∧
    ((wantD d.gd l = some false ∧ v = .undef ∧ FromD cf g lf hsf ds (v :: l) (if d.m then h0 :: hs else hs)) ∨
     (wantD d.gd l = some true ∧ ((d.m = true ∧ ∃ h1, d.op cf g l h0 = .ok v h1 ∧ FromD cf g lf hsf ds (v :: l) (h1 :: hs)) ∨
       (d.m = false ∧ (∃ h', d.op cf g l h0 = .ok v h') ∧ (d.cnt ≠ 0 → isImm (d.px g l) = false → ∀ h ∈ (hsf.drop d.sk).take d.cnt, ∃ h', d.op cf g l h = .ok v h') ∧ FromD cf g lf hsf ds (v :: l) hs))))
theorem evD_from (cf : CallF) (g : PT AV) : ∀ (ds : List DOp) (l : List AV) (h : AHeap) (hs : List AHeap) (lf : List AV) (hsf : List AHeap), evD cf g ds l h (h :: hs) = some (lf, hsf) → FromD cf g lf hsf ds l (h :: hs)
  | [], l, h, hs, lf, hsf, e => by cases e; exact ⟨rfl, rfl⟩
  | d :: ds, l, h, hs, lf, hsf, e => by
    rw [evD_cons] at e
    split at e
    · rename_i hw
      split at e
      · rename_i v h' hop
        split at e
        · rename_i hm
          exact ⟨v, h, hs, rfl, .inr ⟨hw, .inl ⟨hm, h', hop, evD_from cf g ds _ _ _ _ _ e⟩⟩⟩
        · rename_i hm
          split at e
          · rename_i hc
            exact ⟨v, h, hs, rfl, .inr ⟨hw, .inr ⟨hm, ⟨h', hop⟩, fun q _ => absurd hc q, evD_from cf g ds _ _ _ _ _ e⟩⟩⟩
          · rename_i c hc
            split at e
            · rename_i hp
              exact ⟨v, h, hs, rfl, .inr ⟨hw, .inr ⟨hm, ⟨h', hop⟩, fun _ q => (by rw [hp] at q; cases q), evD_from cf g ds _ _ _ _ _ e⟩⟩⟩
            · split at e
              · rename_i lf' hsf' he
                split at e
                · rename_i hk
                  cases e
                  refine ⟨v, h, hs, rfl, .inr ⟨hw, .inr ⟨hm, ⟨h', hop⟩, fun _ _ => ?_, evD_from cf g ds _ _ _ _ _ he⟩⟩⟩
                  rw [ltake_eq, ldrop_eq] at hk
                  rw [hc]
                  exact chkH_mem hk
                · cases e
              · cases e
      · cases e
    · rename_i hw
      split at e
      · rename_i hm
        exact ⟨.undef, h, hs, rfl, .inl ⟨hw, rfl, by rw [if_pos hm]; exact evD_from cf g ds _ _ _ _ _ e⟩⟩
      · rename_i hm
        exact ⟨.undef, h, hs, rfl, .inl ⟨hw, rfl, by rw [if_neg (by simp [hm])]; exact evD_from cf g ds _ _ _ _ _ e⟩⟩
    · cases e
theorem FromD.suffix {cf : CallF} {g : PT AV} {lf : List AV} {hsf : List AHeap} : ∀ {ds : List DOp} {l : List AV} {hs : List AHeap}, FromD cf g lf hsf ds l hs →
    l <:+ lf ∧ hs <:+ hsf ∧ lf.length = l.length + ds.length ∧ hsf.length = hs.length + kD ds ds.length
  | [], l, hs, h => by obtain ⟨rfl, rfl⟩ := h; exact ⟨List.suffix_refl _, List.suffix_refl _, rfl, rfl⟩
  | d :: ds, l, hs, h => by
    have hk : kD (d :: ds) (ds.length + 1) = (if d.m then 1 else 0) + kD ds ds.length := by
      unfold kD
      rw [List.take_succ_cons, List.map_cons, List.count_cons]
      cases d.m <;> simp; omega
    obtain ⟨v, h0, hs', e, h⟩ := h
    have fin : ∀ hs2, FromD cf g lf hsf ds (v :: l) hs2 → hs <:+ hs2 → hs2.length = hs.length + (if d.m then 1 else 0) →
        l <:+ lf ∧ hs <:+ hsf ∧ lf.length = l.length + (d :: ds).length ∧ hsf.length = hs.length + kD (d :: ds) (d :: ds).length := by
      intro hs2 h2 hsuf hl
      obtain ⟨k1, k2, k3, k4⟩ := FromD.suffix h2
      refine ⟨(List.suffix_cons v l).trans k1, hsuf.trans k2, by rw [k3]; simp; omega, ?_⟩
      rw [List.length_cons, hk, k4, hl]; omega
    rcases h with ⟨_, _, h⟩ | ⟨_, ⟨hm, h1, _, h⟩ | ⟨hm, _, _, h⟩⟩
    · cases hm : d.m with
      | true => rw [hm] at h; exact fin _ h (List.suffix_cons _ _) (by simp [hm])
      | false => rw [hm] at h; exact fin _ h (List.suffix_refl _) (by simp [hm])
    · exact fin _ h (List.suffix_cons _ _) (by simp [hm])
    · exact fin _ h (List.suffix_refl _) (by simp [hm])
end Go.Vd

namespace Go.Vd
open Go Go.RowKit

theorem suffix_drop {α : Type} {l m : List α} (h : l <:+ m) {n : Nat} (hn : m.length = l.length + n) : l = m.drop n := by
  have := List.suffix_iff_eq_drop.1 h
  rwa [show m.length - l.length = n by omega] at this
theorem ranD_of {cf : CallF} {g : PT AV} {ds : List DOp} {h : AHeap} {lf : List AV} {hsf : List AHeap} (e : evD cf g ds [] h [h] = some (lf, hsf)) :
    ∃ L Hp, RanD cf g ds lf hsf L Hp ∧ Hp 0 = h ∧ hsf.head? = some (Hp (kD ds ds.length)) := by
  have F0 := evD_from cf g ds [] h [] lf hsf e
  obtain ⟨s1, s2, n1, n2⟩ := F0.suffix
  simp only [List.length_nil, Nat.zero_add, List.length_cons] at n1 n2
  let N := ds.length
  let M := kD ds ds.length
  let L : Nat → List AV := fun i => lf.drop (N - i)
  let Hp : Nat → AHeap := fun k => (hsf[M - k]?).getD h
  have hK : ∀ i, i ≤ N → kD ds i ≤ M := by
    intro i hi
    have mono : ∀ j, j ≤ N → kD ds (N - j) ≤ M := by
      intro j
      induction j with
      | zero => intro _; exact Nat.le_refl _
      | succ j ih =>
        intro hj
        have hlt : N - (j + 1) < ds.length := by show N - (j+1) < N; omega
        have := kD_succ (List.getElem?_eq_getElem hlt)
        rw [show N - (j + 1) + 1 = N - j by omega] at this
        have := ih (by omega)
        omega
    have := mono (N - i) (by omega)
    rwa [show N - (N - i) = i by omega] at this
  have K0 : kD ds 0 = 0 := by simp [kD]
  have Hat : ∀ k, k ≤ M → hsf[M - k]? = some (Hp k) := by
    intro k hk
    have hlt : M - k < hsf.length := by rw [n2]; show M - k < 1 + M; omega
    show hsf[M - k]? = some ((hsf[M - k]?).getD h)
    rw [List.getElem?_eq_getElem hlt]; rfl
  -- the facts at each place
  have At : ∀ i, i ≤ N → FromD cf g lf hsf (ds.drop i) (L i) (hsf.drop (M - kD ds i)) ∧ ∀ d, ds[i]? = some d → ∃ v, L (i + 1) = v :: L i ∧
    ((wantD d.gd (L i) = some false ∧ v = .undef ∧ (d.m = true → Hp (kD ds i + 1) = Hp (kD ds i))) ∨
     (wantD d.gd (L i) = some true ∧ (d.m = true → d.op cf g (L i) (Hp (kD ds i)) = .ok v (Hp (kD ds i + 1))) ∧
       (d.m = false → (∃ h', d.op cf g (L i) (Hp (kD ds i)) = .ok v h') ∧
         (d.cnt ≠ 0 → isImm (d.px g (L i)) = false → ∀ k, k ≤ M → d.sk ≤ M - k → M - k < d.sk + d.cnt → ∃ h', d.op cf g (L i) (Hp k) = .ok v h')))) := by
    intro i
    have step : ∀ i, i ≤ N → FromD cf g lf hsf (ds.drop i) (L i) (hsf.drop (M - kD ds i)) → ∀ d, ds[i]? = some d → FromD cf g lf hsf (ds.drop (i + 1)) (L (i + 1)) (hsf.drop (M - kD ds (i + 1))) ∧ ∃ v, L (i + 1) = v :: L i ∧
      ((wantD d.gd (L i) = some false ∧ v = .undef ∧ (d.m = true → Hp (kD ds i + 1) = Hp (kD ds i))) ∨
       (wantD d.gd (L i) = some true ∧ (d.m = true → d.op cf g (L i) (Hp (kD ds i)) = .ok v (Hp (kD ds i + 1))) ∧
         (d.m = false → (∃ h', d.op cf g (L i) (Hp (kD ds i)) = .ok v h') ∧
           (d.cnt ≠ 0 → isImm (d.px g (L i)) = false → ∀ k, k ≤ M → d.sk ≤ M - k → M - k < d.sk + d.cnt → ∃ h', d.op cf g (L i) (Hp k) = .ok v h')))) := by
      intro i hi F d hd
      have hlt : i < ds.length := (List.getElem?_eq_some_iff.1 hd).1
      have hdrop : ds.drop i = d :: ds.drop (i + 1) := by
        rw [List.drop_eq_getElem_cons hlt]; congr 1
        exact (List.getElem?_eq_some_iff.1 hd).2
      rw [hdrop] at F
      obtain ⟨v, h0, hs', e0, F⟩ := F
      have hk := kD_succ hd
      have hki := hK i hi
      have hki1 := hK (i + 1) (by show i + 1 ≤ ds.length; omega)
      have e1 : Hp (kD ds i) = h0 := by
        have h1 : (hsf.drop (M - kD ds i))[0]? = some h0 := by rw [e0]; rfl
        rw [List.getElem?_drop, Nat.add_zero, Hat _ hki] at h1
        exact Option.some.inj h1
      have hL : ∀ hs2, FromD cf g lf hsf (ds.drop (i + 1)) (v :: L i) hs2 → L (i + 1) = v :: L i ∧ hs2 = hsf.drop (M - kD ds (i + 1)) ∨ False := by
        intro hs2 F2
        obtain ⟨t1, t2, t3, t4⟩ := F2.suffix
        have hl : (v :: L i).length = i + 1 := by
          show (lf.drop (N - i)).length + 1 = i + 1
          rw [List.length_drop, n1]; show N - (N - i) + 1 = i + 1; omega
        have hkk : kD (ds.drop (i + 1)) (ds.drop (i + 1)).length = M - kD ds (i + 1) := by
          show _ = kD ds ds.length - kD ds (i + 1)
          unfold kD
          rw [List.take_length, List.take_length]
          have : ds.map (·.m) = (ds.take (i + 1)).map (·.m) ++ (ds.drop (i + 1)).map (·.m) := by rw [← List.map_append, List.take_append_drop]
          rw [this, List.count_append]; omega
        refine .inl ⟨?_, suffix_drop t2 (by rw [t4, hkk])⟩
        symm
        refine suffix_drop t1 ?_
        rw [n1, hl]; show N = i + 1 + (N - (i + 1)); omega
      have hHp : ∀ h1, hsf.drop (M - kD ds (i + 1)) = h1 :: hsf.drop (M - kD ds i) → kD ds (i + 1) = kD ds i + 1 → Hp (kD ds i + 1) = h1 := by
        intro h1 q hq
        have h2 : (hsf.drop (M - kD ds (i + 1)))[0]? = some h1 := by rw [q]; rfl
        rw [List.getElem?_drop, Nat.add_zero, Hat _ hki1] at h2
        rw [← hq]; exact Option.some.inj h2
      rcases F with ⟨hw, hv, F⟩ | ⟨hw, ⟨hm, h1, hop, F⟩ | ⟨hm, hop, hchk, F⟩⟩
      · obtain ⟨q1, q2⟩ := (hL _ F).resolve_right id
        refine ⟨by rw [q1, ← q2]; exact F, v, q1, .inl ⟨hw, hv, fun hm => ?_⟩⟩
        rw [if_pos hm] at q2
        rw [e1]
        exact hHp h0 (by rw [← q2]) (by rw [hk, if_pos hm])
      · obtain ⟨q1, q2⟩ := (hL _ F).resolve_right id
        refine ⟨by rw [q1, ← q2]; exact F, v, q1, .inr ⟨hw, fun _ => ?_, (fun q => by rw [hm] at q; cases q)⟩⟩
        rw [e1, hHp h1 (by rw [← q2]) (by rw [hk, if_pos hm])]
        exact hop
      · obtain ⟨q1, q2⟩ := (hL _ F).resolve_right id
        refine ⟨by rw [q1, ← q2]; exact F, v, q1, .inr ⟨hw, (fun q => by rw [hm] at q; cases q), fun _ => ⟨by rw [e1]; exact hop, fun hc hp k hk h1 h2 => hchk hc hp _ ?_⟩⟩⟩
        have : ((hsf.drop d.sk).take d.cnt)[M - k - d.sk]? = some (Hp k) := by
          rw [List.getElem?_take, if_pos (by omega), List.getElem?_drop, show d.sk + (M - k - d.sk) = M - k by omega]
          exact Hat k hk
        exact List.mem_of_getElem? this
    have all : ∀ i, i ≤ N → FromD cf g lf hsf (ds.drop i) (L i) (hsf.drop (M - kD ds i)) := by
      intro i
      induction i with
      | zero =>
        intro _
        have e1 : L 0 = [] := by show lf.drop (N - 0) = []; rw [List.drop_eq_nil_iff, n1]; exact Nat.le_refl _
        have e2 : hsf.drop (M - kD ds 0) = [h] := by rw [K0, Nat.sub_zero]; exact (suffix_drop s2 (by rw [n2]; rfl)).symm
        rw [e1, e2]; exact F0
      | succ i ih =>
        intro hi
        have hlt : i < ds.length := hi
        exact (step i (by omega) (ih (by omega)) _ (List.getElem?_eq_getElem hlt)).1
    exact fun hi => ⟨all i hi, fun d hd => (step i hi (all i hi) d hd).2⟩
  refine ⟨L, Hp, ⟨by show lf.drop (N - N) = lf; simp, ?_, Hat, fun i d hd => (At i (Nat.le_of_lt (List.getElem?_eq_some_iff.1 hd).1)).2 d hd⟩, ?_, ?_⟩
  · show lf.drop (N - 0) = []
    rw [List.drop_eq_nil_iff, n1]; exact Nat.le_refl _
  · have h1 := Hat 0 (Nat.zero_le _)
    have h2 := suffix_drop s2 (n := M) (by rw [n2]; rfl)
    have h3 : (hsf.drop M)[0]? = some h := by rw [← h2]; rfl
    rw [List.getElem?_drop, Nat.add_zero, ← Nat.sub_zero M, h1] at h3
    exact Option.some.inj h3
  · have h1 := Hat M (Nat.le_refl _)
    rw [Nat.sub_self] at h1
    rw [List.head?_eq_getElem?]; exact h1
end Go.Vd

namespace Go.Vd
open Go Go.RowKit

theorem put_eq_of {a b : Act} (hs : a.tmps.size = b.tmps.size) {d : Option Tmp} {u v : Value} (h : b.put d u = b.put d v) : a.put d u = a.put d v := by
  cases d with
  | none => rfl
  | some d =>
    by_cases hd : d < b.tmps.size
    · have h1 : (b.put (some d) u).tmps.getD d undef = (b.put (some d) v).tmps.getD d undef := by rw [h]
      rw [put_getD_same hd, put_getD_same hd] at h1
      rw [h1]
    · have : ∀ x, a.put (some d) x = a := fun x => by
        simp only [Act.put]; rw [Array.setIfInBounds_eq_of_size_le (by rw [hs]; exact Nat.le_of_not_lt hd)]
      rw [this, this]
theorem wp_switch {P : Program} {o : Oper} {a b : Act} {w : World} {K : Act → World → Prop} {Q : Exit → Act → World → Prop} {R : Value → World → Prop} (he : execOp a.eval o = execOp b.eval o) (hs : a.tmps.size = b.tmps.size)
    (h : o.wp P b w (fun b' w' => ∃ v, b' = b.put o.dst v ∧ R v w') (fun _ _ _ => False)) (hk : ∀ v w', R v w' → K (a.put o.dst v) w') : o.wp P a w K Q := by
  unfold Oper.wp at *
  rw [he]
  generalize (execOp b.eval o).run P w = r at *
  have one : ∀ u w', (∃ v, b.put o.dst u = b.put o.dst v ∧ R v w') → K (a.put o.dst u) w' := fun u w' ⟨v, h1, h2⟩ => by
    rw [put_eq_of hs h1]; exact hk v w' h2
  cases r with
  | ok n w' =>
    cases n <;> simp only [Oper.upon] at h ⊢
    case value u => exact one u w' h
    case skip => exact one undef w' h
    case defer d =>
      obtain ⟨v, h1, _⟩ := h
      have h2 := congrArg Act.defers h1
      rw [put_defers, put_defers] at h2
      exact absurd h2 (by simp)
    case enter f args =>
      refine Calls.mono h fun e w'' he => ?_
      cases e with
      | returned u => exact one u w'' he
      | panicked c => exact he.elim
      | outgrown => obtain ⟨_, _, hf⟩ := he; exact hf.elim
    case row row args => exact Rows.mono h fun u w'' he => one u w'' he
  | halt x w' =>
    cases x <;> simp only [Oper.upon] at h ⊢
theorem idxOf_get {ns : Nms} {x : Option Nat} : ∀ {p : Nat}, ns.idxOf? x = some p → ns[p]? = some x := by
  induction ns with
  | nil => intro p h; simp at h
  | cons y ys ih =>
    intro p h
    rw [idxOf_cons] at h
    by_cases q : y = x
    · rw [if_pos q] at h; cases h; simp [q]
    · rw [if_neg q] at h
      cases hi : ys.idxOf? x with
      | none => rw [hi] at h; cases h
      | some j => rw [hi] at h; cases h; simpa using ih hi
theorem idxOf_none {ns : Nms} {x : Option Nat} (h : ns.idxOf? x = none) : x ∉ ns := by
  rwa [List.idxOf?_eq_none_iff] at h
theorem nsD_mem {ops : Array Oper} {B : List Nat} {i t : Nat} : some t ∈ nsD ops B i ↔ ∃ j o, j < i ∧ bitB B i j = true ∧ ops[j]? = some o ∧ o.dst = some t := by
  unfold nsD
  rw [List.mem_reverse, List.mem_map]
  constructor
  · rintro ⟨j, hj, h⟩
    split at h
    · rename_i hb
      cases ho : ops[j]? with
      | none => rw [ho] at h; cases h
      | some o => rw [ho] at h; exact ⟨j, o, List.mem_range.1 hj, hb, ho, h⟩
    · cases h
  · rintro ⟨j, o, hj, hb, ho, hd⟩
    exact ⟨j, List.mem_range.2 hj, by rw [if_pos hb, ho]; exact hd⟩
theorem nsD_get {ops : Array Oper} {B : List Nat} {i p t : Nat} (h : (nsD ops B i)[p]? = some (some t)) : ∃ j o, j < i ∧ p = i - 1 - j ∧ bitB B i j = true ∧ ops[j]? = some o ∧ o.dst = some t := by
  unfold nsD at h
  have hp : p < i := by
    have := (List.getElem?_eq_some_iff.1 h).1
    simpa using this
  rw [List.getElem?_reverse (by simpa using hp)] at h
  simp only [List.length_map, List.length_range, List.getElem?_map] at h
  rw [List.getElem?_range (by omega)] at h
  simp only [Option.map_some, Option.some.injEq] at h
  split at h
  · rename_i hb
    cases ho : ops[i - 1 - p]? with
    | none => rw [ho] at h; cases h
    | some o => rw [ho] at h; exact ⟨i - 1 - p, o, by omega, by omega, hb, ho, h⟩
  · cases h
theorem nsD_length (ops : Array Oper) (B : List Nat) (i : Nat) : (nsD ops B i).length = i := by simp [nsD]

/-- All that is known of a drawn region. -/
structure DCtx (P : Program) (H : Hints) (f : Nat) (sz rg : Nat) (ops : Array Oper) (B : List Nat) (ds : List DOp) : Prop where
  mask : B = masksGo ops.toList []
  low : ∀ (i : Nat) o, ops[i]? = some o → ∀ e ∈ o.after.toList, Region.binds .any e = true → e.on < i
  rank : ∀ md, ∃ rank : Nat → Nat, ∀ (i : Nat) o, ops[i]? = some o → ∀ e ∈ o.after.toList, Region.binds md e = true → rank e.on < rank i ∧ e.on < ops.size
  len : ds.length = ops.size
  op : ∀ (i : Nat) d o, ds[i]? = some d → ops[i]? = some o → compOp P H f (nsD ops B i) rg i o = some d.op ∧ gdD ops B i o = some d.gd
  fl : ∀ (i : Nat) d, ds[i]? = some d → d.m = false → Pur d.op ∨ ((∃ n, d.op = oLoad n d.px) ∧ ∃ lo hi, lo ≤ kD ds ds.length ∧ (∀ (j : Nat) dj, ds[j]? = some dj → dj.m = true → (kD ds j < lo → bitB B i j = true) ∧ (hi ≤ kD ds j → bitB B j i = true)) ∧
    ((lo = kD ds i ∧ hi = kD ds i) ∨ ∀ k, lo ≤ k → k ≤ hi → k ≤ kD ds ds.length → d.cnt ≠ 0 ∧ d.sk ≤ kD ds ds.length - k ∧ kD ds ds.length - k < d.sk + d.cnt))
  dst : ∀ (i : Nat) o t, ops[i]? = some o → o.dst = some t → t < sz
  dst2 : ∀ (i j : Nat) o p t, ops[i]? = some o → ops[j]? = some p → i ≠ j → o.dst = some t → p.dst ≠ some t
  look : ∀ (i j : Nat) o p t, ops[i]? = some o → ops[j]? = some p → i ≠ j → p.dst = some t → t ∈ o.looksAt ops → bitB B i j = true ∨ bitB B j i = true
  muts : ∀ (i j : Nat) di dj, ds[i]? = some di → ds[j]? = some dj → di.m = true → dj.m = true → i < j → bitB B j i = true
theorem binds_any0 {e : Edge} (h : Region.binds .any e = true) : Region.binds .text e = true := by
  unfold Region.binds at *
  cases hg : e.ground <;> simp only [hg] at h ⊢ <;> exact absurd h (by decide)
theorem zipIdx_get {α : Type} (xs : Array α) (i : Nat) (x : α) (h : xs[i]? = some x) : (x, i) ∈ xs.toList.zipIdx := by
  rw [List.mem_zipIdx_iff_getElem?]; simpa using h
theorem ksD_getD {P : Program} {H : Hints} {f rg : Nat} {ops : Array Oper} {i : Nat} {o : Oper} (h : ops[i]? = some o) : (ksD P H f rg ops)[i]? = some (floatK P H f rg i o.op).isNone := by
  unfold ksD
  rw [List.getElem?_map, List.getElem?_zipIdx]
  simp [h]
theorem compDraw_ctx {P : Program} {H : Hints} {f : Nat} {isG : Nat → Bool} {sz rg : Nat} {ops : Array Oper} {r : RegR} (hr : compDraw P H f isG sz rg ops = some r) :
    ∃ B ds, DCtx P H f sz rg ops B ds ∧ r = rDraw ds (finD isG ops) := by
  unfold compDraw at hr
  simp only at hr
  split at hr
  · rename_i hok
    split at hr
    · rename_i ds hds
      cases hr
      refine ⟨masksGo ops.toList [], ds, ?_, rfl⟩
      obtain ⟨hlen, hget⟩ := mapO_some hds
      have hlen' : ds.length = ops.size := by simpa using hlen
      unfold drawOk at hok
      rw [List.all_eq_true] at hok
      have hok1 : ∀ (i : Nat) o, ops[i]? = some o → (∀ e ∈ o.after.toList, edgeD ops.size (Region.departs ops) (gcOrd ops) i e = true) ∧ ∀ (j : Nat) p, ops[j]? = some p → pairD P H f isG sz rg ops (masksGo ops.toList []) (ksD P H f rg ops) (o, i) (p, j) = true := by
        intro i o ho
        have := hok _ (zipIdx_get ops i o ho)
        rw [Bool.and_eq_true] at this
        refine ⟨fun e he => ?_, fun j p hp => ?_⟩
        · exact List.all_eq_true.1 this.1 e he
        · exact List.all_eq_true.1 this.2 _ (zipIdx_get ops j p hp)
      have hd : ∀ (i : Nat) d, ds[i]? = some d → ∃ o, ops[i]? = some o ∧ compD P H f rg ops (masksGo ops.toList []) (ksD P H f rg ops) (o, i) = some d := by
        intro i d h
        obtain ⟨⟨o, i'⟩, h1, h2⟩ := hget i d h
        rw [List.getElem?_zipIdx] at h1
        cases ho : ops[i]? with
        | none => simp [ho] at h1
        | some o' =>
          simp [ho] at h1
          obtain ⟨rfl, rfl⟩ := h1
          exact ⟨o', rfl, h2⟩
      have hm : ∀ (i : Nat) d o, ds[i]? = some d → ops[i]? = some o → d.m = (floatK P H f rg i o.op).isNone := by
        intro i d o h ho
        obtain ⟨o', ho', hc⟩ := hd i d h
        rw [ho] at ho'; cases ho'
        unfold compD at hc
        split at hc
        · split at hc
          · rename_i hfl; cases hc; simp only at hfl; rw [hfl]; rfl
          · rename_i hfl; cases hc; simp only at hfl; rw [hfl]; rfl
          · rename_i hfl
            simp only at hfl hc; rw [hfl]
            split at hc <;> (cases hc; rfl)
        · cases hc
      have hks : ksD P H f rg ops = ds.map (·.m) := by
        apply List.ext_getElem?
        intro i
        rw [List.getElem?_map]
        cases ho : ops[i]? with
        | none =>
          have h1 : ops.size ≤ i := by simpa using ho
          have h2 : ds[i]? = none := by rw [List.getElem?_eq_none_iff]; omega
          rw [h2]
          rw [Option.map_none, List.getElem?_eq_none_iff]
          simpa [ksD] using h1
        | some o =>
          have h1 := (Array.getElem?_eq_some_iff.1 ho).1
          have h2 := List.getElem?_eq_getElem (l := ds) (i := i) (by omega)
          rw [h2, ksD_getD ho, Option.map_some, hm i _ o h2 ho]
      have hk : ∀ i, kOf (ksD P H f rg ops) i = kD ds i := by
        intro i; unfold kOf kD; rw [hks, List.map_take]
      have hkl : (ksD P H f rg ops).length = ds.length := by rw [hks, List.length_map]
      have hkg : ∀ (i : Nat) d, ds[i]? = some d → (ksD P H f rg ops).getD i false = d.m := by
        intro i d h
        rw [List.getD_eq_getElem?_getD, hks, List.getElem?_map, h]; rfl
      have hds' : ∀ (i : Nat) d, ds[i]? = some d → ∃ o, ops[i]? = some o := fun i d h => let ⟨o, ho, _⟩ := hd i d h; ⟨o, ho⟩
      have htx : ∀ (i : Nat) o, ops[i]? = some o → ∀ e ∈ o.after.toList, Region.binds .text e = true → e.on < i := fun i o ho e he hb => by
        have := (hok1 i o ho).1 e he
        unfold edgeD at this
        simp only [hb, Bool.not_true, Bool.false_or, Bool.and_eq_true] at this
        exact ble_iff.1 this.1
      have hsz : ∀ (i : Nat) o, ops[i]? = some o → i < ops.size := fun i o ho => (Array.getElem?_eq_some_iff.1 ho).1
      have hgc : ∃ rank : Nat → Nat, ∀ (i : Nat) o, ops[i]? = some o → ∀ e ∈ o.after.toList, Region.binds .gc e = true → rank e.on < rank i ∧ e.on < ops.size := by
        cases hdep : Region.departs ops with
        | false =>
          refine ⟨id, fun i o ho e he hb => ?_⟩
          have hany : Region.binds .any e = true := by
            unfold Region.departs at hdep
            rw [Array.any_eq_false'] at hdep
            have h1 := hdep o (Array.mem_of_getElem? ho)
            simp only [Bool.not_eq_true] at h1
            rw [Array.any_eq_false'] at h1
            have h2 := h1 e (by simpa using he)
            simpa using h2
          have := htx i o ho e he (binds_any0 hany)
          have := hsz i o ho
          exact ⟨by simp only [id]; omega, by omega⟩
        | true =>
          refine ⟨fun i => (gcOrd ops).idxOf i, fun i o ho e he hb => ?_⟩
          have := (hok1 i o ho).1 e he
          unfold edgeD at this
          rw [hdep, hb] at this
          simp only [Bool.not_true, Bool.false_or, Bool.and_eq_true] at this
          have h1 := ble_iff.1 this.2.1
          have h2 := ble_iff.1 this.2.2
          exact ⟨Nat.lt_of_succ_le h2, h1⟩
      refine ⟨rfl, fun i o ho e he hb => htx i o ho e he (binds_any0 hb), fun md => ?_, hlen', ?_, ?_, ?_, ?_, ?_, ?_⟩
      · cases md with
        | gc => exact hgc
        | text => exact ⟨id, fun i o ho e he hb => by have := htx i o ho e he hb; have := hsz i o ho; exact ⟨by simp only [id]; omega, by omega⟩⟩
        | any => exact ⟨id, fun i o ho e he hb => by have := htx i o ho e he (binds_any0 hb); have := hsz i o ho; exact ⟨by simp only [id]; omega, by omega⟩⟩
      · intro i d o h ho
        obtain ⟨o', ho', hc⟩ := hd i d h
        rw [ho] at ho'; cases ho'
        unfold compD at hc
        split at hc
        · rename_i op gd h1 h2
          split at hc
          · cases hc; exact ⟨h1, h2⟩
          · cases hc; exact ⟨h1, h2⟩
          · simp only at hc
            split at hc <;> (cases hc; exact ⟨h1, h2⟩)
        · cases hc
      · intro i d h hmf
        obtain ⟨o, ho, hc⟩ := hd i d h
        unfold compD at hc
        split at hc
        · rename_i op gd h1 h2
          split at hc
          · cases hc; cases hmf
          · rename_i hfl; cases hc; exact .inl (floatK_true hfl h1)
          · rename_i hfl
            simp only at hc hfl h1
            have pr : ∀ (j : Nat) dj, ds[j]? = some dj → dj.m = true → (kD ds j < (spanD (masksGo ops.toList []) (ksD P H f rg ops) i).1 → bitB (masksGo ops.toList []) i j = true) ∧
                ((spanD (masksGo ops.toList []) (ksD P H f rg ops) i).2 ≤ kD ds j → bitB (masksGo ops.toList []) j i = true) := by
              intro j dj hj hjm
              obtain ⟨p, hp⟩ := hds' j dj hj
              have := (hok1 i o ho).2 j p hp
              unfold pairD at this
              rw [Bool.and_eq_true] at this
              have := this.2
              simp only [hkg j dj hj, hjm, hfl, hk, Bool.not_true, Bool.false_or, Bool.and_eq_true, Bool.or_eq_true] at this
              obtain ⟨_, h3, h4⟩ := this
              refine ⟨fun q => h3.resolve_left fun z => ?_, fun q => h4.resolve_left fun z => ?_⟩
              · have := ble_iff.1 z; omega
              · have := ble_iff.1 z; omega
            have lole : (spanD (masksGo ops.toList []) (ksD P H f rg ops) i).1 ≤ kD ds ds.length := by
              have : (spanD (masksGo ops.toList []) (ksD P H f rg ops) i).1 ≤ kOf (ksD P H f rg ops) (ksD P H f rg ops).length := Nat.min_le_right _ _
              rwa [hk, hkl] at this
            split at hc
            · rename_i hq
              cases hc
              refine .inr ⟨floatK_false hfl h1, _, _, lole, pr, .inl ⟨?_, ?_⟩⟩
              · rw [hq.2, hk]
              · rw [← hq.1, hq.2, hk]
            · cases hc
              refine .inr ⟨floatK_false hfl h1, _, _, lole, pr, .inr fun k k1 k2 k3 => ?_⟩
              simp only [hk, hkl]
              omega
        · cases hc
      · intro i o t ho ht
        have := (hok1 i o ho).2 i o ho
        unfold pairD at this
        rw [Bool.and_eq_true] at this
        have := this.1
        simp only [ht, Bool.and_eq_true, decide_eq_true_eq] at this
        exact this.1.1
      · intro i j o p t ho hp hij ht hpt
        have := (hok1 i o ho).2 j p hp
        unfold pairD at this
        rw [Bool.and_eq_true] at this
        have := this.1
        simp only [hpt, Bool.and_eq_true, Bool.or_eq_true, beq_iff_eq, hij, false_or, bne_iff_ne] at this
        exact this.1.2 ht
      · intro i j o p t ho hp hij hpt hl
        have := (hok1 i o ho).2 j p hp
        unfold pairD at this
        rw [Bool.and_eq_true] at this
        have := this.1
        simp only [hpt, Bool.and_eq_true, Bool.or_eq_true, beq_iff_eq, hij, false_or] at this
        rcases this.2 with h | h
        · exact h
        · simp [hl] at h
      · intro i j di dj hi hj hmi hmj hij
        obtain ⟨o, ho⟩ := hds' i di hi
        obtain ⟨p, hp⟩ := hds' j dj hj
        have := (hok1 i o ho).2 j p hp
        unfold pairD at this
        rw [Bool.and_eq_true] at this
        have := this.2
        simp only [hkg i di hi, hkg j dj hj, hmi, hmj, Bool.not_true, Bool.false_or, Bool.and_eq_true, Bool.or_eq_true] at this
        rcases this.1 with h | h
        · have := ble_iff.1 h; omega
        · exact h
    · cases hr
  · cases hr
end Go.Vd

namespace Go.Vd
open Go Go.RowKit

def mixA (a a0 : Act) (ns : Nms) : Act := { a with tmps := a.tmps.mapIdx fun t x => if ns.contains (some t) then x else a0.tmps.getD t undef }
theorem mixA_size (a a0 : Act) (ns : Nms) : (mixA a a0 ns).tmps.size = a.tmps.size := by simp [mixA]
theorem mixA_getD {a a0 : Act} {ns : Nms} (hs : a.tmps.size = a0.tmps.size) (t : Nat) : (mixA a a0 ns).tmps.getD t undef = if ns.contains (some t) then a.tmps.getD t undef else a0.tmps.getD t undef := by
  simp only [mixA, Array.getD_eq_getD_getElem?, Array.getElem?_mapIdx]
  cases h : a.tmps[t]? with
  | none =>
    have h0 : a0.tmps[t]? = none := by rw [Array.getElem?_eq_none_iff] at h ⊢; rw [← hs]; exact h
    simp [h0]
  | some x => simp
theorem yielded_getD (ops : Array Oper) (tmps : Array Value) (j : Nat) : yielded ops tmps j = match (ops[j]?).bind (·.dst) with
    | none => none
    | some t => match tmps.getD t undef with
      | .bool b => some b
      | _ => none := by
  unfold yielded
  cases (ops[j]?).bind (·.dst) with
  | none => rfl
  | some t =>
    simp only [Option.bind_some, Array.getD_eq_getD_getElem?]
    cases tmps[t]? with
    | none => rfl
    | some x => cases x <;> rfl
theorem binds_any {md : Region.Mode} {e : Edge} (h : Region.binds .any e = true) : Region.binds md e = true := by
  unfold Region.binds at *
  cases hg : e.ground <;> simp only [hg] at h ⊢ <;> exact absurd h (by decide)
theorem kD_mono {ds : List DOp} : ∀ {i j : Nat}, i ≤ j → kD ds i ≤ kD ds j := by
  intro i j h
  induction h with
  | refl => exact Nat.le_refl _
  | @step m hm ih =>
    refine Nat.le_trans ih ?_
    by_cases hlt : m < ds.length
    · rw [kD_succ (List.getElem?_eq_getElem hlt)]; exact Nat.le_add_right _ _
    · unfold kD; rw [List.take_of_length_le (by omega), List.take_of_length_le (by omega)]; exact Nat.le_refl _
theorem exists_mut {ds : List DOp} : ∀ {n q : Nat}, n ≤ ds.length → q < kD ds n → ∃ j dj, j < n ∧ ds[j]? = some dj ∧ dj.m = true ∧ kD ds j = q := by
  intro n
  induction n with
  | zero => intro q _ h; simp [kD] at h
  | succ n ih =>
    intro q hn h
    have hlt : n < ds.length := hn
    have hk := kD_succ (List.getElem?_eq_getElem hlt)
    by_cases hq : q < kD ds n
    · obtain ⟨j, dj, h1, h2, h3, h4⟩ := ih (by omega) hq
      exact ⟨j, dj, by omega, h2, h3, h4⟩
    · cases hm : (ds[n]).m with
      | false => rw [hk, hm] at h; simp at h; omega
      | true => rw [hk, hm] at h; simp at h; exact ⟨n, ds[n], by omega, List.getElem?_eq_getElem hlt, hm, by omega⟩
theorem listed_set {listed : Array Bool} {i j : Nat} (h : (listed.setIfInBounds i true).getD j false = true) : j = i ∨ listed.getD j false = true := by
  by_cases hij : i = j
  · exact .inl hij.symm
  · rw [getD_set_ne false hij] at h; exact .inr h
theorem listed_lt {listed : Array Bool} {i : Nat} (h : listed.getD i true = false) : i < listed.size ∧ listed.getD i false = false := by
  by_cases hlt : i < listed.size
  · refine ⟨hlt, ?_⟩
    simpa [Array.getD, hlt] using h
  · simp [Array.getD, hlt] at h

section
variable {P : Program} {H : Hints} {f : Nat} {isG : Nat → Bool} {sz rg : Nat} {ops : Array Oper} {B : List Nat} {ds : List DOp} {cf : CallF} {g : PT AV} {lf : List AV} {hsf : List AHeap} {L : Nat → List AV} {Hp : Nat → AHeap}
  {B0 : Nat} {W : World} {G0 : Gh} {w0 : World} {a0 : Act} {md : Region.Mode}
def valD (L : Nat → List AV) (j : Nat) : AV := (L (j + 1)).headD .undef
theorem L_get (ran : RanD cf g ds lf hsf L Hp) : ∀ (i : Nat), i ≤ ds.length → (L i).length = i ∧ ∀ j, j < i → (L i)[i - 1 - j]? = some (valD L j) := by
  intro i
  induction i with
  | zero => intro _; rw [ran.first]; exact ⟨rfl, fun j hj => by omega⟩
  | succ i ih =>
    intro hi
    obtain ⟨h1, h2⟩ := ih (by omega)
    obtain ⟨v, hv, _⟩ := ran.step i _ (List.getElem?_eq_getElem hi)
    refine ⟨by rw [hv]; simp [h1], fun j hj => ?_⟩
    by_cases hji : j = i
    · subst hji
      rw [show j + 1 - 1 - j = 0 by omega]
      rw [valD, hv]; rfl
    · rw [hv, show i + 1 - 1 - j = (i - 1 - j) + 1 by omega]
      simpa using h2 j (by omega)
structure DInv (ops : Array Oper) (ds : List DOp) (L : Nat → List AV) (Hp : Nat → AHeap) (B0 : Nat) (W : World) (G0 : Gh) (w0 : World) (a0 : Act) (listed : Array Bool) (a : Act) (w : World) (G : Gh) (k : Nat) : Prop where
  size : listed.size = ops.size
  closed : ∀ (j : Nat) o, ops[j]? = some o → listed.getD j false = true → ∀ e ∈ o.after.toList, Region.binds .any e = true → listed.getD e.on false = true
  wrt : ∀ (j : Nat) d, ds[j]? = some d → d.m = true → (listed.getD j false = true ↔ kD ds j < k)
  kle : k ≤ kD ds ds.length
  stp : Stp B0 W G0 (Hp 0) w0 G (Hp k) w
  asz : a.tmps.size = a0.tmps.size
  adef : a.defers = a0.defers
  told : ∀ (j : Nat) o t, ops[j]? = some o → listed.getD j false = true → o.dst = some t → VRel G (valD L j) (a.tmps.getD t undef)
  kept : ∀ t, (∀ (j : Nat) o, ops[j]? = some o → listed.getD j false = true → o.dst ≠ some t) → a.tmps.getD t undef = a0.tmps.getD t undef
variable {listed : Array Bool} {a : Act} {w : World} {G : Gh} {k i : Nat} {o : Oper} {d : DOp}

/-- A ready operation: all that is sure to run first has run. -/
theorem DInv.before (ctx : DCtx P H f sz rg ops B ds) (I : DInv ops ds L Hp B0 W G0 w0 a0 listed a w G k) (ho : ops[i]? = some o) (hr : ∀ e ∈ o.after, Region.binds md e = true → listed.getD e.on false = true) :
    ∀ j, bitB B i j = true → listed.getD j false = true := by
  rw [ctx.mask]
  refine before_ran (D := fun j => listed.getD j false = true) ctx.low I.closed (i + 1) i (by omega) ?_
  intro o' ho' e he hb
  rw [ho] at ho'; cases ho'
  exact hr e (by simpa using he) (binds_any hb)
theorem DInv.upward (ctx : DCtx P H f sz rg ops B ds) (I : DInv ops ds L Hp B0 W G0 w0 a0 listed a w G k) {j : Nat} (hl : listed.getD j false = true) :
    ∀ i, bitB B j i = true → listed.getD i false = true := by
  rw [ctx.mask]
  exact before_ran (D := fun j => listed.getD j false = true) ctx.low I.closed (j + 1) j (by omega) fun o ho e he hb => I.closed j o ho hl e he hb
theorem bit_lt (ctx : DCtx P H f sz rg ops B ds) {i j : Nat} (h : bitB B i j = true) : j < i := by
  rw [ctx.mask] at h
  refine before_ran (ops := ops) (D := fun j => j < i) ctx.low (fun j o ho hj e he hb => ?_) (i + 1) i (by omega) (fun o ho e he hb => ctx.low i o ho e he hb) j h
  have := ctx.low j o ho e he hb
  omega
theorem DInv.env (ctx : DCtx P H f sz rg ops B ds) (ran : RanD cf g ds lf hsf L Hp) (X0 : Env H isG sz G0 [] g [] a0) (I : DInv ops ds L Hp B0 W G0 w0 a0 listed a w G k) (ho : ops[i]? = some o)
    (hb : ∀ j, bitB B i j = true → listed.getD j false = true) : Env H isG sz G (nsD ops B i) g (L i) (mixA a a0 (nsD ops B i)) := by
  have hi : i < ds.length := by rw [ctx.len]; exact (Array.getElem?_eq_some_iff.1 ho).1
  obtain ⟨l1, l2⟩ := L_get ran i (by omega)
  refine ⟨by rw [mixA_size, I.asz]; exact X0.size, fun t v hn hv => ?_, by rw [nsD_length, l1], fun t p v hp hv => ?_, fun b cs hg => ?_⟩
  · obtain ⟨h1, h2⟩ := X0.fr t v (by simp) hv
    refine ⟨h1, ?_⟩
    rw [mixA_getD I.asz, if_neg (by simpa using idxOf_none hn)]
    exact h2.mono I.stp.le
  · obtain ⟨j, oj, hj, hpj, hbj, hoj, hdj⟩ := nsD_get (idxOf_get hp)
    rw [hpj, l2 j hj] at hv
    cases hv
    have hc : (nsD ops B i).contains (some t) = true := by
      rw [List.contains_iff_mem]
      exact nsD_mem.2 ⟨j, oj, hj, hbj, hoj, hdj⟩
    rw [mixA_getD I.asz, if_pos hc]
    exact I.told j oj t hoj (hb j hbj) hdj
  · obtain ⟨vs, h1, h2⟩ := X0.glob b cs hg
    exact ⟨vs, I.stp.le.z _ _ h1, h2.mono I.stp.le⟩
theorem DInv.same (ctx : DCtx P H f sz rg ops B ds) (I : DInv ops ds L Hp B0 W G0 w0 a0 listed a w G k) (ho : ops[i]? = some o) (hun : listed.getD i false = false)
    (_hb : ∀ j, bitB B i j = true → listed.getD j false = true) {t : Nat} (ht : t ∈ o.looksAt ops) : (mixA a a0 (nsD ops B i)).tmps.getD t undef = a.tmps.getD t undef := by
  rw [mixA_getD I.asz]
  split
  · rfl
  · rename_i hc
    symm
    refine I.kept t fun j p hp hl hd => hc ?_
    have hij : i ≠ j := fun q => by subst q; rw [hun] at hl; cases hl
    rcases ctx.look i j o p t ho hp hij hd ht with h | h
    · rw [List.contains_iff_mem]; exact nsD_mem.2 ⟨j, p, bit_lt ctx h, h, hp, hd⟩
    · have := I.upward ctx hl i h
      rw [hun] at this; cases this
theorem DInv.eval (ctx : DCtx P H f sz rg ops B ds) (I : DInv ops ds L Hp B0 W G0 w0 a0 listed a w G k) (ho : ops[i]? = some o) (hun : listed.getD i false = false)
    (hb : ∀ j, bitB B i j = true → listed.getD j false = true) (hs : ∀ cs b, o.op ≠ .select cs b) : execOp a.eval o = execOp (mixA a a0 (nsD ops B i)).eval o := by
  refine execOp_congr o hs fun x hx => ?_
  cases x with
  | tmp t =>
    have : t ∈ o.looksAt ops := List.mem_append_left _ (List.mem_filterMap.2 ⟨.tmp t, by simpa using hx, rfl⟩)
    exact (I.same ctx ho hun hb this).symm
  | _ => rfl
theorem DInv.wanted (ctx : DCtx P H f sz rg ops B ds) (I : DInv ops ds L Hp B0 W G0 w0 a0 listed a w G k) (ho : ops[i]? = some o) (hun : listed.getD i false = false)
    (hb : ∀ j, bitB B i j = true → listed.getD j false = true) : Region.wanted o (yielded ops a.tmps) = Region.wanted o (yielded ops (mixA a a0 (nsD ops B i)).tmps) := by
  unfold Region.wanted
  cases hg : o.guard with
  | none => rfl
  | some q =>
    obtain ⟨j, want⟩ := q
    simp only
    rw [yielded_getD, yielded_getD]
    cases ht : (ops[j]?).bind (·.dst) with
    | none => rfl
    | some t =>
      have : t ∈ o.looksAt ops := List.mem_append_right _ (by simp [hg, ht])
      simp only
      rw [I.same ctx ho hun hb this]
/-- A writer runs at its own place. -/
theorem DInv.at_mut (ctx : DCtx P H f sz rg ops B ds) (I : DInv ops ds L Hp B0 W G0 w0 a0 listed a w G k) (hd : ds[i]? = some d) (hm : d.m = true) (hun : listed.getD i false = false)
    (hb : ∀ j, bitB B i j = true → listed.getD j false = true) : k = kD ds i := by
  have h1 : ¬ kD ds i < k := fun q => by rw [(I.wrt i d hd hm).2 q] at hun; cases hun
  by_cases h2 : k < kD ds i
  · obtain ⟨j, dj, j1, j2, j3, j4⟩ := exists_mut (Nat.le_of_lt (List.getElem?_eq_some_iff.1 hd).1) h2
    have := (I.wrt j dj j2 j3).1 (hb j (ctx.muts j i dj d j2 hd j3 hm j1))
    omega
  · omega
/-- What an operation that runs comes to. -/
theorem DInv.exec (ctx : DCtx P H f sz rg ops B ds) (ran : RanD cf g ds lf hsf L Hp) (I : DInv ops ds L Hp B0 W G0 w0 a0 listed a w G k) (hd : ds[i]? = some d) (hun : listed.getD i false = false)
    (hb : ∀ j, bitB B i j = true → listed.getD j false = true) : ∃ v, L (i + 1) = v :: L i ∧
      ((wantD d.gd (L i) = some false ∧ v = .undef ∧ (d.m = true → Hp (k + 1) = Hp k)) ∨
       (wantD d.gd (L i) = some true ∧ d.op cf g (L i) (Hp k) = .ok v (Hp (k + if d.m then 1 else 0)))) := by
  obtain ⟨v, hv, h⟩ := ran.step i d hd
  refine ⟨v, hv, ?_⟩
  rcases h with ⟨hw, e, hm⟩ | ⟨hw, hm, hf⟩
  · exact .inl ⟨hw, e, fun q => by rw [I.at_mut ctx hd q hun hb]; exact hm q⟩
  · refine .inr ⟨hw, ?_⟩
    cases hdm : d.m with
    | true =>
      rw [I.at_mut ctx hd hdm hun hb]
      simpa using hm hdm
    | false =>
      obtain ⟨⟨h', e⟩, hc⟩ := hf hdm
      simp only [Bool.false_eq_true, if_false, Nat.add_zero]
      rcases ctx.fl i d hd hdm with hp | ⟨⟨n, hr⟩, lo, hi, hlo, hjs, hk⟩
      · rw [hp cf g (L i) (Hp (kD ds i)) cf (Hp k), e]; rfl
      · have k1 : lo ≤ k := by
          by_cases q : k < lo
          · obtain ⟨j, dj, j1, j2, j3, j4⟩ := exists_mut (Nat.le_refl _) (show k < kD ds ds.length by omega)
            have := (I.wrt j dj j2 j3).1 (hb j ((hjs j dj j2 j3).1 (by omega)))
            omega
          · omega
        have k2 : k ≤ hi := by
          by_cases q : hi < k
          · have := I.kle
            obtain ⟨j, dj, j1, j2, j3, j4⟩ := exists_mut (Nat.le_refl _) (show hi < kD ds ds.length by omega)
            have h1 := (I.wrt j dj j2 j3).2 (by omega)
            have h2 := I.upward ctx h1 i ((hjs j dj j2 j3).2 (by omega))
            rw [hun] at h2; cases h2
          · omega
        have : ∃ h', d.op cf g (L i) (Hp k) = .ok v h' := by
          rcases hk with ⟨e1, e2⟩ | hk
          · have : k = kD ds i := by omega
            rw [this]; exact ⟨h', e⟩
          · obtain ⟨c1, c2, c3⟩ := hk k k1 k2 I.kle
            cases hp : isImm (d.px g (L i)) with
            | false => exact hc c1 hp k I.kle c2 c3
            | true =>
              rw [hr] at e ⊢
              rw [load_imm hp (Hp (kD ds i)) (Hp k), e]
              exact ⟨_, rfl⟩
        obtain ⟨h2, e2⟩ := this
        have := rds_load n d.px cf g (L i) (Hp k)
        rw [← hr] at this
        rw [e2] at this
        rw [e2, this]; rfl
/-- One more operation has run. -/
theorem DInv.next (ctx : DCtx P H f sz rg ops B ds) (X0 : sz ≤ a0.tmps.size) (I : DInv ops ds L Hp B0 W G0 w0 a0 listed a w G k) (hd : ds[i]? = some d) (ho : ops[i]? = some o) (hu : listed.getD i true = false)
    (hr : ∀ e ∈ o.after, Region.binds md e = true → listed.getD e.on false = true) {G' : Gh} {v' : Value} {w' : World} (S : Stp B0 W G (Hp k) w G' (Hp (k + if d.m then 1 else 0)) w') (V : VRel G' (valD L i) v') :
    DInv ops ds L Hp B0 W G0 w0 a0 (listed.setIfInBounds i true) (a.put o.dst v') w' G' (k + if d.m then 1 else 0) := by
  obtain ⟨hlt, hun⟩ := listed_lt hu
  have hb := I.before ctx ho hr
  have hself : (listed.setIfInBounds i true).getD i false = true := by simp [Array.getD, hlt]
  refine ⟨by simpa using I.size, ?_, ?_, ?_, I.stp.trans S, by rw [put_size]; exact I.asz, by rw [put_defers]; exact I.adef, ?_, ?_⟩
  · intro j p hp hl e he hbe
    rcases listed_set hl with rfl | hl
    · rw [ho] at hp; cases hp
      exact getD_set_true (hr e (by simpa using he) (binds_any hbe))
    · exact getD_set_true (I.closed j p hp hl e he hbe)
  · intro j dj hj hjm
    by_cases hji : j = i
    · subst hji
      rw [hd] at hj; cases hj
      have := I.at_mut ctx hd hjm hun hb
      simp only [hself, hjm, if_true, true_iff]
      omega
    · rw [getD_set_ne false (fun q => hji q.symm)]
      rw [I.wrt j dj hj hjm]
      cases hdm : d.m with
      | false => simp
      | true =>
        have := I.at_mut ctx hd hdm hun hb
        simp only [if_true]
        have hj1 := kD_succ hj
        have hi1 := kD_succ hd
        rw [hjm] at hj1; rw [hdm] at hi1
        simp only [if_true] at hj1 hi1
        rcases Nat.lt_or_gt_of_ne hji with h | h
        · have := kD_mono (ds := ds) (show j + 1 ≤ i by omega); omega
        · have := kD_mono (ds := ds) (show i + 1 ≤ j by omega); omega
  · cases hdm : d.m with
    | false => simpa using I.kle
    | true =>
      have := I.at_mut ctx hd hdm hun hb
      have hi1 := kD_succ hd
      rw [hdm] at hi1
      simp only [if_true] at hi1 ⊢
      have := kD_mono (ds := ds) (show i + 1 ≤ ds.length from (List.getElem?_eq_some_iff.1 hd).1)
      omega
  · intro j p t hp hl hpt
    by_cases hji : j = i
    · subst hji
      rw [ho] at hp; cases hp
      rw [hpt, put_getD_same (by rw [I.asz]; exact Nat.lt_of_lt_of_le (ctx.dst j o t ho hpt) X0)]
      exact V
    · have hl' := (listed_set hl).resolve_left hji
      have hV := (I.told j p t hp hl' hpt).mono S.le
      cases hod : o.dst with
      | none => exact hV
      | some t' =>
        have : t ≠ t' := fun q => by subst q; exact ctx.dst2 i j o p t ho hp (fun z => hji z.symm) hod hpt
        rw [put_getD_ne this]; exact hV
  · intro t hk
    have h1 : a.tmps.getD t undef = a0.tmps.getD t undef := I.kept t fun j p hp hl => hk j p hp (getD_set_true hl)
    have h2 := hk i o ho hself
    cases hod : o.dst with
    | none => exact h1
    | some t' => rw [hod] at h2; rw [put_getD_ne (fun q => h2 (by rw [q]))]; exact h1
end
end Go.Vd

namespace Go.Vd
open Go Go.RowKit

section
variable {P : Program} {H : Hints} {f : Nat} {isG : Nat → Bool} {sz rg : Nat} {ops : Array Oper} {B : List Nat} {ds : List DOp} {cf : CallF} {g : PT AV} {lf : List AV} {hsf : List AHeap} {L : Nat → List AV} {Hp : Nat → AHeap}
  {B0 : Nat} {W : World} {G0 : Gh} {w0 : World} {a0 : Act} {md : Region.Mode} {listed : Array Bool} {a : Act} {w : World} {G : Gh} {k i : Nat}
theorem compOp_noSelect {ns : Nms} {ix : Nat} {o : Oper} {r : OpR} (h : compOp P H f ns rg ix o = some r) : ∀ cs b, o.op ≠ .select cs b := by
  intro cs b e
  unfold compOp at h
  rw [e] at h
  cases h
theorem gdD_wanted {o : Oper} {gd : Option (Nat × Bool)} {ns : Nms} {l : List AV} (hns : ns = nsD ops B i) (h : gdD ops B i o = some gd) (X : Env H isG sz G ns g l a) {b : Bool} (hw : wantD gd l = some b) :
    Region.wanted o (yielded ops a.tmps) = b := by
  unfold gdD at h
  split at h
  · rename_i hg; cases h; cases hw; simp [Region.wanted, hg]
  · rename_i j want hg
    split at h
    · rename_i t ht
      split at h
      · rename_i p hp
        cases h
        exact X.wanted hg ht (by rw [hns]; exact hp) hw
      · cases h
    · cases h
theorem DInv.step (ctx : DCtx P H f sz rg ops B ds) (ran : RanD cf g ds lf hsf L Hp) (hcf : CallS P H cf) (X0 : Env H isG sz G0 [] g [] a0) (I : DInv ops ds L Hp B0 W G0 w0 a0 listed a w G k)
    (hi : i ∈ Region.ready md ops listed) (Q : Exit → Act → World → Prop) (K : Act → World → Prop) (hK : ∀ a' w' G' k', DInv ops ds L Hp B0 W G0 w0 a0 (listed.setIfInBounds i true) a' w' G' k' → K a' w') : wpOp P ops Q i K a w := by
  obtain ⟨hu, o, ho, hr⟩ := mem_ready.1 hi
  have hun := (listed_lt hu).2
  have hb := I.before ctx ho hr
  have hlt : i < ds.length := by rw [ctx.len]; exact (Array.getElem?_eq_some_iff.1 ho).1
  have hd := List.getElem?_eq_getElem hlt
  obtain ⟨hop, hgd⟩ := ctx.op i _ o hd ho
  have X := I.env ctx ran X0 ho hb
  obtain ⟨v, hv, h⟩ := I.exec ctx ran hd hun hb
  have hval : valD L i = v := by rw [valD, hv]; rfl
  have hwant : ∀ b, wantD ds[i].gd (L i) = some b → Region.wanted o (yielded ops a.tmps) = b := fun b hw => by
    rw [I.wanted ctx ho hun hb]
    exact gdD_wanted rfl hgd X hw
  unfold wpOp
  simp only [ho]
  rcases h with ⟨hw, rfl, hh⟩ | ⟨hw, hrun⟩
  · rw [hwant _ hw]
    simp only [Bool.false_eq_true, if_false]
    refine hK _ _ G _ (I.next ctx X0.size hd ho hu hr ?_ (by rw [hval]; exact .undef))
    cases hm : ds[i].m with
    | true => simp only [if_true]; rw [hh hm]; exact Stp.refl I.stp.rel
    | false => exact Stp.refl I.stp.rel
  · rw [hwant _ hw]
    simp only [if_true]
    refine .inl ?_
    have OK := compOp_ok (P := P) (isG := isG) (sz := sz) hop cf hcf B0 W G g (L i) (Hp k) _ w I.stp.rel X
      (fun b' w' => ∃ v', b' = (mixA a a0 (nsD ops B i)).put o.dst v' ∧ ∃ G', Stp B0 W G (Hp k) w G' (Hp (k + if ds[i].m then 1 else 0)) w' ∧ VRel G' v v') (fun _ _ _ => False)
    rw [hrun] at OK
    refine wp_switch (I.eval ctx ho hun hb (compOp_noSelect hop)) (mixA_size _ _ _).symm (OK fun G' v' w' S V => ⟨v', rfl, G', S, V⟩) ?_
    rintro v' w' ⟨G', S, V⟩
    exact hK _ _ G' _ (I.next ctx X0.size hd ho hu hr S (by rw [hval]; exact V))
theorem putsD_cons (d : Option Nat) (fin : List (Option Nat)) (v : AV) (l : List AV) (g : PT AV) : putsD (d :: fin) (v :: l) g = match d with | some t => putsD fin l (g.put t (some v)) | none => putsD fin l g := by
  cases d <;> rfl
theorem putsD_get : ∀ (fin : List (Option Nat)) (l : List AV) (g : PT AV) (t : Nat) (v : AV), (putsD fin l g).get t = some v →
    (∃ p : Nat, fin[p]? = some (some t) ∧ l[p]? = some v) ∨ (g.get t = some v ∧ ∀ (p : Nat) (x : AV), fin[p]? = some (some t) → l[p]? ≠ some x)
  | [], l, g, t, v, h => .inr ⟨h, fun p x hp => by simp at hp⟩
  | d :: fin, [], g, t, v, h => .inr ⟨h, fun p x _ => by simp⟩
  | d :: fin, u :: l, g, t, v, h => by
    rw [putsD_cons] at h
    cases d with
    | none =>
      rcases putsD_get fin l _ t v h with ⟨p, h1, h2⟩ | ⟨h1, h2⟩
      · exact .inl ⟨p + 1, by simpa using h1, by simpa using h2⟩
      · refine .inr ⟨h1, fun p x hp => ?_⟩
        cases p with
        | zero => simp at hp
        | succ p => simpa using h2 p x (by simpa using hp)
    | some s =>
      simp only at h
      rcases putsD_get fin l _ t v h with ⟨p, h1, h2⟩ | ⟨h1, h2⟩
      · exact .inl ⟨p + 1, by simpa using h1, by simpa using h2⟩
      · rw [PT.get_put] at h1
        by_cases q : t = s
        · rw [if_pos q] at h1; cases h1
          exact .inl ⟨0, by simp [q], by simp⟩
        · rw [if_neg q] at h1
          refine .inr ⟨h1, fun p x hp => ?_⟩
          cases p with
          | zero => simp at hp; exact absurd hp.symm q
          | succ p => simpa using h2 p x (by simpa using hp)
theorem finD_get {p t : Nat} : (finD isG ops)[p]? = some (some t) ↔ p < ops.size ∧ ∃ o, ops[ops.size - 1 - p]? = some o ∧ o.dst = some t ∧ isG t = true := by
  unfold finD
  constructor
  · intro h
    have hp : p < ops.size := by
      have := (List.getElem?_eq_some_iff.1 h).1
      simpa using this
    refine ⟨hp, ?_⟩
    rw [List.getElem?_reverse (by simpa using hp)] at h
    simp only [List.length_map, Array.length_toList, List.getElem?_map, Array.getElem?_toList] at h
    cases ho : ops[ops.size - 1 - p]? with
    | none => rw [ho] at h; simp at h
    | some o =>
      rw [ho] at h
      simp only [Option.map_some, Option.some.injEq] at h
      split at h
      · rename_i d hd
        split at h
        · rename_i hg; cases h; exact ⟨o, rfl, hd, hg⟩
        · cases h
      · cases h
  · rintro ⟨hp, o, ho, hd, hg⟩
    rw [List.getElem?_reverse (by simpa using hp)]
    simp only [List.length_map, Array.length_toList, List.getElem?_map, Array.getElem?_toList, ho, Option.map_some, hd, hg, if_true]
theorem DInv.done (ctx : DCtx P H f sz rg ops B ds) (ran : RanD cf g ds lf hsf L Hp) (X0 : Env H isG sz G0 [] g [] a0) (I : DInv ops ds L Hp B0 W G0 w0 a0 listed a w G k) (hall : ∀ j, j < ops.size → listed.getD j false = true) :
    k = kD ds ds.length ∧ Env H isG sz G [] (putsD (finD isG ops) lf g) [] a := by
  constructor
  · have := I.kle
    by_cases q : k < kD ds ds.length
    · obtain ⟨j, dj, j1, j2, j3, j4⟩ := exists_mut (Nat.le_refl _) q
      have := (I.wrt j dj j2 j3).1 (hall j (by rw [← ctx.len]; exact j1))
      omega
    · omega
  · obtain ⟨l1, l2⟩ := L_get ran ds.length (Nat.le_refl _)
    rw [ran.last, ctx.len] at l1 l2
    refine ⟨by rw [I.asz]; exact X0.size, fun t v _ h => ?_, rfl, fun t i v h => by simp at h, fun b cs hg => ?_⟩
    · rcases putsD_get _ _ _ _ _ h with ⟨p, h1, h2⟩ | ⟨h1, h2⟩
      · obtain ⟨hp, o, ho, hd, hg⟩ := finD_get.1 h1
        have hj : ops.size - 1 - p < ops.size := by omega
        have := l2 (ops.size - 1 - p) hj
        rw [show ops.size - 1 - (ops.size - 1 - p) = p by omega, h2] at this
        cases this
        exact ⟨hg, I.told _ o t ho (hall _ hj) hd⟩
      · obtain ⟨k1, k2⟩ := X0.fr t v (by simp) h1
        refine ⟨k1, ?_⟩
        rw [I.kept t fun j o ho _ hd => ?_]
        · exact k2.mono I.stp.le
        · have hj := (Array.getElem?_eq_some_iff.1 ho).1
          refine h2 (ops.size - 1 - j) (valD L j) (finD_get.2 ⟨by omega, o, ?_, hd, k1⟩) (l2 j hj)
          rw [show ops.size - 1 - (ops.size - 1 - j) = j by omega]; exact ho
    · obtain ⟨vs, h1, h2⟩ := X0.glob b cs hg
      exact ⟨vs, I.stp.le.z _ _ h1, h2.mono I.stp.le⟩
theorem ready_nil (ctx : DCtx P H f sz rg ops B ds) (hs : listed.size = ops.size) (h : Region.ready md ops listed = []) : ∀ j, j < ops.size → listed.getD j false = true := by
  obtain ⟨rank, hrank⟩ := ctx.rank md
  have key : ∀ (r j : Nat), rank j = r → j < ops.size → listed.getD j false = true := by
    intro r
    induction r using Nat.strongRecOn with
    | _ r ih =>
      intro j hr hj
      cases hl : listed.getD j false with
      | true => rfl
      | false =>
        exfalso
        have hu : listed.getD j true = false := by
          have hlt : j < listed.size := by omega
          simpa [Array.getD, hlt] using hl
        have ho := Array.getElem?_eq_getElem hj
        have : j ∈ Region.ready md ops listed := mem_ready.2 ⟨hu, _, ho, fun e he hb => by
          have := hrank j _ ho e (by simpa using he) hb
          exact ih (rank e.on) (by omega) e.on rfl this.2⟩
        rw [h] at this
        cases this
  exact fun j hj => key _ j rfl hj
theorem count_set {listed : Array Bool} {i : Nat} (h : listed.getD i true = false) : listed.toList.count false = (listed.setIfInBounds i true).toList.count false + 1 := by
  have hlt := (listed_lt h).1
  have he : listed.toList[i]? = some false := by
    simp only [Array.getElem?_toList]
    rw [Array.getElem?_eq_getElem hlt]
    simpa [Array.getD, hlt] using h
  rw [Array.toList_setIfInBounds]
  generalize listed.toList = xs at he
  clear h hlt
  induction xs generalizing i with
  | nil => simp at he
  | cons x xs ih =>
    cases i with
    | zero => simp at he; subst he; simp
    | succ i =>
      simp only [List.set_cons_succ, List.count_cons]
      rw [ih (by simpa using he)]; omega
theorem drawn_all (ctx : DCtx P H f sz rg ops B ds) (ran : RanD cf g ds lf hsf L Hp) (hcf : CallS P H cf) (X0 : Env H isG sz G0 [] g [] a0) (Q : Exit → Act → World → Prop)
    (hQ : ∀ G' a' w', Stp B0 W G0 (Hp 0) w0 G' (Hp (kD ds ds.length)) w' → Env H isG sz G' [] (putsD (finD isG ops) lf g) [] a' → a'.defers = a0.defers → Q .normal a' w') :
    ∀ (fuel : Nat) (listed : Array Bool) (a : Act) (w : World) (G : Gh) (k : Nat), listed.toList.count false = fuel → DInv ops ds L Hp B0 W G0 w0 a0 listed a w G k → wpAny P md ops Q fuel listed a w := by
  have fin : ∀ (listed : Array Bool) (a : Act) (w : World) (G : Gh) (k : Nat), DInv ops ds L Hp B0 W G0 w0 a0 listed a w G k → Region.ready md ops listed = [] → Q .normal a w := by
    intro listed a w G k I hr
    obtain ⟨h1, h2⟩ := I.done ctx ran X0 (ready_nil ctx I.size hr)
    have S := I.stp
    rw [h1] at S
    exact hQ G a w S h2 I.adef
  intro fuel
  induction fuel with
  | zero =>
    intro listed a w G k hc I
    have hr : Region.ready md ops listed = [] := by
      rw [List.eq_nil_iff_forall_not_mem]
      intro i hi
      have := count_set (mem_ready.1 hi).1
      omega
    exact ⟨hr, fin _ _ _ _ _ I hr⟩
  | succ fuel ih =>
    intro listed a w G k hc I
    refine ⟨fin _ _ _ _ _ I, fun i hi => ?_⟩
    exact I.step ctx ran hcf X0 hi Q _ fun a' w' G' k' I' => ih _ _ _ _ _ (by have := count_set (mem_ready.1 hi).1; omega) I'
theorem draw_ok {r : RegR} (hr : compDraw P H f isG sz rg ops = some r) (hcf : CallS P H cf) {h0 : AHeap} (R : Rel B0 W G0 h0 w0) (X0 : Env H isG sz G0 [] g [] a0) (Q : Exit → Act → World → Prop) :
    match r cf [] g h0 with
    | .fail => True
    | .ok e g' h' => (∀ G' a' w', Stp B0 W G0 h0 w0 G' h' w' → Env H isG sz G' [] g' [] a' → a'.defers = a0.defers → ExQ G' e Q a' w') → (Code.region rg ops true).wp P Q a0 w0 := by
  obtain ⟨B, ds, ctx, rfl⟩ := compDraw_ctx hr
  unfold rDraw
  split
  · trivial
  · rename_i e g' h' heq
    split at heq
    · rename_i lf h1 rest hev
      cases heq
      obtain ⟨L, Hp, ran, hp0, hpM⟩ := ranD_of hev
      simp only [List.head?_cons, Option.some.injEq] at hpM
      subst hp0
      subst hpM
      intro K
      have I0 : DInv ops ds L Hp B0 W G0 w0.drew a0 (Array.replicate ops.size false) a0 w0.drew G0 0 := by
        have none : ∀ j, (Array.replicate ops.size false).getD j false = false := fun j => by
          by_cases hj : j < ops.size <;> simp [Array.getD, hj]
        refine ⟨by simp, fun j o _ hl => ?_, fun j d hd hm => ?_, Nat.zero_le _, Stp.refl R.drew, rfl, rfl, fun j o t _ hl => ?_, fun t _ => rfl⟩
        · rw [none] at hl; cases hl
        · rw [none]; simp
        · rw [none] at hl; cases hl
      have all := fun md => drawn_all (md := md) ctx ran hcf X0 Q (fun G' a' w' S X' hd => K G' a' w' (R.sDrew.trans S) X' hd)
      refine wp_region_draw fun t => ?_
      have any := fun md t' => wpAny_sound (P := P) (ops := ops) (Q := Q) (md := md) ops.size t' (Array.replicate ops.size false) a0 _ (all md ops.size _ a0 _ G0 0 (by simp) I0)
      unfold Region.schedule
      split
      · exact any _ _
      · exact any _ _
    · cases heq
end
end Go.Vd

namespace Go.Vd
open Go Go.RowKit

noncomputable section
section
variable (P : Program) (H : Hints) (f : Nat)
def compCode (isG : Nat → Bool) (sz : Nat) : Code → Run
  | .skip => cSkip
  | .region id ops false => match compOps P H f isG sz id ops [] ops.toList.zipIdx with
    | some l => cReg l
    | none => cBad
  | .region id ops true => match compDraw P H f isG sz id ops with
    | some l => cReg l
    | none => cBad
  | .seq a b => cSeq (compCode isG sz a) (compCode isG sz b)
  | .cond c a b => match compOpd H [] c with
    | some c => cCond c (compCode isG sz a) (compCode isG sz b)
    | none => cBad
  | .block id c => cBlock id (compCode isG sz c)
  | .loop c => cLoop (compCode isG sz c)
  | .exit id => cExit id
  | .ret => cRet
  | .label _ => cSkip
  | _ => cBad
end
/-- Slots that are read outside the region that wrote them. -/
def tmpsOf (xs : List Operand) : List Nat := xs.filterMap fun | .tmp t => some t | _ => none
def exposed : List Nat → List Oper → List Nat
  | _, [] => []
  | def_, o :: os => (tmpsOf o.op.operands.toList).filter (fun t => !def_.contains t) ++ exposed (o.dst.toList ++ def_) os
def globsOf : Code → List Nat
  | .region _ ops _ => exposed [] ops.toList
  | .seq a b => globsOf a ++ globsOf b
  | .cond c a b => tmpsOf [c] ++ globsOf a ++ globsOf b
  | .block _ c | .loop c | .scope c => globsOf c
  | _ => []
def resultTmp (P : Program) : ResultVar → Option (Nat × Option (Option Nat))
  | .tmp t => some (t, none)
  | .cell a t => match aggN P t with
    | some n => some (a, some n)
    | none => none
def compFunc (P : Program) (H : Hints) (f : Nat) : Option AFunc :=
  match P.funcs[f]? with
  | some fn => match fn.body with
    | some c => match mapO (resultTmp P) fn.results.toList with
      | some rs =>
        let gs := globsOf c ++ rs.map (·.1)
        some { np := fn.params.size + fn.nfree, glob := (List.range (fn.params.size + fn.nfree)).map (fun t => gs.contains t), results := rs,
               body := compCode P H f (fun t => gs.contains t) fn.ntmps c }
      | none => none
    | none => none
  | none => none
end

def RunS (P : Program) (H : Hints) (isG : Nat → Bool) (sz : Nat) (c : Code) (r : Run) : Prop :=
  ∀ (cf : CallF), CallS P H cf → ∀ (n : Nat) (B0 : Nat) (W : World) (G : Gh) (g : PT AV) (h : AHeap) (a : Act) (w : World), Rel B0 W G h w → Env H isG sz G [] g [] a → ∀ (Q : Exit → Act → World → Prop),
    match r cf n g h with
    | .fail => True
    | .ok e g' h' => (∀ G' a' w', Stp B0 W G h w G' h' w' → Env H isG sz G' [] g' [] a' → a'.defers = a.defers → ExQ G' e Q a' w') → c.wp P Q a w
theorem zipIdx_at {α : Type} (xs : Array α) : ∀ p ∈ xs.toList.zipIdx, xs[p.2]? = some p.1 := by
  rintro ⟨x, i⟩ hp
  have := List.mem_zipIdx_iff_getElem?.1 hp
  simpa using this
theorem zipIdx_snd {α : Type} (xs : Array α) : xs.toList.zipIdx.map (·.2) = List.range xs.size := by
  rw [List.zipIdx_map_snd]
  simp [List.range_eq_range']
theorem ExQ.then {G : Gh} {e : Ex} {next : Act → World → Prop} {Q : Exit → Act → World → Prop} {a : Act} {w : World} (he : e ≠ .normal) (h : ExQ G e Q a w) : ExQ G e (Exit.then next Q) a w := by
  cases e with
  | normal => exact absurd rfl he
  | exit _ => exact h
  | ret => exact h
  | pan v => exact h
section
variable {P : Program} {H : Hints} {isG : Nat → Bool} {sz : Nat}
theorem RunS.bad {c : Code} : RunS P H isG sz c cBad := fun _ _ _ _ _ _ _ _ _ _ _ _ _ => trivial
theorem RunS.at {c : Code} {e : Ex} {r : Run} (hr : ∀ cf n g h, r cf n g h = .ok e g h) (hw : ∀ (Q : Exit → Act → World → Prop) a w, (∀ G, ExQ G e Q a w) → c.wp P Q a w) (he : ∀ v, e ≠ .pan v) : RunS P H isG sz c r := by
  intro cf _ n B0 W G g h a w R X Q
  rw [hr]
  intro K
  refine hw Q a w fun G1 => ?_
  have k := K G a w (Stp.refl R) X rfl
  cases e with
  | normal => exact k
  | exit _ => exact k
  | ret => exact k
  | pan v => exact absurd rfl (he v)
theorem RunS.seq {x y : Code} {r s : Run} (hx : RunS P H isG sz x r) (hy : RunS P H isG sz y s) : RunS P H isG sz (.seq x y) (cSeq r s) := by
  intro cf hcf n B0 W G g h a w R X Q
  have k := fun Q' => hx cf hcf n B0 W G g h a w R X Q'
  unfold cSeq
  cases h1 : r cf n g h with
  | fail => trivial
  | ok e g1 h1' =>
    simp only [h1] at k
    cases e with
    | normal =>
      simp only
      have k2 := fun G' a' w' (S : Stp B0 W G h w G' h1' w') X' => hy cf hcf n B0 W G' g1 h1' a' w' S.rel X' Q
      cases h2 : s cf n g1 h1' with
      | fail => trivial
      | ok e2 g2 h2' =>
        simp only [h2] at k2
        intro K
        refine wp_seq (k _ fun G' a' w' S X' hd => ?_)
        exact k2 G' a' w' S X' fun G2 a2 w2 S2 X2 hd2 => K G2 a2 w2 (S.trans S2) X2 (hd2.trans hd)
    | exit i => intro K; exact wp_seq (k _ fun G' a' w' S X' hd => (K G' a' w' S X' hd).then (by simp))
    | ret => intro K; exact wp_seq (k _ fun G' a' w' S X' hd => (K G' a' w' S X' hd).then (by simp))
    | pan v => intro K; exact wp_seq (k _ fun G' a' w' S X' hd => (K G' a' w' S X' hd).then (by simp))
theorem RunS.cond {q : Operand} {x y : Code} {c : OpdR} {r s : Run} (hq : compOpd H [] q = some c) (hx : RunS P H isG sz x r) (hy : RunS P H isG sz y s) : RunS P H isG sz (.cond q x y) (cCond c r s) := by
  intro cf hcf n B0 W G g h a w R X Q
  unfold cCond
  cases hv : c g [] with
  | none => trivial
  | some v =>
    have V := X.opd hq hv
    generalize hz : a.eval q = z at V
    cases v with
    | bool t =>
      cases V
      cases t with
      | true =>
        have k := hx cf hcf n B0 W G g h a w R X Q
        cases h1 : r cf n g h with
        | fail => simp only []
        | ok e g1 h1' =>
          simp only [h1] at k ⊢
          exact fun K => wp_cond_true hz (k K)
      | false =>
        have k := hy cf hcf n B0 W G g h a w R X Q
        cases h1 : s cf n g h with
        | fail => simp only []
        | ok e g1 h1' =>
          simp only [h1] at k ⊢
          exact fun K => wp_cond_false hz (k K)
    | _ => trivial
theorem RunS.block {id : Nat} {x : Code} {r : Run} (hx : RunS P H isG sz x r) : RunS P H isG sz (.block id x) (cBlock id r) := by
  intro cf hcf n B0 W G g h a w R X Q
  have k := hx cf hcf n B0 W G g h a w R X (Exit.inBlock id Q)
  unfold cBlock
  cases h1 : r cf n g h with
  | fail => trivial
  | ok e g1 h1' =>
    simp only [h1] at k
    cases e with
    | normal => intro K; exact wp_block (k fun G' a' w' S X' hd => K G' a' w' S X' hd)
    | exit i =>
      simp only
      cases hi : Nat.beq i id with
      | true =>
        intro K
        refine wp_block (k fun G' a' w' S X' hd => ?_)
        show Exit.inBlock id Q (.exit i) a' w'
        simp only [Exit.inBlock, Nat.eq_of_beq_eq_true hi, if_true]
        exact K G' a' w' S X' hd
      | false =>
        intro K
        refine wp_block (k fun G' a' w' S X' hd => ?_)
        show Exit.inBlock id Q (.exit i) a' w'
        simp only [Exit.inBlock, if_neg (Nat.ne_of_beq_eq_false hi)]
        exact K G' a' w' S X' hd
    | ret => intro K; exact wp_block (k fun G' a' w' S X' hd => K G' a' w' S X' hd)
    | pan v => intro K; exact wp_block (k fun G' a' w' S X' hd => K G' a' w' S X' hd)
theorem RunS.loop {x : Code} {r : Run} (hx : RunS P H isG sz x r) : RunS P H isG sz (.loop x) (cLoop r) := by
  intro cf hcf n B0 W G g h a w R X Q
  unfold cLoop
  have rounds : ∀ (m : Nat) (G : Gh) (g : PT AV) (h : AHeap) (a : Act) (w : World), Rel B0 W G h w → Env H isG sz G [] g [] a →
      match loopR (r cf n) m g h with
      | .fail => True
      | .ok e g' h' => (∀ G' a' w', Stp B0 W G h w G' h' w' → Env H isG sz G' [] g' [] a' → a'.defers = a.defers → ExQ G' e Q a' w') → Code.rounds P x Q m a w := by
    intro m
    induction m with
    | zero => intro G g h a w R X; trivial
    | succ m ih =>
      intro G g h a w R X
      have hunf : loopR (r cf n) (m + 1) g h = match r cf n g h with | .ok .normal g h => loopR (r cf n) m g h | r => r := rfl
      rw [hunf]
      have k := fun Q' => hx cf hcf n B0 W G g h a w R X Q'
      cases h1 : r cf n g h with
      | fail => trivial
      | ok e g1 h1' =>
        simp only [h1] at k
        cases e with
        | normal =>
          simp only
          have k2 := fun G' a' w' (S : Stp B0 W G h w G' h1' w') X' => ih G' g1 h1' a' w' S.rel X'
          cases h2 : loopR (r cf n) m g1 h1' with
          | fail => trivial
          | ok e2 g2 h2' =>
            simp only [h2] at k2
            intro K
            rw [rounds_succ]
            refine k _ fun G' a' w' S X' hd => ?_
            exact k2 G' a' w' S X' fun G2 a2 w2 S2 X2 hd2 => K G2 a2 w2 (S.trans S2) X2 (hd2.trans hd)
        | exit i => intro K; rw [rounds_succ]; exact k _ fun G' a' w' S X' hd => (K G' a' w' S X' hd).then (by simp)
        | ret => intro K; rw [rounds_succ]; exact k _ fun G' a' w' S X' hd => (K G' a' w' S X' hd).then (by simp)
        | pan v => intro K; rw [rounds_succ]; exact k _ fun G' a' w' S X' hd => (K G' a' w' S X' hd).then (by simp)
  have k := rounds n G g h a w R X
  cases h1 : loopR (r cf n) n g h with
  | fail => trivial
  | ok e g1 h1' =>
    simp only [h1] at k
    exact fun K => wp_loop_rounds n (k K)
theorem RunS.region {f id : Nat} {ops : Array Oper} {r : RegR} (hr : compOps P H f isG sz id ops [] ops.toList.zipIdx = some r) : RunS P H isG sz (.region id ops false) (cReg r) := by
  intro cf hcf n B0 W G g h a w R X Q
  have k := compOps_ok ops.toList.zipIdx [] r hr (zipIdx_at ops) cf hcf B0 W G g [] h a w R X.toT Q
  unfold cReg
  cases h1 : r cf [] g h with
  | fail => trivial
  | ok e g1 h1' =>
    simp only [h1] at k
    intro K
    refine wp_region ?_
    rw [← zipIdx_snd]
    exact k K
theorem RunS.draw {f id : Nat} {ops : Array Oper} {r : RegR} (hr : compDraw P H f isG sz id ops = some r) : RunS P H isG sz (.region id ops true) (cReg r) := by
  intro cf hcf n B0 W G g h a w R X Q
  exact draw_ok hr hcf R X Q
theorem compCode_ok {f : Nat} : ∀ (c : Code), RunS P H isG sz c (compCode P H f isG sz c)
  | .skip => RunS.at (fun _ _ _ _ => rfl) (fun _ _ _ h => wp_skip (h ⟨fun _ => none, fun _ _ => none⟩)) (by simp)
  | .region id ops d => by
    cases d with
    | true =>
      simp only [compCode]
      split
      · rename_i r hr; exact RunS.draw hr
      · exact RunS.bad
    | false =>
      simp only [compCode]
      split
      · rename_i r hr; exact RunS.region hr
      · exact RunS.bad
  | .seq x y => by simp only [compCode]; exact RunS.seq (compCode_ok x) (compCode_ok y)
  | .cond q x y => by
    simp only [compCode]
    split
    · rename_i c hc; exact RunS.cond hc (compCode_ok x) (compCode_ok y)
    · exact RunS.bad
  | .block id x => by simp only [compCode]; exact RunS.block (compCode_ok x)
  | .loop x => by simp only [compCode]; exact RunS.loop (compCode_ok x)
  | .exit id => RunS.at (fun _ _ _ _ => rfl) (fun _ _ _ h => wp_exit (h ⟨fun _ => none, fun _ _ => none⟩)) (by simp)
  | .ret => RunS.at (fun _ _ _ _ => rfl) (fun _ _ _ h => wp_ret (h ⟨fun _ => none, fun _ _ => none⟩)) (by simp)
  | .label _ => RunS.at (fun _ _ _ _ => rfl) (fun _ _ _ h => wp_label (h ⟨fun _ => none, fun _ _ => none⟩)) (by simp)
  | .rangeFunc .. => RunS.bad
  | .scope _ => RunS.bad
  | .goto _ => RunS.bad
  | .refuse _ => RunS.bad
end
end Go.Vd

namespace Go.Vd
open Go Go.RowKit

section
variable {P : Program} {H : Hints}
theorem resultL_cons (g : PT AV) (h : AHeap) (r : Nat × Option (Option Nat)) (rs : List (Nat × Option (Option Nat))) : resultL g h (r :: rs) = match result1 g h r with
    | some v => match resultL g h rs with
      | some l => some (v :: l)
      | none => none
    | none => none := rfl
theorem results_ok {B0 : Nat} {W w : World} {G : Gh} {h : AHeap} (R : Rel B0 W G h w) {isG : Nat → Bool} {sz : Nat} {g : PT AV} {a : Act} (X : Env H isG sz G [] g [] a)
    {fn : Func} {rs : List (Nat × Option (Option Nat))} (hrs : mapO (resultTmp P) fn.results.toList = some rs) {v : AV} (e : resultsA g h rs = some v) :
    ∃ v', (results fn a.tmps).run P w = .ok v' w ∧ VRel G v v' := by
  have key : ∀ (F : ResultVar → Sem Value), (∀ r q u, resultTmp P r = some q → result1 g h q = some u → ∃ x, (F r).run P w = .ok x w ∧ VRel G u x) →
      ∀ (l : List ResultVar) (rs : List (Nat × Option (Option Nat))), mapO (resultTmp P) l = some rs → ∀ us, resultL g h rs = some us → ∃ vs : List Value, (l.mapM F).run P w = .ok vs w ∧ VRels G us vs := by
    intro F hF l
    induction l with
    | nil => intro rs h1 us h2; cases h1; cases h2; exact ⟨[], rfl, .nil⟩
    | cons r l ih =>
      intro rs h1 us h2
      simp only [mapO] at h1
      split at h1
      · rename_i q qs k1 k2
        cases h1
        rw [resultL_cons] at h2
        split at h2
        · rename_i u hu
          split at h2
          · rename_i us' hus
            cases h2
            obtain ⟨vs, m1, m2⟩ := ih qs k2 us' hus
            obtain ⟨x, x1, x2⟩ := hF r q u k1 hu
            exact ⟨x :: vs, by simp [List.mapM_cons, Sem.run_bind, x1, m1], .cons x2 m2⟩
          · cases h2
        · cases h2
      · cases h1
  have one : ∀ r q u, resultTmp P r = some q → result1 g h q = some u → ∃ x, (match r with | .tmp t => pure (a.tmps.getD t undef) | .cell c t => do loadVar t (← asAddr (a.tmps.getD c undef)) : Sem Value).run P w = .ok x w ∧ VRel G u x := by
    intro r q u k1 hu
    cases r with
    | tmp t =>
      simp only [resultTmp] at k1; cases k1
      unfold result1 at hu
      split at hu
      · rename_i _ _ x hx hn; cases hu; exact ⟨_, rfl, (X.fr t _ (by simp) hx).2⟩
      · rename_i _ _ _ _ hx hn; cases hn
      · cases hu
    | cell c t =>
      simp only [resultTmp] at k1
      split at k1
      · rename_i n hn; cases k1
        unfold result1 at hu
        split at hu
        · rename_i _ _ hx hn'; cases hn'
        · rename_i x m hx hm
          cases hm
          have V0 := (X.fr c _ (by simp) hx).2
          obtain ⟨v', r1, V⟩ := load_val R hn V0 hu
          refine ⟨v', ?_, V⟩
          show (do loadVar t (← asAddr (a.tmps.getD c undef)) : Sem Value).run P w = _
          generalize a.tmps.getD c undef = z at V0 r1 ⊢
          cases V0 <;> first | (simp only [loadAV] at hu; cases hu; done) | simpa [Instr.loadAt, Instr.sureAddr, asAddr] using r1
        · cases hu
      · cases k1
  unfold resultsA at e
  cases hL : resultL g h rs with
  | none => rw [hL] at e; cases e
  | some us =>
    rw [hL] at e
    obtain ⟨vs, r1, V⟩ := key _ one _ _ hrs us hL
    have hrun : (results fn a.tmps).run P w = .ok (if h : vs.toArray.size = 1 then vs.toArray[0] else .tuple vs.toArray) w := by
      unfold results
      rw [Array.mapM_eq_mapM_toList]
      simp only [Sem.run_bind, Sem.run_map]
      erw [r1]
      rfl
    refine ⟨_, hrun, ?_⟩
    have hlen := V.length
    match us, e, V, hlen with
    | [u], e, V, _ => cases e; cases V with | cons h t => cases t; simpa using h
    | [], e, V, hlen =>
      cases e
      rw [dif_neg (by simp only [List.size_toArray]; simp at hlen; omega)]
      exact .tup (by simpa using V)
    | x :: y :: us, e, V, hlen =>
      cases e
      rw [dif_neg (by simp only [List.size_toArray]; simp at hlen; omega)]
      exact .tup (by simpa using V)
end
end Go.Vd

namespace Go.Vd
open Go Go.RowKit

theorem frameOf_cons (b : Bool) (gl : List Bool) (v : AV) (vs : List AV) (i : Nat) (g : PT AV) : frameOf (b :: gl) (v :: vs) i g = frameOf gl vs (i + 1) (match b with | true => g.put i (some v) | false => g) := rfl
theorem frameOf_get : ∀ (gl : List Bool) (vs : List AV) (i : Nat) (g : PT AV) (t : Nat) (v : AV), (frameOf gl vs i g).get t = some v → g.get t = some v ∨ (i ≤ t ∧ gl[t - i]? = some true ∧ vs[t - i]? = some v)
  | [], vs, i, g, t, v, h => .inl h
  | b :: gl, [], i, g, t, v, h => .inl h
  | b :: gl, u :: vs, i, g, t, v, h => by
    rw [frameOf_cons] at h
    rcases frameOf_get gl vs (i + 1) _ t v h with h | ⟨h1, h2, h3⟩
    · cases b with
      | false => exact .inl h
      | true =>
        simp only [PT.get_put] at h
        by_cases q : t = i
        · rw [if_pos q] at h; cases h
          subst q
          exact .inr ⟨Nat.le_refl _, by simp, by simp⟩
        · rw [if_neg q] at h; exact .inl h
    · have e : t - i = (t - (i + 1)) + 1 := by omega
      exact .inr ⟨by omega, by rw [e]; simpa using h2, by rw [e]; simpa using h3⟩
/-- What a call of a function comes to. -/
def EndS (P : Program) (B0 : Nat) (W : World) (G : Gh) (h : AHeap) (w : World) (f : Nat) (vs : Array Value) (r : OR) : Prop :=
  match r with
  | .fail => True
  | .ok v h' => Calls P f vs w fun e w' => ∃ G' v', e = .returned v' ∧ Stp B0 W G h w G' h' w' ∧ VRel G' v v'
  | .pan v h' => Calls P f vs w fun e w' => ∃ G' v', e = .panicked [{ v := v', recovered := false }] ∧ Stp B0 W G h w G' h' w' ∧ VRel G' v v'
theorem callS_iff {P : Program} {H : Hints} {cf : CallF} : CallS P H cf ↔ ∀ (f : Nat) (args : List AV) (h : AHeap) (B0 : Nat) (W : World) (G : Gh) (w : World) (vs : Array Value), Rel B0 W G h w → VRels G args vs.toList →
    (∀ b cs, H.glob b = some cs → ∃ us, G.Z b = some (0, us) ∧ VRels G cs us) → EndS P B0 W G h w f vs (cf f args h) := Iff.rfl
section
variable {P : Program} {H : Hints}
theorem endS_of {fn : Func} {c : Code} {rs : List (Nat × Option (Option Nat))} {f : Nat} (hfn : P.funcs[f]? = some fn) (hc : fn.body = some c) (hrs : mapO (resultTmp P) fn.results.toList = some rs)
    {isG : Nat → Bool} {r : Run} (hr : RunS P H isG fn.ntmps c r) {cf : CallF} (hcf : CallS P H cf) (n : Nat) (g : PT AV) (h : AHeap) (B0 : Nat) (W : World) (G : Gh) (w : World) (vs : Array Value)
    (R : Rel B0 W G h w) (X : Env H isG fn.ntmps G [] g [] { tmps := vs ++ Array.replicate (fn.ntmps - vs.size) undef, defers := [] }) :
    EndS P B0 W G h w f vs (match r cf n g h with
      | .ok .normal g h => .of h (resultsA g h rs)
      | .ok .ret g h => .of h (resultsA g h rs)
      | .ok (.pan v) _ h => .pan v h
      | _ => .fail) := by
  have k := fun Q => hr cf hcf n B0 W G g h _ w R X Q
  cases h1 : r cf n g h with
  | fail => trivial
  | ok e g1 h1' =>
    simp only [h1] at k
    have res : ∀ (hq : ∀ (G' : Gh) (Q : Exit → Act → World → Prop) a' w', ExQ G' e Q a' w' ↔ Q (match e with | .ret => .ret | _ => .normal) a' w'),
        EndS P B0 W G h w f vs (.of h1' (resultsA g1 h1' rs)) := by
      intro hq
      cases h2 : resultsA g1 h1' rs with
      | none => trivial
      | some v =>
        show Calls P f vs w _
        refine calls_of_wp hfn hc (k _ fun G' a' w' S X' hd => ?_)
        rw [hq]
        obtain ⟨v', r1, V⟩ := results_ok S.rel X' hrs h2
        have : a'.defers = [] ∧ ∃ v, (results fn a'.tmps).run P w' = .ok v w' ∧ ∃ G2 v2, (Ending.returned v) = .returned v2 ∧ Stp B0 W G h w G2 h1' w' ∧ VRel G2 (_ : AV) v2 := ⟨hd, v', r1, G', v', rfl, S, V⟩
        cases e <;> exact this
    cases e with
    | normal => exact res fun _ _ _ _ => Iff.rfl
    | ret => exact res fun _ _ _ _ => Iff.rfl
    | exit i => trivial
    | pan v =>
      show Calls P f vs w _
      refine calls_of_wp hfn hc (k _ fun G' a' w' S X' hd => ?_)
      exact fun v' V => ⟨hd, G', v', rfl, S, V⟩
theorem frame_env {fn : Func} {np : Nat} {gs : List Nat} {args : List AV} {vs : Array Value} {G : Gh} (V : VRels G args vs.toList) (_hn : args.length = np) (hg : ∀ b cs, H.glob b = some cs → ∃ us, G.Z b = some (0, us) ∧ VRels G cs us) :
    Env H (fun t => gs.contains t) fn.ntmps G [] (frameOf ((List.range np).map (fun t => gs.contains t)) args 0 .nil) [] { tmps := vs ++ Array.replicate (fn.ntmps - vs.size) undef, defers := [] } := by
  refine ⟨by simp; omega, fun t v _ h => ?_, rfl, fun t i v h => by simp at h, hg⟩
  rcases frameOf_get _ _ _ _ _ _ h with h | ⟨_, h2, h3⟩
  · cases h
  · obtain ⟨v', e, V'⟩ := V.get _ _ h3
    have ht : t < np := by
      have := (List.getElem?_eq_some_iff.1 h2).1
      simpa using this
    refine ⟨by simpa [ht] using h2, ?_⟩
    have e' : vs[t]? = some v' := by simpa using e
    have hlt := (Array.getElem?_eq_some_iff.1 e').1
    show VRel G v ((vs ++ Array.replicate (fn.ntmps - vs.size) undef).getD t undef)
    rw [Array.getD_eq_getD_getElem?, Array.getElem?_append_left hlt, e']
    exact V'
theorem func_ok {f : Nat} {fn : AFunc} (hf : compFunc P H f = some fn) {cf : CallF} (hcf : CallS P H cf) (n : Nat) (args : List AV) (h : AHeap) (B0 : Nat) (W : World) (G : Gh) (w : World) (vs : Array Value)
    (R : Rel B0 W G h w) (V : VRels G args vs.toList) (hg : ∀ b cs, H.glob b = some cs → ∃ us, G.Z b = some (0, us) ∧ VRels G cs us) :
    EndS P B0 W G h w f vs (callA fn cf n args h) := by
  unfold compFunc at hf
  split at hf
  · rename_i fn0 hfn
    split at hf
    · rename_i c hc
      split at hf
      · rename_i rs hrs
        cases hf
        unfold callA
        cases hn : Nat.beq (llen args) (fn0.params.size + fn0.nfree) with
        | false => trivial
        | true =>
          rw [beq_iff, llen_eq] at hn
          exact endS_of hfn hc hrs (compCode_ok c) hcf n _ h B0 W G w vs R (frame_env V hn hg)
      · cases hf
    · cases hf
  · cases hf
theorem evF_ok (F : Nat → Option AFunc) (hF : ∀ f fn, F f = some fn → compFunc P H f = some fn) : ∀ n, CallS P H (evF F n) := by
  intro n
  induction n with
  | zero => intro f args h B0 W G w vs R V hg; trivial
  | succ n ih =>
    rw [callS_iff]
    intro f args h B0 W G w vs R V hg
    have : evF F (n + 1) f args h = match F f with
      | some fn => callA fn (evF F n) n args h
      | none => .fail := rfl
    rw [this]
    cases hf : F f with
    | none => trivial
    | some fn => exact func_ok (hF f fn hf) ih n args h B0 W G w vs R V hg
end
end Go.Vd

namespace Go.Vd
open Go Go.RowKit

/-! # Evaluations that ask: what can't be reckoned is told by a script, and is to be shown. -/
inductive FM (α : Type) where
  | ret (a : α)
  | ask (r : OR) (k : OR → FM α)
  | askR (r : Res) (k : Res → FM α)
/-- What a script says. -/
inductive Ans where
  | ok (v : AV) (h : AHeap)
  | pan (v : AV) (h : AHeap)
  | res (r : Res)
noncomputable section
def FM.run {α : Type} (m : FM α) : α := FM.rec (motive := fun _ => α) (fun a => a) (fun r _ ih => ih r) (fun r _ ih => ih r) m
def FM.bind {α β : Type} (m : FM α) (f : α → FM β) : FM β := FM.rec (motive := fun _ => FM β) f (fun r _ ih => .ask r ih) (fun r _ ih => .askR r ih) m
/-- The evaluation goes as the script says, if what the script says is so. -/
def FM.Goes {α : Type} (m : FM α) : List Ans → α → Prop :=
  FM.rec (motive := fun _ => List Ans → α → Prop)
    (fun a s x => match s with
      | [] => a = x
      | _ :: _ => False)
    (fun r _ ih s x => match s with
      | .ok v h :: s => r = .ok v h ∧ ih (.ok v h) s x
      | .pan v h :: s => r = .pan v h ∧ ih (.pan v h) s x
      | _ => False)
    (fun r _ ih s x => match s with
      | .res y :: s => r = y ∧ ih y s x
      | _ => False) m
end
theorem FM.run_bind {α β : Type} (m : FM α) (f : α → FM β) : (m.bind f).run = (f m.run).run := by
  induction m with
  | ret a => rfl
  | ask r k ih => exact ih r
  | askR r k ih => exact ih r
theorem FM.Goes.run {α : Type} {m : FM α} : ∀ {s : List Ans} {x : α}, m.Goes s x → m.run = x := by
  induction m with
  | ret a => intro s x h; cases s with
    | nil => exact h
    | cons y s => exact False.elim h
  | ask r k ih => intro s x h; cases s with
    | nil => exact False.elim h
    | cons y s => cases y with
      | ok v h' =>
        have h2 : r = .ok v h' ∧ (k (.ok v h')).Goes s x := h
        obtain ⟨e, h3⟩ := h2
        clear h
        subst e
        exact ih _ h3
      | pan v h' =>
        have h2 : r = .pan v h' ∧ (k (.pan v h')).Goes s x := h
        obtain ⟨e, h3⟩ := h2
        clear h
        subst e
        exact ih _ h3
      | res y => exact False.elim h
  | askR r k ih => intro s x h; cases s with
    | nil => exact False.elim h
    | cons y s => cases y with
      | ok v h' => exact False.elim h
      | pan v h' => exact False.elim h
      | res y =>
        have h2 : r = y ∧ (k y).Goes s x := h
        obtain ⟨e, h3⟩ := h2
        clear h
        subst e
        exact ih _ h3
abbrev RegI := CallF → List AV → PT AV → AHeap → FM Res
abbrev RunI := CallF → Nat → PT AV → AHeap → FM Res
noncomputable section
def opI (b : Bool) (x : OR) : FM OR := match b with | true => .ask x .ret | false => .ret x
def rNilI : RegI := fun _ _ g h => .ret (.ok .normal g h)
def rOpI (b : Bool) (o : OpR) (r : RegI) : RegI := fun cf l g h => (opI b (o cf g l h)).bind fun x => match x with
  | .ok v h => r cf (v :: l) g h
  | .pan v h => .ret (.ok (.pan v) g h)
  | .fail => .ret .fail
def rDstI (b : Bool) (o : OpR) (d : Nat) (r : RegI) : RegI := fun cf l g h => (opI b (o cf g l h)).bind fun x => match x with
  | .ok v h => r cf (v :: l) (g.put d (some v)) h
  | .pan v h => .ret (.ok (.pan v) g h)
  | .fail => .ret .fail
def rGOpI (i : Nat) (want : Bool) (b : Bool) (o : OpR) (r : RegI) : RegI := fun cf l g h =>
  match wantedA l i want with
  | some true => rOpI b o r cf l g h
  | some false => r cf (.undef :: l) g h
  | none => .ret .fail
def rGDstI (i : Nat) (want : Bool) (b : Bool) (o : OpR) (d : Nat) (r : RegI) : RegI := fun cf l g h =>
  match wantedA l i want with
  | some true => rDstI b o d r cf l g h
  | some false => r cf (.undef :: l) (g.put d none) h
  | none => .ret .fail
def evDI (cf : CallF) (g : PT AV) (ds : List (Bool × DOp)) : List AV → AHeap → List AHeap → FM (Option (List AV × List AHeap)) :=
  List.rec (motive := fun _ => List AV → AHeap → List AHeap → FM (Option (List AV × List AHeap))) (fun l _ hs => .ret (some (l, hs))) (fun bd _ ih l h hs =>
    match wantD bd.2.gd l with
    | some true => (opI bd.1 (bd.2.op cf g l h)).bind fun x => match x with
      | .ok v h' => match bd.2.m with
        | true => ih (v :: l) h' (h' :: hs)
        | false => match bd.2.cnt with
          | 0 => ih (v :: l) h hs
          | c + 1 => match isImm (bd.2.px g l) with
            | true => ih (v :: l) h hs
            | false => (ih (v :: l) h hs).bind fun r => match r with
              | some (lf, hsf) => match chkH bd.2.op cf g l v (ltake (ldrop bd.2.sk hsf) (c + 1)) with
                | true => .ret (some (lf, hsf))
                | false => .ret none
              | none => .ret none
      | _ => .ret none
    | some false => match bd.2.m with
      | true => ih (.undef :: l) h (h :: hs)
      | false => ih (.undef :: l) h hs
    | none => .ret none) ds
def rDrawI (ds : List (Bool × DOp)) (fin : List (Option Nat)) : RegI := fun cf _ g h =>
  (evDI cf g ds [] h [h]).bind fun r => match r with
  | some (l, h' :: _) => .ret (.ok .normal (putsD fin l g) h')
  | _ => .ret .fail
def cSkipI : RunI := fun _ _ g h => .ret (.ok .normal g h)
def cRegI (r : RegI) : RunI := fun cf _ g h => r cf [] g h
def cSeqI (a b : RunI) : RunI := fun cf n g h => (a cf n g h).bind fun x => match x with
  | .ok .normal g h => b cf n g h
  | r => .ret r
def cCondI (x : OpdR) (a b : RunI) : RunI := fun cf n g h =>
  match x g [] with
  | some (.bool true) => a cf n g h
  | some (.bool false) => b cf n g h
  | _ => .ret .fail
def cBlockI (id : Nat) (a : RunI) : RunI := fun cf n g h => (a cf n g h).bind fun x => match x with
  | .ok (.exit i) g h => match Nat.beq i id with
    | true => .ret (.ok .normal g h)
    | false => .ret (.ok (.exit i) g h)
  | r => .ret r
def loopI (a : PT AV → AHeap → FM Res) (k : Nat) : PT AV → AHeap → FM Res :=
  Nat.rec (motive := fun _ => PT AV → AHeap → FM Res) (fun _ _ => .ret .fail)
    (fun _ ih g h => (a g h).bind fun x => match x with
      | .ok .normal g h => ih g h
      | r => .ret r) k
def cLoopI (a : RunI) : RunI := fun cf n g h => loopI (a cf n) n g h
def cOf (r : Run) : RunI := fun cf n g h => .ret (r cf n g h)

section
variable (P : Program) (H : Hints) (f : Nat) (fl : Nat → Nat → Bool)
def isAsk (rg ix : Nat) (o : Op) : Bool :=
  match o with
  | .call c => match c.callee with
    | .builtin _ => fl rg ix
    | _ => true
  | _ => fl rg ix
def compOpsI (isG : Nat → Bool) (sz : Nat) (rg : Nat) (ops : Array Oper) : Nms → List (Oper × Nat) → Option RegI
  | _, [] => some rNilI
  | ns, (o, ix) :: os =>
    match compOp P H f ns rg ix o, compOpsI isG sz rg ops (o.dst :: ns) os with
    | some op, some r =>
      match o.dst, o.guard with
      | none, none => some (rOpI (isAsk fl rg ix o.op) op r)
      | some d, none => if d < sz then (if isG d then some (rDstI (isAsk fl rg ix o.op) op d r) else some (rOpI (isAsk fl rg ix o.op) op r)) else none
      | dst, some (j, want) => match (ops[j]?).bind (·.dst) with
        | some t => match ns.idxOf? (some t) with
          | some i => match dst with
            | none => some (rGOpI i want (isAsk fl rg ix o.op) op r)
            | some d => if d < sz then (if isG d then some (rGDstI i want (isAsk fl rg ix o.op) op d r) else some (rGOpI i want (isAsk fl rg ix o.op) op r)) else none
          | none => none
        | none => none
    | _, _ => none
def compDrawI (isG : Nat → Bool) (sz rg : Nat) (ops : Array Oper) : Option RegI :=
  let B := masksGo ops.toList []
  let ks := ksD P H f rg ops
  if drawOk P H f isG sz rg ops B ks then match mapO (compD P H f rg ops B ks) ops.toList.zipIdx with
    | some ds => some (rDrawI ((ops.toList.zipIdx.map fun x => isAsk fl rg x.2 x.1.op).zip ds) (finD isG ops))
    | none => none
  else none
def compCodeI (isG : Nat → Bool) (sz : Nat) : Code → RunI
  | .region id ops false => match compOpsI P H f fl isG sz id ops [] ops.toList.zipIdx with
    | some l => cRegI l
    | none => cOf cBad
  | .region id ops true => match compDrawI P H f fl isG sz id ops with
    | some l => cRegI l
    | none => cOf cBad
  | .seq a b => cSeqI (compCodeI isG sz a) (compCodeI isG sz b)
  | .cond c a b => match compOpd H [] c with
    | some c => cCondI c (compCodeI isG sz a) (compCodeI isG sz b)
    | none => cOf cBad
  | .block id c => cBlockI id (compCodeI isG sz c)
  | .loop c => fun cf n g h => .askR (cLoop (compCode P H f isG sz c) cf n g h) .ret
  | c => cOf (compCode P H f isG sz c)
end
end

section
variable {P : Program} {H : Hints} {f : Nat} {fl : Nat → Nat → Bool} {isG : Nat → Bool} {sz : Nat}
theorem opI_run (b : Bool) (x : OR) : (opI b x).run = x := by cases b <;> rfl
def RelI (r : RegI) (s : RegR) : Prop := ∀ cf l g h, (r cf l g h).run = s cf l g h
def RelC (r : RunI) (s : Run) : Prop := ∀ cf n g h, (r cf n g h).run = s cf n g h
theorem rOpI_rel (b : Bool) (o : OpR) {r : RegI} {s : RegR} (h : RelI r s) : RelI (rOpI b o r) (rOp o s) := by
  intro cf l g hh
  unfold rOpI rOp
  rw [FM.run_bind, opI_run]
  cases o cf g l hh with
  | ok v h' => exact h _ _ _ _
  | pan v h' => rfl
  | fail => rfl
theorem rDstI_rel (b : Bool) (o : OpR) (d : Nat) {r : RegI} {s : RegR} (h : RelI r s) : RelI (rDstI b o d r) (rDst o d s) := by
  intro cf l g hh
  unfold rDstI rDst
  rw [FM.run_bind, opI_run]
  cases o cf g l hh with
  | ok v h' => exact h _ _ _ _
  | pan v h' => rfl
  | fail => rfl
theorem rGOpI_rel (i : Nat) (want b : Bool) (o : OpR) {r : RegI} {s : RegR} (h : RelI r s) : RelI (rGOpI i want b o r) (rGOp i want o s) := by
  intro cf l g hh
  unfold rGOpI rGOp
  rcases wantedA l i want with _ | _ | _
  · rfl
  · exact h _ _ _ _
  · exact rOpI_rel b o h _ _ _ _
theorem rGDstI_rel (i : Nat) (want b : Bool) (o : OpR) (d : Nat) {r : RegI} {s : RegR} (h : RelI r s) : RelI (rGDstI i want b o d r) (rGDst i want o d s) := by
  intro cf l g hh
  unfold rGDstI rGDst
  rcases wantedA l i want with _ | _ | _
  · rfl
  · exact h _ _ _ _
  · exact rDstI_rel b o d h _ _ _ _
theorem compOpsI_rel {rg : Nat} {ops : Array Oper} : ∀ (os : List (Oper × Nat)) (ns : Nms), match compOpsI P H f fl isG sz rg ops ns os with
    | some r => ∃ s, compOps P H f isG sz rg ops ns os = some s ∧ RelI r s
    | none => compOps P H f isG sz rg ops ns os = none
  | [], ns => ⟨rNil, rfl, fun _ _ _ _ => rfl⟩
  | (o, ix) :: os, ns => by
    have ih := compOpsI_rel (rg := rg) (ops := ops) os (o.dst :: ns)
    unfold compOpsI compOps
    cases hop : compOp P H f ns rg ix o with
    | none => simp only
    | some op =>
      cases hr : compOpsI P H f fl isG sz rg ops (o.dst :: ns) os with
      | none => rw [hr] at ih; simp only at ih; simp only [ih]
      | some r =>
        rw [hr] at ih
        obtain ⟨s, hs, rel⟩ := ih
        simp only [hs]
        rcases o.dst with _ | d <;> rcases o.guard with _ | ⟨j, want⟩ <;> simp only
        · exact ⟨_, rfl, rOpI_rel _ _ rel⟩
        · rcases (ops[j]?).bind (·.dst) with _ | t <;> simp only
          rcases ns.idxOf? (some t) with _ | i <;> simp only
          exact ⟨_, rfl, rGOpI_rel _ _ _ _ rel⟩
        · by_cases h1 : d < sz
          · simp only [if_pos h1]
            by_cases h2 : isG d = true
            · simp only [if_pos h2]; exact ⟨_, rfl, rDstI_rel _ _ _ rel⟩
            · simp only [if_neg h2]; exact ⟨_, rfl, rOpI_rel _ _ rel⟩
          · simp only [if_neg h1]
        · rcases (ops[j]?).bind (·.dst) with _ | t <;> simp only
          rcases ns.idxOf? (some t) with _ | i <;> simp only
          by_cases h1 : d < sz
          · simp only [if_pos h1]
            by_cases h2 : isG d = true
            · simp only [if_pos h2]; exact ⟨_, rfl, rGDstI_rel _ _ _ _ _ rel⟩
            · simp only [if_neg h2]; exact ⟨_, rfl, rGOpI_rel _ _ _ _ rel⟩
          · simp only [if_neg h1]
end
end Go.Vd

namespace Go.Vd
open Go Go.RowKit

noncomputable section
/-- One call, asking. -/
def stepI (P : Program) (H : Hints) (fl : Nat → Nat → Bool) (f : Nat) (cf : CallF) (n : Nat) (args : List AV) (h : AHeap) : FM OR :=
  match P.funcs[f]? with
  | some fn => match fn.body with
    | some c => match mapO (resultTmp P) fn.results.toList with
      | some rs =>
        let gs := globsOf c ++ rs.map (·.1)
        match Nat.beq (llen args) (fn.params.size + fn.nfree) with
        | false => .ret .fail
        | true => (compCodeI P H f fl (fun t => gs.contains t) fn.ntmps c cf n (frameOf ((List.range (fn.params.size + fn.nfree)).map (fun t => gs.contains t)) args 0 .nil) h).bind fun x => match x with
          | .ok .normal g h => .ret (.of h (resultsA g h rs))
          | .ok .ret g h => .ret (.of h (resultsA g h rs))
          | .ok (.pan v) _ h => .ret (.pan v h)
          | _ => .ret .fail
      | none => .ret .fail
    | none => .ret .fail
  | none => .ret .fail
end
section
variable {P : Program} {H : Hints} {f : Nat} {fl : Nat → Nat → Bool} {isG : Nat → Bool} {sz : Nat}
theorem evDI_cons (cf : CallF) (g : PT AV) (b : Bool) (d : DOp) (ds : List (Bool × DOp)) (l : List AV) (h : AHeap) (hs : List AHeap) : evDI cf g ((b, d) :: ds) l h hs =
    match wantD d.gd l with
    | some true => (opI b (d.op cf g l h)).bind fun x => match x with
      | .ok v h' => match d.m with
        | true => evDI cf g ds (v :: l) h' (h' :: hs)
        | false => match d.cnt with
          | 0 => evDI cf g ds (v :: l) h hs
          | c + 1 => match isImm (d.px g l) with
            | true => evDI cf g ds (v :: l) h hs
            | false => (evDI cf g ds (v :: l) h hs).bind fun r => match r with
              | some (lf, hsf) => match chkH d.op cf g l v (ltake (ldrop d.sk hsf) (c + 1)) with
                | true => .ret (some (lf, hsf))
                | false => .ret none
              | none => .ret none
      | _ => .ret none
    | some false => match d.m with
      | true => evDI cf g ds (.undef :: l) h (h :: hs)
      | false => evDI cf g ds (.undef :: l) h hs
    | none => .ret none := rfl
theorem evDI_run (cf : CallF) (g : PT AV) : ∀ (bs : List Bool) (ds : List DOp), bs.length = ds.length → ∀ (l : List AV) (h : AHeap) (hs : List AHeap), (evDI cf g (bs.zip ds) l h hs).run = evD cf g ds l h hs
  | [], [], _, l, h, hs => rfl
  | [], _ :: _, e, l, h, hs => by simp at e
  | _ :: _, [], e, l, h, hs => by simp at e
  | b :: bs, d :: ds, e, l, h, hs => by
    have ih := evDI_run cf g bs ds (by simpa using e)
    rw [List.zip_cons_cons, evDI_cons, evD_cons]
    rcases wantD d.gd l with _ | _ | _
    · rfl
    · simp only
      cases d.m <;> exact ih _ _ _
    · simp only
      rw [FM.run_bind, opI_run]
      cases d.op cf g l h with
      | ok v h' =>
        simp only
        cases d.m with
        | true => exact ih _ _ _
        | false =>
          simp only
          cases d.cnt with
          | zero => exact ih _ _ _
          | succ c =>
            simp only
            cases isImm (d.px g l) with
            | true => exact ih _ _ _
            | false =>
              simp only
              rw [FM.run_bind, ih]
              rcases evD cf g ds (v :: l) h hs with _ | ⟨lf, hsf⟩
              · rfl
              · simp only
                cases chkH d.op cf g l v (ltake (ldrop d.sk hsf) (c + 1)) <;> rfl
      | pan v h' => rfl
      | fail => rfl
theorem compDrawI_rel {rg : Nat} {ops : Array Oper} : match compDrawI P H f fl isG sz rg ops with
    | some r => ∃ s, compDraw P H f isG sz rg ops = some s ∧ RelI r s
    | none => compDraw P H f isG sz rg ops = none := by
  unfold compDrawI compDraw
  simp only
  by_cases h1 : drawOk P H f isG sz rg ops (masksGo ops.toList []) (ksD P H f rg ops) = true
  · simp only [if_pos h1]
    cases hm : mapO (compD P H f rg ops (masksGo ops.toList []) (ksD P H f rg ops)) ops.toList.zipIdx with
    | none => rfl
    | some ds =>
      refine ⟨_, rfl, fun cf l g h => ?_⟩
      unfold rDrawI rDraw
      rw [FM.run_bind, evDI_run]
      · rcases evD cf g ds [] h [h] with _ | ⟨lf, _ | ⟨h', hs⟩⟩ <;> rfl
      · rw [List.length_map, (mapO_some hm).1]
  · simp only [if_neg h1]
theorem compCodeI_rel : ∀ (c : Code), RelC (compCodeI P H f fl isG sz c) (compCode P H f isG sz c)
  | .region id ops false => by
    have k := compOpsI_rel (P := P) (H := H) (f := f) (fl := fl) (isG := isG) (sz := sz) (rg := id) (ops := ops) ops.toList.zipIdx []
    simp only [compCodeI, compCode]
    cases h1 : compOpsI P H f fl isG sz id ops [] ops.toList.zipIdx with
    | none => rw [h1] at k; simp only at k; simp only [k]; exact fun _ _ _ _ => rfl
    | some r =>
      rw [h1] at k
      obtain ⟨s, e, rel⟩ := k
      simp only [e]
      exact fun cf n g h => rel cf [] g h
  | .region id ops true => by
    have k := compDrawI_rel (P := P) (H := H) (f := f) (fl := fl) (isG := isG) (sz := sz) (rg := id) (ops := ops)
    simp only [compCodeI, compCode]
    cases h1 : compDrawI P H f fl isG sz id ops with
    | none => rw [h1] at k; simp only at k; simp only [k]; exact fun _ _ _ _ => rfl
    | some r =>
      rw [h1] at k
      obtain ⟨s, e, rel⟩ := k
      simp only [e]
      exact fun cf n g h => rel cf [] g h
  | .seq a b => by
    have ha := compCodeI_rel a
    have hb := compCodeI_rel b
    intro cf n g h
    simp only [compCodeI, compCode, cSeqI, cSeq]
    rw [FM.run_bind, ha]
    rcases compCode P H f isG sz a cf n g h with _ | ⟨_ | _ | _ | _, g', h'⟩
    · rfl
    · exact hb _ _ _ _
    · rfl
    · rfl
    · rfl
  | .cond c a b => by
    have ha := compCodeI_rel a
    have hb := compCodeI_rel b
    simp only [compCodeI, compCode]
    cases compOpd H [] c with
    | none => exact fun _ _ _ _ => rfl
    | some x =>
      intro cf n g h
      simp only [cCondI, cCond]
      rcases x g [] with _ | v
      · rfl
      · cases v with
        | bool b => cases b with
          | true => exact ha _ _ _ _
          | false => exact hb _ _ _ _
        | _ => rfl
  | .block id c => by
    have hc := compCodeI_rel c
    intro cf n g h
    simp only [compCodeI, compCode, cBlockI, cBlock]
    rw [FM.run_bind, hc]
    rcases compCode P H f isG sz c cf n g h with _ | ⟨_ | i | _ | _, g', h'⟩
    · rfl
    · rfl
    · simp only; cases Nat.beq i id <;> rfl
    · rfl
    · rfl
  | .loop c => fun _ _ _ _ => rfl
  | .skip => fun _ _ _ _ => rfl
  | .rangeFunc .. => fun _ _ _ _ => rfl
  | .exit _ => fun _ _ _ _ => rfl
  | .scope _ => fun _ _ _ _ => rfl
  | .label _ => fun _ _ _ _ => rfl
  | .goto _ => fun _ _ _ _ => rfl
  | .ret => fun _ _ _ _ => rfl
  | .refuse _ => fun _ _ _ _ => rfl
theorem goes_call (fl : Nat → Nat → Bool) {n : Nat} {args : List AV} {h : AHeap} {s : List Ans} {r : OR} (hg : (stepI P H fl f (evF (compFunc P H) n) n args h).Goes s r) (hr : r ≠ .fail) :
    evF (compFunc P H) (n + 1) f args h = r := by
  have e0 : evF (compFunc P H) (n + 1) f args h = match compFunc P H f with
    | some fn => callA fn (evF (compFunc P H) n) n args h
    | none => .fail := rfl
  have e := hg.run
  rw [e0]
  clear e0 hg
  generalize evF (compFunc P H) n = cf at e ⊢
  unfold stepI at e
  unfold compFunc
  rcases hf : P.funcs[f]? with _ | fn
  · rw [hf] at e; exact absurd e.symm hr
  · simp only [hf] at e ⊢
    rcases hc : fn.body with _ | c
    · rw [hc] at e; exact absurd e.symm hr
    · simp only [hc] at e ⊢
      rcases hrs : mapO (resultTmp P) fn.results.toList with _ | rs
      · rw [hrs] at e; exact absurd e.symm hr
      · simp only [hrs] at e ⊢
        unfold callA
        simp only
        cases hb : Nat.beq (llen args) (fn.params.size + fn.nfree) with
        | false => rw [hb] at e; exact absurd e.symm hr
        | true =>
          rw [hb] at e
          simp only at e ⊢
          rw [FM.run_bind, compCodeI_rel] at e
          generalize compCode P H f (fun t => (globsOf c ++ rs.map (·.1)).contains t) fn.ntmps c cf n (frameOf ((List.range (fn.params.size + fn.nfree)).map (fun t => (globsOf c ++ rs.map (·.1)).contains t)) args 0 .nil) h = q at e ⊢
          rw [← e]
          rcases q with _ | ⟨_ | _ | _ | _, g', h'⟩ <;> rfl
end
end Go.Vd

namespace Go.Vd
open Go Go.RowKit Go.Proofs
noncomputable def H1 : Hints := { fz := fun e => Nat.beq e 46 || Nat.beq e 3 || Nat.beq e 9 || Nat.beq e 27, wr := [(42, 5, 3)], frz := [(30, 20, 0), (42, 25, 1), (11, 8, 1)], glob := fun _ => none, prim := fun _ => none }
inductive Tm | sort (n : Int) | var (n : Int) | con (s : List Nat) (n : Int) | pi (a b : Tm) | lam (a b : Tm) | app (a b : Tm) | lett (a b c : Tm)
def nd (k n : Int) (s : List Nat) (a b c : AV) : AV := .imm [.int .i64 k, .int .i64 n, .str s, a, b, c] 0
def tv : Tm → AV
  | .sort n => nd 1 n [] .nilp .nilp .nilp
  | .var n => nd 2 n [] .nilp .nilp .nilp
  | .con s n => nd 3 n s .nilp .nilp .nilp
  | .pi a b => nd 4 0 [] (tv a) (tv b) .nilp
  | .lam a b => nd 5 0 [] (tv a) (tv b) .nilp
  | .app a b => nd 6 0 [] (tv a) (tv b) .nilp
  | .lett a b c => nd 7 0 [] (tv a) (tv b) (tv c)
def fl0 : Nat → Nat → Bool := fun _ _ => false
def flL (l : List (Nat × Nat)) : Nat → Nat → Bool := fun a b => l.any fun p => Nat.beq p.1 a && Nat.beq p.2 b
set_option maxRecDepth 100000
set_option maxHeartbeats 0
theorem t1 (cf n h) (x y x' y' : AV) : (stepI Try.prog H1 fl0 12 cf n [nd 4 0 [] x y .nilp, nd 4 0 [] x' y' .nilp] h).Goes [.ok (.bool false) h] (.ok (.bool false) h) =
  (cf 12 [x, x'] h = .ok (.bool false) h ∧ OR.ok (.bool false) h = .ok (.bool false) h) := by kernel_rfl
theorem t2 (cf n h) (x y x' y' : AV) (r : Bool) : (stepI Try.prog H1 fl0 12 cf n [nd 4 0 [] x y .nilp, nd 4 0 [] x' y' .nilp] h).Goes [.ok (.bool true) h, .ok (.bool true) h, .ok (.bool r) h] (.ok (.bool r) h) =
  (cf 12 [x, x'] h = .ok (.bool true) h ∧ cf 12 [y, y'] h = .ok (.bool true) h ∧ cf 12 [.nilp, .nilp] h = .ok (.bool r) h ∧ OR.ok (.bool r) h = .ok (.bool r) h) := by kernel_rfl
theorem t3 (cf n h) (a b : Int) : (stepI Try.prog H1 (flL [(3, 18)]) 12 cf n [nd 2 a [] .nilp .nilp .nilp, nd 2 b [] .nilp .nilp .nilp] h).Goes [.ok (.bool false) h] (.ok (.bool false) h) =
  (OR.ok (.bool (ieq a b)) h = .ok (.bool false) h ∧ OR.ok (.bool false) h = .ok (.bool false) h) := by kernel_rfl
end Go.Vd
