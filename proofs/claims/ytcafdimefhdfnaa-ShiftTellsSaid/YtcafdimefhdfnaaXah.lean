/-
  ShiftTells: whatever the input, the law returns true; no condition. Proved by an abstract evaluator of loaded code that is sound for every program, and by what each function of this seat does on trees.

-/
import Derived.Test.YtcafdimefhdfnaaRows
import Derived.ProofKit
import Derived.Test.YtcafdimefhdfnaaXag
namespace Go.Vd
open Go Go.RowKit Go.Proofs
set_option maxRecDepth 100000
theorem Own.load {h : AHeap} {b : Nat} {cs : List AV} (O : Own h b cs) {o : Nat} {v : AV} (e : cs[o]? = some v) : ldO h (.ptr b o 0) = .ok v h := by
  obtain ⟨C, h1, h2⟩ := O
  have ho : o < cs.length := (List.getElem?_eq_some_iff.1 e).1
  have hb : h.blk? b = some { n := cs.length, cells := C, gen := 0, lw := 0, lens := [] } := by unfold AHeap.blk?; rw [h1]
  have hr : h.rdn b o 0 1 = some [v] := by
    unfold AHeap.rdn
    rw [hb]
    simp only
    rw [show Nat.ble 0 0 = true from rfl]
    rw [show lenAt { n := cs.length, cells := C, gen := 0, lw := 0, lens := [] } 0 = cs.length from rfl]
    rw [show Nat.ble (Nat.add o 1) cs.length = true from ble_iff.2 ho]
    simp only
    rw [ptPart_succ, h2 o ho, e]
    simp only [ptPart_zero]
  show OR.of h (match h.rdn b o 0 ((none : Option Nat).getD 1) with | some cs => asVal none cs | none => none) = _
  rw [show ((none : Option Nat).getD 1) = 1 from rfl, hr]
  rfl
theorem Own.store1 {h : AHeap} {b : Nat} {c : List AV} (O : Own h b c) {o : Nat} (ho : o < c.length) {v : AV} (hv : v.cells = [v]) (hc : isCell v = true) : ∃ h', stO h 1 (.ptr b o 0) v = .ok .undef h' ∧ Own h' b (c.set o v) ∧ But b h h' := by
  obtain ⟨h', e, O', B⟩ := O.store o v (by rw [hv]; exact ho) (by rw [hv]; simp [hc])
  rw [hv] at e O'
  refine ⟨h', e, ?_, B⟩
  have : c.take o ++ [v] ++ c.drop (o + 1) = c.set o v := by
    rw [List.set_eq_take_append_cons_drop, if_pos ho]; simp
  rw [← this]; exact O'
theorem ok_takeText {s : List Nat} (hs : By s) : ∃ t r e, Ok 46 [.str s, i64 24] (.tup [.str t, .str r, i64 e]) ∧ By t ∧ By r ∧ t.length ≤ 24 := by
  obtain ⟨x, r, e, ⟨N, k⟩, h0, hr⟩ := ok_take hs
  by_cases q1 : e = 0
  · have e1 : ∀ h : AHeap, OR.ok (.bool (!(ieq e 0))) h = .ok (.bool false) h := fun h => obE (by rw [ieq_t q1]; rfl)
    by_cases q2 : 24 < x
    · exact ⟨[], s, 13, ok_step (flL [(2,1),(4,2),(6,3),(8,2),(8,5)]) N fun n hn h => ⟨_, (tt_2 (ev n) n h s r x e).mpr ⟨k n hn h, e1 h, obE (ilt_t q2), rfl⟩⟩, by simp [By], hs, by simp⟩
    · have e2 : ∀ h : AHeap, OR.ok (.bool (ilt 24 x)) h = .ok (.bool false) h := fun h => obE (ilt_f (by omega))
      by_cases q3 : (r.length : Int) < x
      · exact ⟨[], s, 11, ok_step (flL [(2,1),(4,2),(6,3),(8,2),(8,5)]) N fun n hn h => ⟨_, (tt_3 (ev n) n h s r x e).mpr ⟨k n hn h, e1 h, e2 h, obE (ilt_t (by rw [llen_eq]; exact q3)), rfl⟩⟩, by simp [By], hs, by simp⟩
      · obtain ⟨j, rfl⟩ : ∃ j : Nat, x = Int.ofNat j := ⟨x.toNat, by show x = (x.toNat : Int); omega⟩
        have hj : j ≤ r.length := by have : ¬ (r.length : Int) < (j : Int) := q3; omega
        have hj2 : j ≤ 24 := by have : ¬ (24 : Int) < (j : Int) := q2; omega
        exact ⟨r.take j, r.drop j, 0, ok_step (flL [(2,1),(4,2),(6,3),(8,2),(8,5)]) N fun n hn h => ⟨_, (tt_4 (ev n) n h s r _ e _ _).mpr ⟨k n hn h, e1 h, e2 h, obE (ilt_f (by rw [llen_eq]; exact Int.ofNat_le.2 hj)), slice_hi hj _ h, slice_lo hj _ h, rfl⟩⟩, hr.take j, hr.drop j, by simp; omega⟩
  · exact ⟨[], s, e, ok_step (flL [(2,1),(4,2),(6,3),(8,2),(8,5)]) N fun n hn h => ⟨_, (tt_1 (ev n) n h s r x e).mpr ⟨k n hn h, obE (by rw [ieq_f q1]; rfl), rfl⟩⟩, by simp [By], hs, by simp⟩
theorem seq_iff {a b : List Nat} : seq a b = decide (a = b) := by
  rw [seq_eq]
  by_cases q : a = b <;> simp [q]
theorem ok_rec {s : List Nat} (hl : s.length ≤ 2 ^ 40) : ∃ t b, Ok 49 [.str s] (.tup [.str t, .bool b]) := by
  have hw : wrapK .i64 (Int.ofNat (llen s) - 4) = (s.length : Int) - 4 := by rw [llen_eq]; exact wrap_id (by show _ ≤ (s.length : Int) - 4; omega) (by show (s.length : Int) - 4 ≤ _; omega)
  by_cases q : s.length < 5
  · exact ⟨[], false, ok_step (flL [(2,1),(2,5),(2,6),(2,11),(4,2)]) 0 fun n hn h => ⟨_, (rc_1 (ev n) n h s).mpr ⟨obE (by rw [hw]; exact ilt_t (by omega)), rfl⟩⟩⟩
  · have hw' : wrapK .i64 (Int.ofNat (llen s) - 4) = Int.ofNat (s.length - 4) := by rw [hw]; show _ = ((s.length - 4 : Nat) : Int); omega
    have e1 : ∀ h : AHeap, OR.ok (.bool (ilt (wrapK .i64 (Int.ofNat (llen s) - 4)) 1)) h = .ok (.bool false) h := fun h => obE (by rw [hw]; exact ilt_f (by omega))
    have e2 : ∀ cf h, oSlice .str (xC (.str s)) (some (xC (i64 (wrapK .i64 (Int.ofNat (llen s) - 4))))) none none cf .nil [] h = .ok (.str (s.drop (s.length - 4))) h := fun cf h => by rw [hw']; exact slice_lo (by omega) cf h
    have e4 : ∀ cf h, oSlice .str (xC (.str s)) none (some (xC (i64 (wrapK .i64 (Int.ofNat (llen s) - 4))))) none cf .nil [] h = .ok (.str (s.take (s.length - 4))) h := fun cf h => by rw [hw']; exact slice_hi (by omega) cf h
    by_cases q2 : s.drop (s.length - 4) = [46, 114, 101, 99]
    · have e3 : ∀ h : AHeap, OR.ok (.bool (!(seq (s.drop (s.length - 4)) [46, 114, 101, 99]))) h = .ok (.bool false) h := fun h => obE (by rw [seq_iff, decide_eq_true q2]; rfl)
      obtain ⟨N, k⟩ := ok_name (s.take (s.length - 4))
      cases hn : isNameB (s.take (s.length - 4)) with
      | false =>
        rw [hn] at k
        exact ⟨[], false, ok_step (flL [(2,1),(2,5),(2,6),(2,11),(4,2)]) N fun n hn h => ⟨_, (rc_3 (ev n) n h s _ _).mpr ⟨e1 h, e2 _ h, e3 h, e4 _ h, k n hn h, rfl⟩⟩⟩
      | true =>
        rw [hn] at k
        exact ⟨_, true, ok_step (flL [(2,1),(2,5),(2,6),(2,11),(4,2)]) N fun n hn h => ⟨_, (rc_4 (ev n) n h s _ _).mpr ⟨e1 h, e2 _ h, e3 h, e4 _ h, k n hn h, e4 _ h, rfl⟩⟩⟩
    · have e3 : ∀ h : AHeap, OR.ok (.bool (!(seq (s.drop (s.length - 4)) [46, 114, 101, 99]))) h = .ok (.bool true) h := fun h => obE (by rw [seq_iff, decide_eq_false q2]; rfl)
      exact ⟨[], false, ok_step (flL [(2,1),(2,5),(2,6),(2,11),(4,2)]) 0 fun n hn h => ⟨_, (rc_2 (ev n) n h s _).mpr ⟨e1 h, e2 _ h, e3 h, rfl⟩⟩⟩
theorem ok_keyword (s : List Nat) : ∃ b, Ok 50 [.str s] (.bool b) := by
  have fl : Nat → Nat → Bool := flL [(1,1),(1,4),(1,8),(1,12),(1,17),(1,20),(1,21),(1,25),(1,26),(1,30),(1,31)]
  cases h1 : seq s [102, 117, 110] with
  | true => exact ⟨true, ok_step _ 0 fun n _ h => ⟨_, (kw_0 (ev n) n h s).mpr ⟨obE h1, rfl⟩⟩⟩
  | false =>
  cases h2 : seq s [112, 105] with
  | true => exact ⟨true, ok_step _ 0 fun n _ h => ⟨_, (kw_1 (ev n) n h s).mpr ⟨obE h1, obE h2, rfl⟩⟩⟩
  | false =>
  cases h3 : seq s [108, 101, 116] with
  | true => exact ⟨true, ok_step _ 0 fun n _ h => ⟨_, (kw_2 (ev n) n h s).mpr ⟨obE h1, obE h2, obE h3, rfl⟩⟩⟩
  | false =>
  cases h4 : seq s [105, 110] with
  | true => exact ⟨true, ok_step _ 0 fun n _ h => ⟨_, (kw_3 (ev n) n h s).mpr ⟨obE h1, obE h2, obE h3, obE h4, rfl⟩⟩⟩
  | false =>
  by_cases q : s.length = 5
  · have e5 : ∀ h : AHeap, OR.ok (.bool (ieq (Int.ofNat (llen s)) 5)) h = .ok (.bool true) h := fun h => obE (ieq_t (by rw [llen_eq, q]; rfl))
    have e6 : ∀ cf h, oSlice .str (xC (.str s)) none (some (xC (i64 4))) none cf .nil [] h = .ok (.str (s.take 4)) h := fun cf h => slice_hi (j := 4) (by omega) cf h
    cases h7 : seq (s.take 4) [84, 121, 112, 101] with
    | false => exact ⟨false, ok_step _ 0 fun n _ h => ⟨_, (kw_5 (ev n) n h s _).mpr ⟨obE h1, obE h2, obE h3, obE h4, e5 h, e6 _ h, obE h7, rfl⟩⟩⟩
    | true =>
      obtain ⟨c, hc⟩ := getE (s := s) (i := 4) (by omega)
      have e8 : ∀ cf h, oSidx (xC (.str s)) (xC (i64 4)) cf .nil [] h = .ok (.int .u8 (Int.ofNat c)) h := sidx_at hc
      cases h9 : (!(ilt (Int.ofNat c) 48)) with
      | false => exact ⟨false, ok_step _ 0 fun n _ h => ⟨_, (kw_6 (ev n) n h s _ _).mpr ⟨obE h1, obE h2, obE h3, obE h4, e5 h, e6 _ h, obE h7, e8 _ h, obE h9, rfl⟩⟩⟩
      | true => exact ⟨_, ok_step _ 0 fun n _ h => ⟨_, (kw_7 (ev n) n h s _ _ _).mpr ⟨obE h1, obE h2, obE h3, obE h4, e5 h, e6 _ h, obE h7, e8 _ h, obE h9, e8 _ h, rfl, rfl⟩⟩⟩
  · exact ⟨false, ok_step _ 0 fun n _ h => ⟨_, (kw_4 (ev n) n h s).mpr ⟨obE h1, obE h2, obE h3, obE h4, obE (ieq_f (by rw [llen_eq]; intro e; exact q (Int.ofNat.inj e))), rfl⟩⟩⟩
def partsN (x : Int) : Int := if x = 4 ∨ x = 5 ∨ x = 6 then 2 else if x = 7 then 3 else 0
theorem ok_partsN (x : Int) : Ok 33 [i64 x] (i64 (partsN x)) := by
  refine ok_step (flL [(2,0),(3,0),(4,0),(6,0)]) 0 fun n _ h => ?_
  unfold partsN
  by_cases h4 : x = 4
  · rw [if_pos (.inl h4)]; exact ⟨_, (pa_4 (ev n) n h x).mpr ⟨obE (ieq_t h4), rfl⟩⟩
  · by_cases h5 : x = 5
    · rw [if_pos (.inr (.inl h5))]; exact ⟨_, (pa_5 (ev n) n h x).mpr ⟨obE (ieq_f h4), obE (ieq_t h5), rfl⟩⟩
    · by_cases h6 : x = 6
      · rw [if_pos (.inr (.inr h6))]; exact ⟨_, (pa_6 (ev n) n h x).mpr ⟨obE (ieq_f h4), obE (ieq_f h5), obE (ieq_t h6), rfl⟩⟩
      · rw [if_neg (by simp [h4, h5, h6])]
        by_cases h7 : x = 7
        · rw [if_pos h7]; exact ⟨_, (pa_7 (ev n) n h x).mpr ⟨obE (ieq_f h4), obE (ieq_f h5), obE (ieq_f h6), obE (ieq_t h7), rfl⟩⟩
        · rw [if_neg h7]; exact ⟨_, (pa_0 (ev n) n h x).mpr ⟨obE (ieq_f h4), obE (ieq_f h5), obE (ieq_f h6), obE (ieq_f h7), rfl⟩⟩
end Go.Vd

namespace Go.Vd
open Go Go.RowKit Go.Proofs
set_option maxRecDepth 100000
noncomputable abbrev fl47 : Nat → Nat → Bool := flL [(1, 3), (2, 3), (3, 0), (5, 0), (7, 0), (4, 3), (4, 4), (4, 9), (4, 10), (4, 16), (4, 17), (6, 3), (6, 4), (6, 9), (6, 10), (6, 16), (6, 17), (8, 3), (8, 9), (8, 17), (8, 18), (8, 24), (8, 25), (8, 33), (8, 34), (9, 3), (9, 4), (9, 9), (9, 10), (9, 16), (9, 17), (9, 23), (9, 24)]
noncomputable abbrev fl42 : Nat → Nat → Bool := flL [(1, 4), (1, 8), (2, 3), (2, 4), (3, 3), (6, 3), (6, 4), (8, 3), (9, 0), (13, 0), (14, 0), (10, 3), (11, 8), (11, 11), (11, 14), (12, 5), (15, 5), (16, 3), (16, 4), (17, 3), (18, 3), (19, 3), (19, 4), (20, 5), (21, 3), (21, 4), (22, 5), (23, 3), (23, 4), (24, 5), (25, 1)]
noncomputable abbrev fl45 : Nat → Nat → Bool := flL [(1, 3), (1, 4), (3, 3), (4, 6), (4, 9)]
theorem call_at {f : Nat} {args : List AV} {v : AV} {fl : Nat → Nat → Bool} {n : Nat} (hn : 1 ≤ n) {h h' : AHeap} (k : ∀ m, n = m + 1 → ∃ s, (stepI Try.prog H1 fl f (ev m) m args h).Goes s (.ok v h')) : ev n f args h = .ok v h' := by
  obtain ⟨m, rfl⟩ : ∃ m, n = m + 1 := ⟨n - 1, by omega⟩
  obtain ⟨s, hs⟩ := k m rfl
  exact goes_call fl hs (by simp)
def LeafOk (k m : Int) (nm : List Nat) : Prop := (k = 1 ∧ nm = [] ∧ 0 ≤ m ∧ m ≤ 9) ∨ (k = 2 ∧ nm = [] ∧ 0 ≤ m ∧ m ≤ 100000) ∨ (k = 3 ∧ 0 ≤ m ∧ m ≤ 9) ∨ (4 ≤ k ∧ k ≤ 7 ∧ nm = [] ∧ m = 0)
/-- leaf tells so, whatever lies behind the first three cells. -/
def LeafAt (k m : Int) (nm : List Nat) (r : Bool) : Prop := ∃ N, ∀ n, N ≤ n → ∀ h b c0 c1 c2, Own h b [i64 k, i64 m, .str nm, c0, c1, c2] → ev n 47 [.ptr b 0 0] h = .ok (.bool r) h
theorem leaf_of {k m : Int} {nm : List Nat} {r : Bool} (N : Nat) (K : ∀ n, N ≤ n → ∀ h b, ldO h (.ptr b 2 0) = .ok (.str nm) h → ldO h (.ptr b 0 0) = .ok (i64 k) h → ldO h (.ptr b 1 0) = .ok (i64 m) h →
    ∃ s, (stepI Try.prog H1 fl47 47 (ev n) n [.ptr b 0 0] h).Goes s (.ok (.bool r) h)) : LeafAt k m nm r :=
  ⟨N + 1, fun n hn h b c0 c1 c2 O => call_at (fl := fl47) (by omega) fun m' e => K m' (by omega) h b (O.load rfl) (O.load rfl) (O.load rfl)⟩
theorem leb {a b : Int} (h : a ≤ b) : (!(ilt b a)) = true := by rw [ilt_f h]; rfl
theorem leb_f {a b : Int} (h : ¬ a ≤ b) : (!(ilt b a)) = false := by rw [ilt_t (by omega)]; rfl
theorem leaf_ok (k m : Int) (nm : List Nat) (hl : nm.length ≤ 24) : ∃ r, LeafAt k m nm r ∧ (r = true → LeafOk k m nm) := by
  obtain ⟨t, rb, N1, k1⟩ := ok_rec (s := nm) (by omega)
  obtain ⟨N2, k2⟩ := ok_name nm
  obtain ⟨kw, N3, k3⟩ := ok_keyword nm
  have sq : ∀ h : AHeap, nm = [] → OR.ok (.bool (seq nm [])) h = .ok (.bool true) h := fun h q => obE (by rw [seq_iff, decide_eq_true q])
  have sqf : ∀ h : AHeap, nm ≠ [] → OR.ok (.bool (seq nm [])) h = .ok (.bool false) h := fun h q => obE (by rw [seq_iff, decide_eq_false q])

  by_cases q1 : k = 1
  · by_cases z : nm = []
    · by_cases m0 : 0 ≤ m
      · by_cases m1 : m ≤ 9
        · exact ⟨true, leaf_of (N1) fun n hn h b l2 l0 l1 => ⟨_, lf_1c.mpr ⟨l2, k1 n (by omega) h, l0, obE (ieq_t q1), l2, sq h z, l1, obE (leb m0), l1, obE (leb m1), rfl⟩⟩, fun _ => .inl ⟨q1, z, m0, m1⟩⟩
        · exact ⟨false, leaf_of (N1) fun n hn h b l2 l0 l1 => ⟨_, lf_1c.mpr ⟨l2, k1 n (by omega) h, l0, obE (ieq_t q1), l2, sq h z, l1, obE (leb m0), l1, obE (leb_f m1), rfl⟩⟩, by simp⟩
      · exact ⟨false, leaf_of (N1) fun n hn h b l2 l0 l1 => ⟨_, lf_1b.mpr ⟨l2, k1 n (by omega) h, l0, obE (ieq_t q1), l2, sq h z, l1, obE (leb_f m0), rfl⟩⟩, by simp⟩
    · exact ⟨false, leaf_of (N1) fun n hn h b l2 l0 l1 => ⟨_, lf_1a.mpr ⟨l2, k1 n (by omega) h, l0, obE (ieq_t q1), l2, sqf h z, rfl⟩⟩, by simp⟩
  by_cases q2 : k = 2
  · by_cases z : nm = []
    · by_cases m0 : 0 ≤ m
      · by_cases m1 : m ≤ 100000
        · exact ⟨true, leaf_of (N1) fun n hn h b l2 l0 l1 => ⟨_, lf_2c.mpr ⟨l2, k1 n (by omega) h, l0, obE (ieq_f q1), obE (ieq_t q2), l2, sq h z, l1, obE (leb m0), l1, obE (leb m1), rfl⟩⟩, fun _ => .inr (.inl ⟨q2, z, m0, m1⟩)⟩
        · exact ⟨false, leaf_of (N1) fun n hn h b l2 l0 l1 => ⟨_, lf_2c.mpr ⟨l2, k1 n (by omega) h, l0, obE (ieq_f q1), obE (ieq_t q2), l2, sq h z, l1, obE (leb m0), l1, obE (leb_f m1), rfl⟩⟩, by simp⟩
      · exact ⟨false, leaf_of (N1) fun n hn h b l2 l0 l1 => ⟨_, lf_2b.mpr ⟨l2, k1 n (by omega) h, l0, obE (ieq_f q1), obE (ieq_t q2), l2, sq h z, l1, obE (leb_f m0), rfl⟩⟩, by simp⟩
    · exact ⟨false, leaf_of (N1) fun n hn h b l2 l0 l1 => ⟨_, lf_2a.mpr ⟨l2, k1 n (by omega) h, l0, obE (ieq_f q1), obE (ieq_t q2), l2, sqf h z, rfl⟩⟩, by simp⟩
  by_cases q3 : k = 3
  · cases hn2 : isNameB nm with
    | false =>
      rw [hn2] at k2
      exact ⟨false, leaf_of (N1 + N2) fun n hn h b l2 l0 l1 => ⟨_, lf_3a.mpr ⟨l2, k1 n (by omega) h, l0, obE (ieq_f q1), obE (ieq_f q2), obE (ieq_t q3), l2, k2 n (by omega) h, rfl⟩⟩, by simp⟩
    | true =>
      rw [hn2] at k2
      cases kw with
      | true => exact ⟨false, leaf_of (N1 + N2 + N3) fun n hn h b l2 l0 l1 => ⟨_, lf_3b.mpr ⟨l2, k1 n (by omega) h, l0, obE (ieq_f q1), obE (ieq_f q2), obE (ieq_t q3), l2, k2 n (by omega) h, l2, k3 n (by omega) h, rfl⟩⟩, by simp⟩
      | false =>
        by_cases m0 : 0 ≤ m
        · by_cases m1 : m ≤ 9
          · cases rb with
            | true => exact ⟨true, leaf_of (N1 + N2 + N3) fun n hn h b l2 l0 l1 => ⟨_, lf_3e.mpr ⟨l2, k1 n (by omega) h, l0, obE (ieq_f q1), obE (ieq_f q2), obE (ieq_t q3), l2, k2 n (by omega) h, l2, k3 n (by omega) h, l1, obE (leb m0), l1, obE (leb m1), rfl⟩⟩, fun _ => .inr (.inr (.inl ⟨q3, m0, m1⟩))⟩
            | false => exact ⟨ieq m 0, leaf_of (N1 + N2 + N3) fun n hn h b l2 l0 l1 => ⟨_, lf_3f.mpr ⟨l2, k1 n (by omega) h, l0, obE (ieq_f q1), obE (ieq_f q2), obE (ieq_t q3), l2, k2 n (by omega) h, l2, k3 n (by omega) h, l1, obE (leb m0), l1, obE (leb m1), l1, rfl, rfl⟩⟩, fun _ => .inr (.inr (.inl ⟨q3, m0, m1⟩))⟩
          · exact ⟨false, leaf_of (N1 + N2 + N3) fun n hn h b l2 l0 l1 => ⟨_, lf_3d.mpr ⟨l2, k1 n (by omega) h, l0, obE (ieq_f q1), obE (ieq_f q2), obE (ieq_t q3), l2, k2 n (by omega) h, l2, k3 n (by omega) h, l1, obE (leb m0), l1, obE (leb_f m1), rfl⟩⟩, by simp⟩
        · exact ⟨false, leaf_of (N1 + N2 + N3) fun n hn h b l2 l0 l1 => ⟨_, lf_3c.mpr ⟨l2, k1 n (by omega) h, l0, obE (ieq_f q1), obE (ieq_f q2), obE (ieq_t q3), l2, k2 n (by omega) h, l2, k3 n (by omega) h, l1, obE (leb_f m0), rfl⟩⟩, by simp⟩
  by_cases z : nm = []
  · by_cases m0 : m = 0
    · by_cases k4 : 4 ≤ k
      · by_cases k7 : k ≤ 7
        · exact ⟨true, leaf_of N1 fun n hn h b l2 l0 l1 => ⟨_, lf_0d.mpr ⟨l2, k1 n (by omega) h, l0, obE (ieq_f q1), obE (ieq_f q2), obE (ieq_f q3), l2, sq h z, l1, obE (ieq_t m0), l0, obE (leb k4), l0, obE (leb k7), rfl⟩⟩, fun _ => .inr (.inr (.inr ⟨k4, k7, z, m0⟩))⟩
        · exact ⟨false, leaf_of N1 fun n hn h b l2 l0 l1 => ⟨_, lf_0d.mpr ⟨l2, k1 n (by omega) h, l0, obE (ieq_f q1), obE (ieq_f q2), obE (ieq_f q3), l2, sq h z, l1, obE (ieq_t m0), l0, obE (leb k4), l0, obE (leb_f k7), rfl⟩⟩, by simp⟩
      · exact ⟨false, leaf_of N1 fun n hn h b l2 l0 l1 => ⟨_, lf_0c.mpr ⟨l2, k1 n (by omega) h, l0, obE (ieq_f q1), obE (ieq_f q2), obE (ieq_f q3), l2, sq h z, l1, obE (ieq_t m0), l0, obE (leb_f k4), rfl⟩⟩, by simp⟩
    · exact ⟨false, leaf_of N1 fun n hn h b l2 l0 l1 => ⟨_, lf_0b.mpr ⟨l2, k1 n (by omega) h, l0, obE (ieq_f q1), obE (ieq_f q2), obE (ieq_f q3), l2, sq h z, l1, obE (ieq_f m0), rfl⟩⟩, by simp⟩
  · exact ⟨false, leaf_of N1 fun n hn h b l2 l0 l1 => ⟨_, lf_0a.mpr ⟨l2, k1 n (by omega) h, l0, obE (ieq_f q1), obE (ieq_f q2), obE (ieq_f q3), l2, sqf h z, rfl⟩⟩, by simp⟩
theorem But.refl (b : Nat) (h : AHeap) : But b h h := ⟨rfl, fun _ _ => rfl⟩
theorem But.trans {b : Nat} {h h1 h2 : AHeap} (x : But b h h1) (y : But b h1 h2) : But b h h2 := ⟨y.next.trans x.next, fun i hi => (y.old i hi).trans (x.old i hi)⟩
theorem Own.but {h h' : AHeap} {b c : Nat} {cs : List AV} (O : Own h b cs) (B : But c h h') (hn : b ≠ c) : Own h' b cs := let ⟨C, h1, h2⟩ := O; ⟨C, (B.old b hn).trans h1, h2⟩
/-- One number read from a reader's text; an error stays. -/
def NumAt (s : List Nat) (e x : Int) (s1 : List Nat) (e1 : Int) : Prop := ∃ N, ∀ n, N ≤ n → ∀ h b kk, Own h b [.str s, kk, i64 e] → ∃ h', ev n 45 [.ptr b 0 0] h = .ok (i64 x) h' ∧ Own h' b [.str s1, kk, i64 e1] ∧ But b h h'
theorem num_ok {s : List Nat} (hs : By s) (e : Int) : ∃ x s1 e1, NumAt s e x s1 e1 ∧ By s1 ∧ (e ≠ 0 → e1 ≠ 0) := by
  by_cases q : e = 0
  · obtain ⟨x, r, e1, ⟨N, k⟩, h0, hr⟩ := ok_take hs
    refine ⟨x, r, e1, ⟨N + 1, fun n hn h b kk O => ?_⟩, hr, fun h => absurd q h⟩
    obtain ⟨g1, s1, O1, B1⟩ := O.store1 (o := 0) (v := .str r) (by simp) rfl rfl
    obtain ⟨g2, s2, O2, B2⟩ := O1.store1 (o := 2) (v := i64 e1) (by simp) rfl rfl
    exact ⟨g2, call_at (fl := fl45) (by omega) fun m e' => ⟨_, nu_2.mpr ⟨O.load rfl, obE (by rw [ieq_t q]; rfl), O.load rfl, k m (by omega) h, s1, s2, rfl⟩⟩, O2, B1.trans B2⟩
  · exact ⟨0, s, e, ⟨1, fun n hn h b kk O => ⟨h, call_at (fl := fl45) (by omega) fun m e' => ⟨_, nu_1.mpr ⟨O.load rfl, obE (by rw [ieq_f q]; rfl), rfl⟩⟩, O, But.refl b h⟩⟩, hs, fun h => h⟩
/-- Nothing but a block (and what is new) is another. -/
structure Oth (b : Nat) (h h' : AHeap) : Prop where
  next : h.next ≤ h'.next
  old : ∀ i, i < h.next → i ≠ b → h'.m.get i = h.m.get i
theorem Oth.refl (b : Nat) (h : AHeap) : Oth b h h := ⟨Nat.le_refl _, fun _ _ _ => rfl⟩
theorem Oth.trans {b : Nat} {h h1 h2 : AHeap} (x : Oth b h h1) (y : Oth b h1 h2) : Oth b h h2 := ⟨Nat.le_trans x.next y.next, fun i hi hb => (y.old i (Nat.lt_of_lt_of_le hi x.next) hb).trans (x.old i hi hb)⟩
theorem But.oth {b : Nat} {h h' : AHeap} (B : But b h h') : Oth b h h' := ⟨Nat.le_of_eq B.next.symm, fun i _ hb => B.old i hb⟩
theorem But.oth' {b c : Nat} {h0 h h' : AHeap} (x : Oth b h0 h) (B : But c h h') (hc : h0.next ≤ c) : Oth b h0 h' := ⟨by rw [B.next]; exact x.next, fun i hi hb => (B.old i (by omega)).trans (x.old i hi hb)⟩
theorem Ext.oth {b : Nat} {h h' : AHeap} (E : Ext h h') : Oth b h h' := ⟨E.next, fun i hi _ => E.old i hi⟩
theorem Own.oth {h h' : AHeap} {b c : Nat} {cs : List AV} (O : Own h c cs) (B : Oth b h h') (hn : c ≠ b) (hc : c < h.next) : Own h' c cs := let ⟨C, h1, h2⟩ := O; ⟨C, (B.old c hc hn).trans h1, h2⟩
/-- A term read: what comes of a reader's text and count. -/
def TermAt (s : List Nat) (k : Int) : Prop := ∃ v s' k' e', By s' ∧ k ≤ k' ∧ v.cells = [v] ∧ isCell v = true ∧ (e' = 0 → k' ≤ 3000 ∧ ∃ t, v = tw t ∧ Bd (2 ^ 30) t ∧ ht t ≤ 3000 - k) ∧
  ∃ N, ∀ n, N ≤ n → ∀ h b, Own h b [.str s, i64 k, i64 0] → b < h.next → ∃ h', ev n 42 [.ptr b 0 0] h = .ok v h' ∧ Own h' b [.str s', i64 k', i64 e'] ∧ Oth b h h'

end Go.Vd

namespace Go.Vd
open Go Go.RowKit Go.Proofs
set_option maxRecDepth 100000
abbrev cl0 (x m : Int) (nm : List Nat) : List AV := [i64 x, i64 m, .str nm, .nilp, .nilp, .nilp]
theorem term_ok : ∀ (m : Nat) (s : List Nat) (k : Int), 0 ≤ k → k ≤ 3000 → (3001 - k).toNat ≤ m → By s → TermAt s k := by
  intro m
  induction m with
  | zero => intro s k _ _ hm _; omega
  | succ m ih =>
    intro s k hk0 hk hm hs
    have hw : wrapK .i64 (k + 1) = k + 1 := wrap_id (by omega) (by omega)
    by_cases hlim : 3000 < k + 1
    · refine ⟨.nilp, s, k + 1, 13, hs, by omega, rfl, rfl, by intro e; omega, 1, fun n hn h b O hb => ?_⟩
      obtain ⟨h1, a1, O1, B1⟩ := O.store1 (o := 1) (v := i64 (k + 1)) (by simp) rfl rfl
      obtain ⟨h2, a2, O2, B2⟩ := O1.store1 (o := 2) (v := i64 13) (by simp) rfl rfl
      exact ⟨h2, call_at (fl := fl42) hn fun m e => ⟨_, tm_lim.mpr ⟨O.load rfl, by rw [hw]; exact a1, by rw [hw]; exact O1.load rfl, obE (by rw [hw]; exact ilt_t hlim), a2, rfl⟩⟩, O2, (B1.trans B2).oth⟩
    obtain ⟨x, s1, e1, ⟨N1, k1⟩, hs1, _⟩ := num_ok hs 0
    obtain ⟨N2, kp⟩ := ok_partsN x
    have start : ∀ n, N1 ≤ n → ∀ h b, Own h b [.str s, i64 k, i64 0] → b < h.next → ∃ h1 h2, stO h 1 (.ptr b 1 0) (i64 (wrapK .i64 (k + 1))) = .ok .undef h1 ∧ ldO h1 (.ptr b 1 0) = .ok (i64 (wrapK .i64 (k + 1))) h1 ∧
        ev n 45 [.ptr b 0 0] h1 = .ok (i64 x) h2 ∧ Own (h2.alloc [i64 x, i64 0, .str [], .nilp, .nilp, .nilp]) b [.str s1, i64 (k + 1), i64 e1] ∧ Own (h2.alloc [i64 x, i64 0, .str [], .nilp, .nilp, .nilp]) h2.next (cl0 x 0 []) ∧ Oth b h (h2.alloc [i64 x, i64 0, .str [], .nilp, .nilp, .nilp]) ∧ b ≠ h2.next ∧ h.next ≤ h2.next ∧ h2.next < (h2.alloc [i64 x, i64 0, .str [], .nilp, .nilp, .nilp]).next := fun n hn h b O hb => by
      obtain ⟨h1, a1, O1, B1⟩ := O.store1 (o := 1) (v := i64 (k + 1)) (by simp) rfl rfl
      obtain ⟨h2, a2, O2, B2⟩ := k1 n hn h1 b _ O1
      have hn2 : h2.next = h.next := (B1.trans B2).next
      exact ⟨h1, h2, by rw [hw]; exact a1, by rw [hw]; exact O1.load rfl, a2, O2.ext (ext_alloc h2 _) (by omega), own_alloc h2 _, (B1.trans B2).oth.trans (ext_alloc h2 _).oth, by omega, by omega, by rw [alloc_next]; omega⟩
    have lm : ∀ h1 : AHeap, OR.ok (.bool (ilt 3000 (wrapK .i64 (k + 1)))) h1 = .ok (.bool false) h1 := fun h1 => obE (by rw [hw]; exact ilt_f (by omega))
    by_cases qe : e1 = 0
    case neg =>
      refine ⟨.nilp, s1, k + 1, e1, hs1, by omega, rfl, rfl, fun e => absurd e qe, N1 + 1, fun n hn h b O hb => ?_⟩
      obtain ⟨j, rfl⟩ : ∃ j, n = j + 1 := ⟨n - 1, by omega⟩
      obtain ⟨h1, h2, a1, l1, c45, Ob, Ot, ho, hbt, hle, _⟩ := start j (by omega) h b O hb
      exact ⟨_, call_at (fl := fl42) (by omega) fun m' e => ⟨_, tm_num.mpr ⟨O.load rfl, a1, l1, lm h1, (by cases e; exact c45), Ob.load rfl, obE (by rw [ieq_f qe]; rfl), rfl⟩⟩, Ob, ho⟩
    subst qe
    have ne0 : ∀ h : AHeap, OR.ok (.bool (!(ieq 0 0))) h = .ok (.bool false) h := fun h => rfl

    by_cases q3 : x = 3
    · have kp0 : ∀ n, N2 ≤ n → ∀ h, ev n 33 [i64 x] h = .ok (i64 0) h := fun n hn h => by have := kp n hn h; rwa [show partsN x = 0 by rw [q3]; rfl] at this
      obtain ⟨nm, rr, e1', ⟨N3, k3⟩, _, hrr, hnl⟩ := ok_takeText hs1
      obtain ⟨mm, s2, e2, ⟨N4, k4⟩, hs2, _⟩ := num_ok hrr e1'
      obtain ⟨r, ⟨N5, k5⟩, hr⟩ := leaf_ok x mm nm hnl
      by_cases q0 : e2 = 0
      case neg =>
        have en : ∀ h : AHeap, OR.ok (.bool (ieq e2 0)) h = .ok (.bool false) h := fun h => obE (ieq_f q0)
        refine ⟨.imm (cl0 x mm nm) 0, s2, k + 1, e2, hs2, by omega, rfl, rfl, fun e => absurd e q0, N1 + N2 + N3 + N4 + 1, fun n hn h b O hb => ?_⟩
        · obtain ⟨j, rfl⟩ : ∃ j, n = j + 1 := ⟨n - 1, by omega⟩
          obtain ⟨h1, h2, a1, l1, c45, Ob, Ot, ho, hbt, hle, hlt⟩ := start j (by omega) h b O hb
          obtain ⟨g0, w0, Ob0, B0⟩ := Ob.store1 (o := 0) (v := .str rr) (by simp) rfl rfl
          obtain ⟨g1, w1, Ob1, B1⟩ := Ob0.store1 (o := 2) (v := i64 e1') (by simp) rfl rfl
          have Ot1 := (Ot.but B0 (Ne.symm hbt)).but B1 (Ne.symm hbt)
          obtain ⟨g2, w2, Ot2, B2⟩ := Ot1.store1 (o := 2) (v := .str nm) (by simp) rfl rfl
          have Ob2 := Ob1.but B2 hbt
          obtain ⟨g3, d45, Ob3, B3⟩ := k4 j (by omega) g2 b _ Ob2
          have Ot3 := Ot2.but B3 (Ne.symm hbt)
          obtain ⟨g4, w4, Ot4, B4⟩ := Ot3.store1 (o := 1) (v := i64 mm) (by simp) rfl rfl
          have Ob4 := Ob3.but B4 hbt
          have o4 := But.oth' ((But.oth' (ho.trans (B0.trans B1).oth) B2 hle).trans B3.oth) B4 hle
          obtain ⟨g5, fz, B5⟩ := Ot4.freeze
          exact ⟨g5, call_at (fl := fl42) (by omega) fun m' e => ⟨_, (by cases e; exact tm_3e.mpr ⟨O.load rfl, a1, l1, lm h1, c45, Ob.load rfl, ne0 _, Ot.load rfl, obE (ieq_t q3), Ob.load rfl, k3 j (by omega) _, w0, w1, w2, d45, w4, Ob4.load rfl, en _, Ot4.load rfl, kp0 j (by omega) _, Ob4.load rfl, en _, Ob4.load rfl, en _, Ob4.load rfl, en _, fz, rfl⟩)⟩, Ob4.but B5 hbt, But.oth' o4 B5 hle⟩
      subst q0
      have ez : ∀ h : AHeap, OR.ok (.bool (ieq 0 0)) h = .ok (.bool true) h := fun h => rfl
      have et : ∀ h : AHeap, OR.ok (.bool (ieq 10 0)) h = .ok (.bool false) h := fun h => rfl
      cases r with
      | false =>
        refine ⟨.imm (cl0 x mm nm) 0, s2, k + 1, 10, hs2, by omega, rfl, rfl, fun e => by omega, N1 + N2 + N3 + N4 + N5 + 1, fun n hn h b O hb => ?_⟩
        · obtain ⟨j, rfl⟩ : ∃ j, n = j + 1 := ⟨n - 1, by omega⟩
          obtain ⟨h1, h2, a1, l1, c45, Ob, Ot, ho, hbt, hle, hlt⟩ := start j (by omega) h b O hb
          obtain ⟨g0, w0, Ob0, B0⟩ := Ob.store1 (o := 0) (v := .str rr) (by simp) rfl rfl
          obtain ⟨g1, w1, Ob1, B1⟩ := Ob0.store1 (o := 2) (v := i64 e1') (by simp) rfl rfl
          have Ot1 := (Ot.but B0 (Ne.symm hbt)).but B1 (Ne.symm hbt)
          obtain ⟨g2, w2, Ot2, B2⟩ := Ot1.store1 (o := 2) (v := .str nm) (by simp) rfl rfl
          have Ob2 := Ob1.but B2 hbt
          obtain ⟨g3, d45, Ob3, B3⟩ := k4 j (by omega) g2 b _ Ob2
          have Ot3 := Ot2.but B3 (Ne.symm hbt)
          obtain ⟨g4, w4, Ot4, B4⟩ := Ot3.store1 (o := 1) (v := i64 mm) (by simp) rfl rfl
          have Ob4 := Ob3.but B4 hbt
          have o4 := But.oth' ((But.oth' (ho.trans (B0.trans B1).oth) B2 hle).trans B3.oth) B4 hle
          obtain ⟨g5, w5, Ob5, B5⟩ := Ob4.store1 (o := 2) (v := i64 10) (by simp) rfl rfl
          have Ot5 := Ot4.but B5 (Ne.symm hbt)
          obtain ⟨g6, fz, B6⟩ := Ot5.freeze
          exact ⟨g6, call_at (fl := fl42) (by omega) fun m' e => ⟨_, (by cases e; exact tm_3f.mpr ⟨O.load rfl, a1, l1, lm h1, c45, Ob.load rfl, ne0 _, Ot.load rfl, obE (ieq_t q3), Ob.load rfl, k3 j (by omega) _, w0, w1, w2, d45, w4, Ob4.load rfl, ez _, k5 j (by omega) _ _ _ _ _ Ot4, w5, Ot5.load rfl, kp0 j (by omega) _, Ob5.load rfl, et _, Ob5.load rfl, et _, Ob5.load rfl, et _, fz, rfl⟩)⟩, Ob5.but B6 hbt, But.oth' (o4.trans B5.oth) B6 hle⟩
      | true =>
        have hlf := hr rfl
        have htr : ∃ t, AV.imm (cl0 x mm nm) 0 = tw t ∧ Bd (2 ^ 30) t ∧ ht t ≤ 3000 - k := by
          unfold LeafOk at hlf
          exact ⟨.con nm mm, by rw [q3]; rfl, by simp only [Bd]; omega, by simp only [ht]; omega⟩
        refine ⟨.imm (cl0 x mm nm) 0, s2, k + 1, 0, hs2, by omega, rfl, rfl, fun _ => ⟨by omega, htr⟩, N1 + N2 + N3 + N4 + N5 + 1, fun n hn h b O hb => ?_⟩
        · obtain ⟨j, rfl⟩ : ∃ j, n = j + 1 := ⟨n - 1, by omega⟩
          obtain ⟨h1, h2, a1, l1, c45, Ob, Ot, ho, hbt, hle, hlt⟩ := start j (by omega) h b O hb
          obtain ⟨g0, w0, Ob0, B0⟩ := Ob.store1 (o := 0) (v := .str rr) (by simp) rfl rfl
          obtain ⟨g1, w1, Ob1, B1⟩ := Ob0.store1 (o := 2) (v := i64 e1') (by simp) rfl rfl
          have Ot1 := (Ot.but B0 (Ne.symm hbt)).but B1 (Ne.symm hbt)
          obtain ⟨g2, w2, Ot2, B2⟩ := Ot1.store1 (o := 2) (v := .str nm) (by simp) rfl rfl
          have Ob2 := Ob1.but B2 hbt
          obtain ⟨g3, d45, Ob3, B3⟩ := k4 j (by omega) g2 b _ Ob2
          have Ot3 := Ot2.but B3 (Ne.symm hbt)
          obtain ⟨g4, w4, Ot4, B4⟩ := Ot3.store1 (o := 1) (v := i64 mm) (by simp) rfl rfl
          have Ob4 := Ob3.but B4 hbt
          have o4 := But.oth' ((But.oth' (ho.trans (B0.trans B1).oth) B2 hle).trans B3.oth) B4 hle
          obtain ⟨g6, fz, B6⟩ := Ot4.freeze
          exact ⟨g6, call_at (fl := fl42) (by omega) fun m' e => ⟨_, (by cases e; exact tm_3t.mpr ⟨O.load rfl, a1, l1, lm h1, c45, Ob.load rfl, ne0 _, Ot.load rfl, obE (ieq_t q3), Ob.load rfl, k3 j (by omega) _, w0, w1, w2, d45, w4, Ob4.load rfl, ez _, k5 j (by omega) _ _ _ _ _ Ot4, Ot4.load rfl, kp0 j (by omega) _, Ob4.load rfl, ez _, Ob4.load rfl, ez _, Ob4.load rfl, ez _, fz, rfl⟩)⟩, Ob4.but B6 hbt, But.oth' o4 B6 hle⟩
    by_cases q1 : x = 1
    · have kp0 : ∀ n, N2 ≤ n → ∀ h, ev n 33 [i64 x] h = .ok (i64 0) h := fun n hn h => by have := kp n hn h; rwa [show partsN x = 0 by rw [q1]; rfl] at this
      obtain ⟨mm, s2, e2, ⟨N4, k4⟩, hs2, _⟩ := num_ok hs1 0
      obtain ⟨r, ⟨N5, k5⟩, hr⟩ := leaf_ok x mm [] (by simp)
      by_cases q0 : e2 = 0
      case neg =>
        have en : ∀ h : AHeap, OR.ok (.bool (ieq e2 0)) h = .ok (.bool false) h := fun h => obE (ieq_f q0)
        refine ⟨.imm (cl0 x mm []) 0, s2, k + 1, e2, hs2, by omega, rfl, rfl, fun e => absurd e q0, N1 + N2 + N4 + 1, fun n hn h b O hb => ?_⟩
        · obtain ⟨j, rfl⟩ : ∃ j, n = j + 1 := ⟨n - 1, by omega⟩
          obtain ⟨h1, h2, a1, l1, c45, Ob, Ot, ho, hbt, hle, hlt⟩ := start j (by omega) h b O hb
          obtain ⟨g3, d45, Ob3, B3⟩ := k4 j (by omega) _ b _ Ob
          have Ot3 := Ot.but B3 (Ne.symm hbt)
          obtain ⟨g4, w4, Ot4, B4⟩ := Ot3.store1 (o := 1) (v := i64 mm) (by simp) rfl rfl
          have Ob4 := Ob3.but B4 hbt
          have o4 := But.oth' (ho.trans B3.oth) B4 hle
          obtain ⟨g5, fz, B5⟩ := Ot4.freeze
          exact ⟨g5, call_at (fl := fl42) (by omega) fun m' e => ⟨_, (by cases e; exact tm_1e.mpr ⟨O.load rfl, a1, l1, lm h1, c45, Ob.load rfl, ne0 _, Ot.load rfl, obE (ieq_f q3), obE (ieq_t q1), d45, w4, Ob4.load rfl, en _, Ot4.load rfl, kp0 j (by omega) _, Ob4.load rfl, en _, Ob4.load rfl, en _, Ob4.load rfl, en _, fz, rfl⟩)⟩, Ob4.but B5 hbt, But.oth' o4 B5 hle⟩
      subst q0
      have ez : ∀ h : AHeap, OR.ok (.bool (ieq 0 0)) h = .ok (.bool true) h := fun h => rfl
      have et : ∀ h : AHeap, OR.ok (.bool (ieq 10 0)) h = .ok (.bool false) h := fun h => rfl
      cases r with
      | false =>
        refine ⟨.imm (cl0 x mm []) 0, s2, k + 1, 10, hs2, by omega, rfl, rfl, fun e => by omega, N1 + N2 + N4 + N5 + 1, fun n hn h b O hb => ?_⟩
        · obtain ⟨j, rfl⟩ : ∃ j, n = j + 1 := ⟨n - 1, by omega⟩
          obtain ⟨h1, h2, a1, l1, c45, Ob, Ot, ho, hbt, hle, hlt⟩ := start j (by omega) h b O hb
          obtain ⟨g3, d45, Ob3, B3⟩ := k4 j (by omega) _ b _ Ob
          have Ot3 := Ot.but B3 (Ne.symm hbt)
          obtain ⟨g4, w4, Ot4, B4⟩ := Ot3.store1 (o := 1) (v := i64 mm) (by simp) rfl rfl
          have Ob4 := Ob3.but B4 hbt
          have o4 := But.oth' (ho.trans B3.oth) B4 hle
          obtain ⟨g5, w5, Ob5, B5⟩ := Ob4.store1 (o := 2) (v := i64 10) (by simp) rfl rfl
          have Ot5 := Ot4.but B5 (Ne.symm hbt)
          obtain ⟨g6, fz, B6⟩ := Ot5.freeze
          exact ⟨g6, call_at (fl := fl42) (by omega) fun m' e => ⟨_, (by cases e; exact tm_1f.mpr ⟨O.load rfl, a1, l1, lm h1, c45, Ob.load rfl, ne0 _, Ot.load rfl, obE (ieq_f q3), obE (ieq_t q1), d45, w4, Ob4.load rfl, ez _, k5 j (by omega) _ _ _ _ _ Ot4, w5, Ot5.load rfl, kp0 j (by omega) _, Ob5.load rfl, et _, Ob5.load rfl, et _, Ob5.load rfl, et _, fz, rfl⟩)⟩, Ob5.but B6 hbt, But.oth' (o4.trans B5.oth) B6 hle⟩
      | true =>
        have hlf := hr rfl
        have htr : ∃ t, AV.imm (cl0 x mm []) 0 = tw t ∧ Bd (2 ^ 30) t ∧ ht t ≤ 3000 - k := by
          unfold LeafOk at hlf
          exact ⟨.sort mm, by rw [q1]; rfl, by simp only [Bd]; omega, by simp only [ht]; omega⟩
        refine ⟨.imm (cl0 x mm []) 0, s2, k + 1, 0, hs2, by omega, rfl, rfl, fun _ => ⟨by omega, htr⟩, N1 + N2 + N4 + N5 + 1, fun n hn h b O hb => ?_⟩
        · obtain ⟨j, rfl⟩ : ∃ j, n = j + 1 := ⟨n - 1, by omega⟩
          obtain ⟨h1, h2, a1, l1, c45, Ob, Ot, ho, hbt, hle, hlt⟩ := start j (by omega) h b O hb
          obtain ⟨g3, d45, Ob3, B3⟩ := k4 j (by omega) _ b _ Ob
          have Ot3 := Ot.but B3 (Ne.symm hbt)
          obtain ⟨g4, w4, Ot4, B4⟩ := Ot3.store1 (o := 1) (v := i64 mm) (by simp) rfl rfl
          have Ob4 := Ob3.but B4 hbt
          have o4 := But.oth' (ho.trans B3.oth) B4 hle
          obtain ⟨g6, fz, B6⟩ := Ot4.freeze
          exact ⟨g6, call_at (fl := fl42) (by omega) fun m' e => ⟨_, (by cases e; exact tm_1t.mpr ⟨O.load rfl, a1, l1, lm h1, c45, Ob.load rfl, ne0 _, Ot.load rfl, obE (ieq_f q3), obE (ieq_t q1), d45, w4, Ob4.load rfl, ez _, k5 j (by omega) _ _ _ _ _ Ot4, Ot4.load rfl, kp0 j (by omega) _, Ob4.load rfl, ez _, Ob4.load rfl, ez _, Ob4.load rfl, ez _, fz, rfl⟩)⟩, Ob4.but B6 hbt, But.oth' o4 B6 hle⟩
    by_cases q2 : x = 2
    · have kp0 : ∀ n, N2 ≤ n → ∀ h, ev n 33 [i64 x] h = .ok (i64 0) h := fun n hn h => by have := kp n hn h; rwa [show partsN x = 0 by rw [q2]; rfl] at this
      obtain ⟨mm, s2, e2, ⟨N4, k4⟩, hs2, _⟩ := num_ok hs1 0
      obtain ⟨r, ⟨N5, k5⟩, hr⟩ := leaf_ok x mm [] (by simp)
      by_cases q0 : e2 = 0
      case neg =>
        have en : ∀ h : AHeap, OR.ok (.bool (ieq e2 0)) h = .ok (.bool false) h := fun h => obE (ieq_f q0)
        refine ⟨.imm (cl0 x mm []) 0, s2, k + 1, e2, hs2, by omega, rfl, rfl, fun e => absurd e q0, N1 + N2 + N4 + 1, fun n hn h b O hb => ?_⟩
        · obtain ⟨j, rfl⟩ : ∃ j, n = j + 1 := ⟨n - 1, by omega⟩
          obtain ⟨h1, h2, a1, l1, c45, Ob, Ot, ho, hbt, hle, hlt⟩ := start j (by omega) h b O hb
          obtain ⟨g3, d45, Ob3, B3⟩ := k4 j (by omega) _ b _ Ob
          have Ot3 := Ot.but B3 (Ne.symm hbt)
          obtain ⟨g4, w4, Ot4, B4⟩ := Ot3.store1 (o := 1) (v := i64 mm) (by simp) rfl rfl
          have Ob4 := Ob3.but B4 hbt
          have o4 := But.oth' (ho.trans B3.oth) B4 hle
          obtain ⟨g5, fz, B5⟩ := Ot4.freeze
          exact ⟨g5, call_at (fl := fl42) (by omega) fun m' e => ⟨_, (by cases e; exact tm_2e.mpr ⟨O.load rfl, a1, l1, lm h1, c45, Ob.load rfl, ne0 _, Ot.load rfl, obE (ieq_f q3), obE (ieq_f q1), obE (ieq_t q2), d45, w4, Ob4.load rfl, en _, Ot4.load rfl, kp0 j (by omega) _, Ob4.load rfl, en _, Ob4.load rfl, en _, Ob4.load rfl, en _, fz, rfl⟩)⟩, Ob4.but B5 hbt, But.oth' o4 B5 hle⟩
      subst q0
      have ez : ∀ h : AHeap, OR.ok (.bool (ieq 0 0)) h = .ok (.bool true) h := fun h => rfl
      have et : ∀ h : AHeap, OR.ok (.bool (ieq 10 0)) h = .ok (.bool false) h := fun h => rfl
      cases r with
      | false =>
        refine ⟨.imm (cl0 x mm []) 0, s2, k + 1, 10, hs2, by omega, rfl, rfl, fun e => by omega, N1 + N2 + N4 + N5 + 1, fun n hn h b O hb => ?_⟩
        · obtain ⟨j, rfl⟩ : ∃ j, n = j + 1 := ⟨n - 1, by omega⟩
          obtain ⟨h1, h2, a1, l1, c45, Ob, Ot, ho, hbt, hle, hlt⟩ := start j (by omega) h b O hb
          obtain ⟨g3, d45, Ob3, B3⟩ := k4 j (by omega) _ b _ Ob
          have Ot3 := Ot.but B3 (Ne.symm hbt)
          obtain ⟨g4, w4, Ot4, B4⟩ := Ot3.store1 (o := 1) (v := i64 mm) (by simp) rfl rfl
          have Ob4 := Ob3.but B4 hbt
          have o4 := But.oth' (ho.trans B3.oth) B4 hle
          obtain ⟨g5, w5, Ob5, B5⟩ := Ob4.store1 (o := 2) (v := i64 10) (by simp) rfl rfl
          have Ot5 := Ot4.but B5 (Ne.symm hbt)
          obtain ⟨g6, fz, B6⟩ := Ot5.freeze
          exact ⟨g6, call_at (fl := fl42) (by omega) fun m' e => ⟨_, (by cases e; exact tm_2f.mpr ⟨O.load rfl, a1, l1, lm h1, c45, Ob.load rfl, ne0 _, Ot.load rfl, obE (ieq_f q3), obE (ieq_f q1), obE (ieq_t q2), d45, w4, Ob4.load rfl, ez _, k5 j (by omega) _ _ _ _ _ Ot4, w5, Ot5.load rfl, kp0 j (by omega) _, Ob5.load rfl, et _, Ob5.load rfl, et _, Ob5.load rfl, et _, fz, rfl⟩)⟩, Ob5.but B6 hbt, But.oth' (o4.trans B5.oth) B6 hle⟩
      | true =>
        have hlf := hr rfl
        have htr : ∃ t, AV.imm (cl0 x mm []) 0 = tw t ∧ Bd (2 ^ 30) t ∧ ht t ≤ 3000 - k := by
          unfold LeafOk at hlf
          exact ⟨.var mm, by rw [q2]; rfl, by simp only [Bd]; omega, by simp only [ht]; omega⟩
        refine ⟨.imm (cl0 x mm []) 0, s2, k + 1, 0, hs2, by omega, rfl, rfl, fun _ => ⟨by omega, htr⟩, N1 + N2 + N4 + N5 + 1, fun n hn h b O hb => ?_⟩
        · obtain ⟨j, rfl⟩ : ∃ j, n = j + 1 := ⟨n - 1, by omega⟩
          obtain ⟨h1, h2, a1, l1, c45, Ob, Ot, ho, hbt, hle, hlt⟩ := start j (by omega) h b O hb
          obtain ⟨g3, d45, Ob3, B3⟩ := k4 j (by omega) _ b _ Ob
          have Ot3 := Ot.but B3 (Ne.symm hbt)
          obtain ⟨g4, w4, Ot4, B4⟩ := Ot3.store1 (o := 1) (v := i64 mm) (by simp) rfl rfl
          have Ob4 := Ob3.but B4 hbt
          have o4 := But.oth' (ho.trans B3.oth) B4 hle
          obtain ⟨g6, fz, B6⟩ := Ot4.freeze
          exact ⟨g6, call_at (fl := fl42) (by omega) fun m' e => ⟨_, (by cases e; exact tm_2t.mpr ⟨O.load rfl, a1, l1, lm h1, c45, Ob.load rfl, ne0 _, Ot.load rfl, obE (ieq_f q3), obE (ieq_f q1), obE (ieq_t q2), d45, w4, Ob4.load rfl, ez _, k5 j (by omega) _ _ _ _ _ Ot4, Ot4.load rfl, kp0 j (by omega) _, Ob4.load rfl, ez _, Ob4.load rfl, ez _, Ob4.load rfl, ez _, fz, rfl⟩)⟩, Ob4.but B6 hbt, But.oth' o4 B6 hle⟩
    have ez : ∀ h : AHeap, OR.ok (.bool (ieq 0 0)) h = .ok (.bool true) h := fun h => rfl
    have et : ∀ h : AHeap, OR.ok (.bool (ieq 10 0)) h = .ok (.bool false) h := fun h => rfl
    obtain ⟨r, ⟨N5, k5⟩, hr⟩ := leaf_ok x 0 [] (by simp)
    cases r with
    | false =>
      refine ⟨.imm (cl0 x 0 []) 0, s1, k + 1, 10, hs1, by omega, rfl, rfl, fun e => by omega, N1 + N2 + N5 + 1, fun n hn h b O hb => ?_⟩
      · obtain ⟨j, rfl⟩ : ∃ j, n = j + 1 := ⟨n - 1, by omega⟩
        obtain ⟨h1, h2, a1, l1, c45, Ob, Ot, ho, hbt, hle, hlt⟩ := start j (by omega) h b O hb
        obtain ⟨g5, w5, Ob5, B5⟩ := Ob.store1 (o := 2) (v := i64 10) (by simp) rfl rfl
        have Ot5 := Ot.but B5 (Ne.symm hbt)
        obtain ⟨g6, fz, B6⟩ := Ot5.freeze
        exact ⟨g6, call_at (fl := fl42) (by omega) fun m' e => ⟨_, (by cases e; exact tm_0f.mpr ⟨O.load rfl, a1, l1, lm h1, c45, Ob.load rfl, ne0 _, Ot.load rfl, obE (ieq_f q3), obE (ieq_f q1), obE (ieq_f q2), Ob.load rfl, ez _, k5 j (by omega) _ _ _ _ _ Ot, w5, Ot5.load rfl, kp j (by omega) _, Ob5.load rfl, et _, Ob5.load rfl, et _, Ob5.load rfl, et _, fz, rfl⟩)⟩, Ob5.but B6 hbt, But.oth' (ho.trans B5.oth) B6 hle⟩
    | true =>
    have hlf := hr rfl
    have hx : 4 ≤ x ∧ x ≤ 7 := by unfold LeafOk at hlf; omega
    obtain ⟨v1, s', k1', e3, hsA, hkA, hc1, hi1, hv1, N6, k6⟩ := ih s1 (k + 1) (by omega) (by omega) (by omega) hs1
    by_cases qA : e3 = 0
    case neg =>
      have en : ∀ h : AHeap, OR.ok (.bool (ieq e3 0)) h = .ok (.bool false) h := fun h => obE (ieq_f qA)
      refine ⟨.imm [i64 x, i64 0, .str [], v1, .nilp, .nilp] 0, s', k1', e3, hsA, by omega, rfl, rfl, fun e => absurd e qA, N1 + N2 + N5 + N6 + 1, fun n hn h b O hb => ?_⟩
      · obtain ⟨j, rfl⟩ : ∃ j, n = j + 1 := ⟨n - 1, by omega⟩
        obtain ⟨h1, h2, a1, l1, c45, Ob, Ot, ho, hbt, hle, hlt⟩ := start j (by omega) h b O hb
        obtain ⟨g5, c1, Ob5, P5⟩ := k6 j (by omega) _ b Ob (by omega)
        have Ot5 := Ot.oth P5 (Ne.symm hbt) hlt
        obtain ⟨g6, w6, Ot6, B6⟩ := Ot5.store1 (o := 3) (v := v1) (by simp) hc1 hi1
        have Ob6 := Ob5.but B6 hbt
        obtain ⟨g7, fz, B7⟩ := Ot6.freeze
        have fin : ∃ h', ev (j + 1) 42 [.ptr b 0 0] h = .ok (.imm [i64 x, i64 0, .str [], v1, .nilp, .nilp] 0) h' ∧ h' = g7 := by
          refine Exists.intro g7 ⟨?_, rfl⟩
          by_cases q7 : x = 7
          · have e7 : partsN x = 3 := by rw [q7]; rfl
            rw [e7] at kp
            exact call_at (fl := fl42) (by omega) fun m' e => ⟨_, (by cases e; exact tm_p3a.mpr ⟨O.load rfl, a1, l1, lm h1, c45, Ob.load rfl, ne0 _, Ot.load rfl, obE (ieq_f q3), obE (ieq_f q1), obE (ieq_f q2), Ob.load rfl, ez _, k5 j (by omega) _ _ _ _ _ Ot, Ot.load rfl, kp j (by omega) _, Ob.load rfl, ez _, c1, w6, Ob6.load rfl, en _, Ob6.load rfl, en _, fz, rfl⟩)⟩
          · have e7 : partsN x = 2 := by unfold partsN; rw [if_pos (by omega)]
            rw [e7] at kp
            exact call_at (fl := fl42) (by omega) fun m' e => ⟨_, (by cases e; exact tm_p2a.mpr ⟨O.load rfl, a1, l1, lm h1, c45, Ob.load rfl, ne0 _, Ot.load rfl, obE (ieq_f q3), obE (ieq_f q1), obE (ieq_f q2), Ob.load rfl, ez _, k5 j (by omega) _ _ _ _ _ Ot, Ot.load rfl, kp j (by omega) _, Ob.load rfl, ez _, c1, w6, Ob6.load rfl, en _, Ob6.load rfl, en _, fz, rfl⟩)⟩
        obtain ⟨h', hev, rfl⟩ := fin
        exact ⟨_, hev, Ob6.but B7 hbt, But.oth' (But.oth' (ho.trans P5) B6 hle) B7 hle⟩
    subst qA
    obtain ⟨hkA3, tA, hvA, hbA, hhA⟩ := hv1 rfl
    obtain ⟨v2, s'', k2', e4, hsB, hkB, hc2, hi2, hv2, N7, k7⟩ := ih s' k1' (by omega) (by omega) (by omega) hsA
    by_cases q7 : x = 7
    case neg =>
      have e7 : partsN x = 2 := by unfold partsN; rw [if_pos (by omega)]
      rw [e7] at kp
      have htr : e4 = 0 → k2' ≤ 3000 ∧ ∃ t, AV.imm [i64 x, i64 0, .str [], v1, v2, .nilp] 0 = tw t ∧ Bd (2 ^ 30) t ∧ ht t ≤ 3000 - k := fun e => by
        obtain ⟨hkB3, tB, hvB, hbB, hhB⟩ := hv2 e
        refine ⟨hkB3, ?_⟩
        rw [hvA, hvB]
        rcases (show x = 4 ∨ x = 5 ∨ x = 6 by omega) with q | q | q <;> rw [q]
        · exact ⟨.pi tA tB, rfl, ⟨hbA, hbB⟩, by simp only [ht]; omega⟩
        · exact ⟨.lam tA tB, rfl, ⟨hbA, hbB⟩, by simp only [ht]; omega⟩
        · exact ⟨.app tA tB, rfl, ⟨hbA, hbB⟩, by simp only [ht]; omega⟩
      refine ⟨.imm [i64 x, i64 0, .str [], v1, v2, .nilp] 0, s'', k2', e4, hsB, by omega, rfl, rfl, htr, N1 + N2 + N5 + N6 + N7 + 1, fun n hn h b O hb => ?_⟩
      · obtain ⟨j, rfl⟩ : ∃ j, n = j + 1 := ⟨n - 1, by omega⟩
        obtain ⟨h1, h2, a1, l1, c45, Ob, Ot, ho, hbt, hle, hlt⟩ := start j (by omega) h b O hb
        obtain ⟨g5, c1, Ob5, P5⟩ := k6 j (by omega) _ b Ob (by omega)
        have Ot5 := Ot.oth P5 (Ne.symm hbt) hlt
        obtain ⟨g6, w6, Ot6, B6⟩ := Ot5.store1 (o := 3) (v := v1) (by simp) hc1 hi1
        have Ob6 := Ob5.but B6 hbt
        have hlt6 : h2.next < g6.next := by rw [B6.next]; exact Nat.lt_of_lt_of_le hlt P5.next
        obtain ⟨g7, c2, Ob7, P7⟩ := k7 j (by omega) g6 b Ob6 (by omega)
        have Ot7 := Ot6.oth P7 (Ne.symm hbt) hlt6
        obtain ⟨g8, w8, Ot8, B8⟩ := Ot7.store1 (o := 4) (v := v2) (by simp) hc2 hi2
        have Ob8 := Ob7.but B8 hbt
        obtain ⟨g9, fz, B9⟩ := Ot8.freeze
        refine ⟨g9, ?_, Ob8.but B9 hbt, But.oth' (But.oth' ((But.oth' (ho.trans P5) B6 hle).trans P7) B8 hle) B9 hle⟩
        cases q4 : ieq e4 0 with
        | true => exact call_at (fl := fl42) (by omega) fun m' e => ⟨_, (by cases e; exact tm_p2bt.mpr ⟨O.load rfl, a1, l1, lm h1, c45, Ob.load rfl, ne0 _, Ot.load rfl, obE (ieq_f q3), obE (ieq_f q1), obE (ieq_f q2), Ob.load rfl, ez _, k5 j (by omega) _ _ _ _ _ Ot, Ot.load rfl, kp j (by omega) _, Ob.load rfl, ez _, c1, w6, Ob6.load rfl, ez _, c2, w8, Ob8.load rfl, obE q4, fz, rfl⟩)⟩
        | false => exact call_at (fl := fl42) (by omega) fun m' e => ⟨_, (by cases e; exact tm_p2bf.mpr ⟨O.load rfl, a1, l1, lm h1, c45, Ob.load rfl, ne0 _, Ot.load rfl, obE (ieq_f q3), obE (ieq_f q1), obE (ieq_f q2), Ob.load rfl, ez _, k5 j (by omega) _ _ _ _ _ Ot, Ot.load rfl, kp j (by omega) _, Ob.load rfl, ez _, c1, w6, Ob6.load rfl, ez _, c2, w8, Ob8.load rfl, obE q4, fz, rfl⟩)⟩
    have e7 : partsN x = 3 := by rw [q7]; rfl
    rw [e7] at kp
    by_cases qB : e4 = 0
    case neg =>
      have en : ∀ h : AHeap, OR.ok (.bool (ieq e4 0)) h = .ok (.bool false) h := fun h => obE (ieq_f qB)
      refine ⟨.imm [i64 x, i64 0, .str [], v1, v2, .nilp] 0, s'', k2', e4, hsB, by omega, rfl, rfl, fun e => absurd e qB, N1 + N2 + N5 + N6 + N7 + 1, fun n hn h b O hb => ?_⟩
      · obtain ⟨j, rfl⟩ : ∃ j, n = j + 1 := ⟨n - 1, by omega⟩
        obtain ⟨h1, h2, a1, l1, c45, Ob, Ot, ho, hbt, hle, hlt⟩ := start j (by omega) h b O hb
        obtain ⟨g5, c1, Ob5, P5⟩ := k6 j (by omega) _ b Ob (by omega)
        have Ot5 := Ot.oth P5 (Ne.symm hbt) hlt
        obtain ⟨g6, w6, Ot6, B6⟩ := Ot5.store1 (o := 3) (v := v1) (by simp) hc1 hi1
        have Ob6 := Ob5.but B6 hbt
        have hlt6 : h2.next < g6.next := by rw [B6.next]; exact Nat.lt_of_lt_of_le hlt P5.next
        obtain ⟨g7, c2, Ob7, P7⟩ := k7 j (by omega) g6 b Ob6 (by omega)
        have Ot7 := Ot6.oth P7 (Ne.symm hbt) hlt6
        obtain ⟨g8, w8, Ot8, B8⟩ := Ot7.store1 (o := 4) (v := v2) (by simp) hc2 hi2
        have Ob8 := Ob7.but B8 hbt
        obtain ⟨g9, fz, B9⟩ := Ot8.freeze
        refine ⟨g9, ?_, Ob8.but B9 hbt, But.oth' (But.oth' ((But.oth' (ho.trans P5) B6 hle).trans P7) B8 hle) B9 hle⟩
        exact call_at (fl := fl42) (by omega) fun m' e => ⟨_, (by cases e; exact tm_p3b.mpr ⟨O.load rfl, a1, l1, lm h1, c45, Ob.load rfl, ne0 _, Ot.load rfl, obE (ieq_f q3), obE (ieq_f q1), obE (ieq_f q2), Ob.load rfl, ez _, k5 j (by omega) _ _ _ _ _ Ot, Ot.load rfl, kp j (by omega) _, Ob.load rfl, ez _, c1, w6, Ob6.load rfl, ez _, c2, w8, Ob8.load rfl, en _, fz, rfl⟩)⟩
    subst qB
    obtain ⟨hkB3, tB, hvB, hbB, hhB⟩ := hv2 rfl
    obtain ⟨v3, s3, k3', e5, hsC, hkC, hc3, hi3, hv3, N8, k8⟩ := ih s'' k2' (by omega) (by omega) (by omega) hsB
    have htr : e5 = 0 → k3' ≤ 3000 ∧ ∃ t, AV.imm [i64 x, i64 0, .str [], v1, v2, v3] 0 = tw t ∧ Bd (2 ^ 30) t ∧ ht t ≤ 3000 - k := fun e => by
      obtain ⟨hkC3, tC, hvC, hbC, hhC⟩ := hv3 e
      refine ⟨hkC3, ?_⟩
      rw [hvA, hvB, hvC, q7]
      exact ⟨.lett tA tB tC, rfl, ⟨hbA, hbB, hbC⟩, by simp only [ht]; omega⟩
    refine ⟨.imm [i64 x, i64 0, .str [], v1, v2, v3] 0, s3, k3', e5, hsC, by omega, rfl, rfl, htr, N1 + N2 + N5 + N6 + N7 + N8 + 1, fun n hn h b O hb => ?_⟩
    · obtain ⟨j, rfl⟩ : ∃ j, n = j + 1 := ⟨n - 1, by omega⟩
      obtain ⟨h1, h2, a1, l1, c45, Ob, Ot, ho, hbt, hle, hlt⟩ := start j (by omega) h b O hb
      obtain ⟨g5, c1, Ob5, P5⟩ := k6 j (by omega) _ b Ob (by omega)
      have Ot5 := Ot.oth P5 (Ne.symm hbt) hlt
      obtain ⟨g6, w6, Ot6, B6⟩ := Ot5.store1 (o := 3) (v := v1) (by simp) hc1 hi1
      have Ob6 := Ob5.but B6 hbt
      have hlt6 : h2.next < g6.next := by rw [B6.next]; exact Nat.lt_of_lt_of_le hlt P5.next
      obtain ⟨g7, c2, Ob7, P7⟩ := k7 j (by omega) g6 b Ob6 (by omega)
      have Ot7 := Ot6.oth P7 (Ne.symm hbt) hlt6
      obtain ⟨g8, w8, Ot8, B8⟩ := Ot7.store1 (o := 4) (v := v2) (by simp) hc2 hi2
      have Ob8 := Ob7.but B8 hbt
      have hlt8 : h2.next < g8.next := by rw [B8.next]; exact Nat.lt_of_lt_of_le hlt6 P7.next
      obtain ⟨g9, c3, Ob9, P9⟩ := k8 j (by omega) g8 b Ob8 (by omega)
      have Ot9 := Ot8.oth P9 (Ne.symm hbt) hlt8
      obtain ⟨g10, w10, Ot10, B10⟩ := Ot9.store1 (o := 5) (v := v3) (by simp) hc3 hi3
      have Ob10 := Ob9.but B10 hbt
      obtain ⟨g11, fz, B11⟩ := Ot10.freeze
      refine ⟨g11, ?_, Ob10.but B11 hbt, But.oth' (But.oth' ((But.oth' ((But.oth' (ho.trans P5) B6 hle).trans P7) B8 hle).trans P9) B10 hle) B11 hle⟩
      exact call_at (fl := fl42) (by omega) fun m' e => ⟨_, (by cases e; exact tm_p3c.mpr ⟨O.load rfl, a1, l1, lm h1, c45, Ob.load rfl, ne0 _, Ot.load rfl, obE (ieq_f q3), obE (ieq_f q1), obE (ieq_f q2), Ob.load rfl, ez _, k5 j (by omega) _ _ _ _ _ Ot, Ot.load rfl, kp j (by omega) _, Ob.load rfl, ez _, c1, w6, Ob6.load rfl, ez _, c2, w8, Ob8.load rfl, ez _, c3, w10, fz, rfl⟩)⟩
end Go.Vd

namespace Go.Vd
open Go Go.RowKit
/-- The start: nothing is known yet. -/
def G0 : Gh := ⟨fun _ => none, fun _ _ => none⟩
def heap0 : AHeap := ⟨0, .nil⟩
theorem Rel.start (W : World) : Rel W.heap.size W G0 heap0 W := by
  refine ⟨Below.refl _ _, Nat.le_refl _, ?_, ?_, ?_, fun b _ => ⟨rfl, fun _ => rfl⟩, ?_, ?_, ?_, ?_⟩
  · intro c b vs h; cases h
  · intro b A h; cases h
  · intro b es h; cases h
  · intro b g p _ h; cases h
  · intro b A g g' p p' h; cases h
  · intro b A g h; cases h
  · intro b g p b' g' p' _ _ h; cases h
/-- A law that tells true. -/
theorem true_of_ev {P : Program} {H : Hints} (hH : ∀ b, H.glob b = none) {f N : Nat} {args : List AV} {h' : AHeap} (e : evF (compFunc P H) N f args heap0 = .ok (.bool true) h') (W : World) (vs : Array Value) (V : VRels G0 args vs.toList) :
    Calls P f vs W fun e w' => e = .returned (.bool true) ∧ Below W.heap.size W w' := by
  have k := evF_ok (P := P) (H := H) (compFunc P H) (fun _ _ h => h) N f args heap0 W.heap.size W G0 W vs (Rel.start W) V (fun b cs h => by rw [hH] at h; cases h)
  rw [e] at k
  refine Calls.mono k fun e w' ⟨G', v', h1, S, hv⟩ => ?_
  cases hv
  exact ⟨h1, S.rel.below⟩
end Go.Vd
namespace Go.Proofs.Ytcafdimefhdfnaa
open Go.ChangeShapes Go.WideShapes Go.ChangeAt Go.RowKit
theorem Try.own : ownKnob Try.prog.godebug = none := by kernel_rfl
theorem Try.laidOut : laidOutB Try.prog = true := by kernel_rfl
set_option maxRecDepth 100000 in
theorem binds_lifted (HB : ∀ s t : ByteArray, ∃ N h', Go.Vd.evF (Go.Vd.compFunc Try.prog Go.Vd.H1) N 5 [.str (Go.Vd.bytesN s), .str (Go.Vd.bytesN t)] Go.Vd.heap0 = .ok (.bool true) h')
    (os : Os) (started : os.Started) (H : Type) (enc : TypeId × Value → H) :
    ReturnsInHanded {} Try.checked os 5 .any (Rows.shiftBindsSpec.pre6 enc Try.prog Try.f5 Rows.shiftBindsRow.domain false) (Rows.shiftBindsSpec.post enc Try.prog Try.f5 false true false false) := by
  refine returnsInHanded_of_change (C := Try.checked) Try.own started (by kernel_rfl) Try.func5
    (ChangeSpec.witness6 (enc := enc) (C := Try.checked) false ⟨#[], #[.string ⟨#[]⟩, .string ⟨#[]⟩], []⟩ 8 (by kernel_rfl) (by kernel_rfl) (by kernel_rfl) (by kernel_rfl)) ?_
  intro W base args ds gs before hval0 hW hcnd _
  have hval : ∀ (j : Nat) t v, Try.f5.params[j]? = some t → args[j]? = some v → Value.okWide Try.prog W .any base t v := hval0
  have hW' := hW
  obtain ⟨p, q, hA0, hV, rfl, hfz, hnd⟩ := hW
  have hA : DataW.TrodAll enc Try.prog W 0 (fun _ => true) true Try.f5.params.toList args.toList ds p := hA0
  rw [Try.params5] at hA hval
  obtain ⟨v0, v1, d0, d1, p0, p1, rfl, rfl, rfl, h0, h1⟩ := trodAll_two hA
  obtain ⟨rfl, rfl⟩ := trodVars_none hV
  obtain ⟨a, rfl, rfl, rfl, la⟩ := Go.ChangeMaps.open_string Try.underlying9 (hval 0 9 v0 rfl rfl) h0
  obtain ⟨b, rfl, rfl, rfl, lb⟩ := Go.ChangeMaps.open_string Try.underlying9 (hval 1 9 v1 rfl rfl) h1
  clear hA0 hval0
  simp only [List.append_nil] at hW'
  obtain ⟨N, h', e⟩ := HB a b
  refine (Go.Vd.true_of_ev (fun _ => rfl) e W #[.string a, .string b] (.cons (.str a) (.cons (.str b) .nil))).mono fun e W' ⟨he, hw⟩ => ?_
  subst he
  refine ⟨_, rfl, _, _, _, [], _, [], hW', trodAll_mk1 (shut_bool (by kernel_rfl) _), trodAll_mk2 (Go.ChangeMaps.shut_string Try.underlying9 la) (Go.ChangeMaps.shut_string Try.underlying9 lb), rfl, hw.frame _, fun h => by cases h⟩
theorem binds_holds (HB : ∀ s t : ByteArray, ∃ N h', Go.Vd.evF (Go.Vd.compFunc Try.prog Go.Vd.H1) N 5 [.str (Go.Vd.bytesN s), .str (Go.Vd.bytesN t)] Go.Vd.heap0 = .ok (.bool true) h') : Rows.ShiftBindsSaid :=
  OpenClaim.holds_of_wide 5 Try.f5 rfl rfl rfl rfl rfl rfl rfl ⟨rfl, rfl, rfl, rfl, rfl⟩ rfl rfl rfl rfl rfl (by kernel_rfl) Try.func5 (by kernel_rfl)
    (of_decide_eq_true (by kernel_rfl)) (by unfold Func.isWrapper; rw [if_neg (by decide +kernel)]; exact ⟨rfl, rfl⟩)
    (fun os started H enc _ => binds_lifted HB os started H enc)
end Go.Proofs.Ytcafdimefhdfnaa

namespace Go.Vd
open Go Go.RowKit Go.Proofs
set_option maxRecDepth 100000
/-- What help.Term tells of bytes, and what was there stays. -/
def TermX (s : List Nat) : Prop := (∃ N, ∀ n, N ≤ n → ∀ h, ∃ h', ev n 9 [.str s] h = .ok .nilp h' ∧ Ext h h') ∨ ∃ t, Bd (2 ^ 30) t ∧ ht t ≤ 3000 ∧ ∃ N, ∀ n, N ≤ n → ∀ h, ∃ h', ev n 9 [.str s] h = .ok (tw t) h' ∧ Ext h h'
theorem Oth.ext {h h1 h2 : AHeap} (E : Ext h h1) (P : Oth h.next h1 h2) (hn : h.next ≤ h1.next) : Ext h h2 := ⟨Nat.le_trans hn P.next, fun i hi => (P.old i (by omega) (by omega)).trans (E.old i hi)⟩
theorem termX {s : List Nat} (hs : By s) : TermX s := by
  obtain ⟨v, s', k', e', hs', hk, hc, hi, hv, N, K⟩ := term_ok 3001 s 0 (by omega) (by omega) (by omega) hs
  have rd : ∀ n, N ≤ n → ∀ h, ∃ h2, ev n 42 [.ptr h.next 0 0] (h.alloc [.str s, i64 0, i64 0]) = .ok v h2 ∧ Own h2 h.next [.str s', i64 k', i64 e'] ∧ Ext h h2 := fun n hn h => by
    obtain ⟨h2, e, O, P⟩ := K n hn (h.alloc [.str s, i64 0, i64 0]) h.next (own_alloc h _) (by rw [alloc_next]; omega)
    exact ⟨h2, e, O, P.ext (ext_alloc h _) (by rw [alloc_next]; omega)⟩
  have te : ∀ (w : AV) (rr : List Nat) (e : Int), (∀ n, N + 1 ≤ n → ∀ h, ∃ h2, ev n 28 [.str s] h = .ok (.tup [w, .str rr, i64 e]) h2 ∧ Ext h h2) → (e ≠ 0 ∨ rr ≠ [] → ∀ n, N + 2 ≤ n → ∀ h, ∃ h', ev n 9 [.str s] h = .ok .nilp h' ∧ Ext h h') ∧
      (e = 0 → rr = [] → ∀ n, N + 2 ≤ n → ∀ h, ∃ h', ev n 9 [.str s] h = .ok w h' ∧ Ext h h') := fun w rr e k28 => by
    refine ⟨fun q n hn h => ?_, fun q1 q2 n hn h => ?_⟩
    · obtain ⟨j, rfl⟩ : ∃ j, n = j + 1 := ⟨n - 1, by omega⟩
      obtain ⟨h2, c, E⟩ := k28 j (by omega) h
      by_cases q0 : e = 0
      · exact ⟨h2, goes_call (flL [(2, 1), (2, 4)]) (te_2.mpr ⟨c, obE (by rw [ieq_t q0]; rfl), obE (by rw [seq_iff, decide_eq_false (by rcases q with q | q; exact absurd q0 q; exact q)]; rfl), rfl⟩) (by simp), E⟩
      · exact ⟨h2, goes_call (flL [(2, 1), (2, 4)]) (te_1.mpr ⟨c, obE (by rw [ieq_f q0]; rfl), rfl⟩) (by simp), E⟩
    · obtain ⟨j, rfl⟩ : ∃ j, n = j + 1 := ⟨n - 1, by omega⟩
      obtain ⟨h2, c, E⟩ := k28 j (by omega) h
      exact ⟨h2, goes_call (flL [(2, 1), (2, 4)]) (te_3.mpr ⟨c, obE (by rw [ieq_t q1]; rfl), obE (by rw [seq_iff, decide_eq_true q2]; rfl), rfl⟩) (by cases w <;> simp), E⟩
  by_cases q : e' = 0
  · have r28 : ∀ n, N + 1 ≤ n → ∀ h, ∃ h2, ev n 28 [.str s] h = .ok (.tup [v, .str s', i64 0]) h2 ∧ Ext h h2 := fun n hn h => by
      obtain ⟨j, rfl⟩ : ∃ j, n = j + 1 := ⟨n - 1, by omega⟩
      obtain ⟨h2, c, O, E⟩ := rd j (by omega) h
      exact ⟨h2, goes_call (flL [(3, 3), (3, 4), (4, 4), (5, 4)]) (rd_2.mpr ⟨c, O.load rfl, obE (by rw [ieq_t q]; rfl), O.load rfl, rfl⟩) (by simp), E⟩
    obtain ⟨hk3, t, hvt, hb, hh⟩ := hv q
    obtain ⟨k1, k2⟩ := te v s' 0 r28
    by_cases q2 : s' = []
    · exact .inr ⟨t, hb, by omega, N + 2, by rw [← hvt]; exact k2 rfl q2⟩
    · exact .inl ⟨N + 2, k1 (.inr q2)⟩
  · have r28 : ∀ n, N + 1 ≤ n → ∀ h, ∃ h2, ev n 28 [.str s] h = .ok (.tup [.nilp, .str s, i64 e']) h2 ∧ Ext h h2 := fun n hn h => by
      obtain ⟨j, rfl⟩ : ∃ j, n = j + 1 := ⟨n - 1, by omega⟩
      obtain ⟨h2, c, O, E⟩ := rd j (by omega) h
      exact ⟨h2, goes_call (flL [(3, 3), (3, 4), (4, 4), (5, 4)]) (rd_1.mpr ⟨c, O.load rfl, obE (by rw [ieq_f q]; rfl), O.load rfl, rfl⟩) (by simp), E⟩
    exact .inl ⟨N + 2, (te .nilp s e' r28).1 (.inl q)⟩
theorem by_bytes (b : ByteArray) : By (bytesN b) := fun c hc => by
  unfold bytesN at hc
  obtain ⟨x, _, rfl⟩ := List.mem_map.1 hc
  exact UInt8.toNat_lt x
theorem TermX.s {s : List Nat} (h : TermX s) : TermS s := by
  rcases h with ⟨N, k⟩ | ⟨t, hb, hh, N, k⟩
  · exact .inl ⟨N, fun n hn h => let ⟨h', e, _⟩ := k n hn h; ⟨h', e⟩⟩
  · exact .inr ⟨t, hb, by omega, N, fun n hn h => let ⟨h', e, _⟩ := k n hn h; ⟨h', e⟩⟩
end Go.Vd
namespace Go.Proofs.Ytcafdimefhdfnaa
open Go.Vd in
theorem binds : Rows.ShiftBindsSaid := binds_holds fun s _ => binds_ev (fun s => ⟨_, ok_name s⟩) _ _ (termX (by_bytes s)).s
end Go.Proofs.Ytcafdimefhdfnaa

namespace Go.Vd
open Go Go.RowKit Go.Proofs
set_option maxRecDepth 100000
set_option maxHeartbeats 0
noncomputable abbrev capN (a : Int) : List AV := [.imm [i64 a] 0, .imm [.nils] 0]
noncomputable abbrev sz3 (k m : Int) (s : List Nat) (a b c : AV) : AV := .imm [i64 k, i64 m, .str s, a, b, c] 0
theorem cn_a {cf : CallF} {n : Nat} {h : AHeap} {m : Int} {k : Int} {a : Int} : (stepI Try.prog H1 (flL [(2, 7), (4, 3), (5, 6), (5, 7)]) 44 cf n [.imm (vc m) 0, i64 k, .imm [i64 a] 0, .imm [.nils] 0] h).Goes [.ok (.bool true) h] (.ok .nilp h) =
  (OR.ok (.bool (ilt (nn m k a) 0)) h = .ok (.bool true) h ∧ (.ok .nilp h : OR) = (.ok .nilp h)) := by kernel_rfl
theorem cn_c {cf : CallF} {n : Nat} {h : AHeap} {m : Int} {k : Int} {a : Int} {x : AV} : (stepI Try.prog H1 (flL [(2, 7), (4, 3), (5, 6), (5, 7)]) 44 cf n [.imm (vc m) 0, i64 k, .imm [i64 a] 0, .imm [.nils] 0] h).Goes [.ok (.bool false) h, .ok (.bool false) h, .ok x h] (.ok x h) =
  (OR.ok (.bool (ilt (nn m k a) 0)) h = .ok (.bool false) h ∧ OR.ok (.bool (ilt (nn m k a) (Int.ofNat 0))) h = .ok (.bool false) h ∧ cf 32 [i64 (wrapK .i64 (m - 0))] h = .ok x h ∧ (.ok x h : OR) = (.ok x h)) := by kernel_rfl
theorem cn_d (n : Nat) (h : AHeap) (s : List Nat) (m k a : Int) : ev (n + 1) 44 (.imm (kc s m) 0 :: i64 k :: capN a) h = .ok .nilp h := by kernel_rfl
theorem putsn {cf : CallF} {n : Nat} {h : AHeap} {h2 : AHeap} {a : Int} {x : AV} {t : AV} : (stepI Try.prog H1 fl0 35 cf n [t, .nils, i64 a] h).Goes [.ok x h2] (.ok x h2) =
  (cf 30 [t, i64 0, .func 44 (capN a)] h = .ok x h2 ∧ (.ok x h2 : OR) = (.ok x h2)) := by kernel_rfl
theorem sz_1 {cf : CallF} {n : Nat} {h : AHeap} {most : Int} : (stepI Try.prog H1 (flL [(1, 4)]) 43 cf n [.nilp, i64 most] h).Goes [] (.ok (i64 0) h) =
  ((.ok (i64 0) h : OR) = (.ok (i64 0) h)) := by kernel_rfl
theorem sz_2 {cf : CallF} {n : Nat} {h : AHeap} {m : Int} {k : Int} {most : Int} {s : List Nat} {a : AV} {b : AV} {c : AV} : (stepI Try.prog H1 (flL [(1, 4)]) 43 cf n [sz3 k m s a b c, i64 most] h).Goes [.ok (.bool true) h] (.ok (i64 0) h) =
  (OR.ok (.bool (!(ilt 0 most))) h = .ok (.bool true) h ∧ (.ok (i64 0) h : OR) = (.ok (i64 0) h)) := by kernel_rfl
theorem sz_3 {cf : CallF} {n : Nat} {h : AHeap} {m : Int} {k : Int} {most : Int} {s : List Nat} {a : AV} {b : AV} {c : AV} {r1 : Int} {r2 : Int} {r3 : Int} : (stepI Try.prog H1 (flL [(1, 4)]) 43 cf n [sz3 k m s a b c, i64 most] h).Goes [.ok (.bool false) h, .ok (i64 r1) h, .ok (i64 r2) h, .ok (i64 r3) h] (.ok (i64 (wrapK .i64 ((wrapK .i64 ((wrapK .i64 (1 + r1)) + r2)) + r3))) h) =
  (OR.ok (.bool (!(ilt 0 most))) h = .ok (.bool false) h ∧ cf 43 [a, i64 (wrapK .i64 (most - 1))] h = .ok (i64 r1) h ∧ cf 43 [b, i64 (wrapK .i64 (most - (wrapK .i64 (1 + r1))))] h = .ok (i64 r2) h ∧ cf 43 [c, i64 (wrapK .i64 (most - (wrapK .i64 ((wrapK .i64 (1 + r1)) + r2))))] h = .ok (i64 r3) h ∧ (.ok (i64 (wrapK .i64 ((wrapK .i64 ((wrapK .i64 (1 + r1)) + r2)) + r3))) h : OR) = (.ok (i64 (wrapK .i64 ((wrapK .i64 ((wrapK .i64 (1 + r1)) + r2)) + r3))) h)) := by kernel_rfl
theorem size29 {cf : CallF} {n : Nat} {h : AHeap} {t : AV} {r1 : Int} : (stepI Try.prog H1 fl0 29 cf n [t] h).Goes [.ok (i64 r1) h] (.ok (i64 r1) h) =
  (cf 43 [t, i64 3001] h = .ok (i64 r1) h ∧ (.ok (i64 r1) h : OR) = (.ok (i64 r1) h)) := by kernel_rfl
theorem light10 {cf : CallF} {n : Nat} {h : AHeap} {t : AV} {u : AV} {v : AV} {r1 : Int} {r2 : Int} {r3 : Int} {r : Bool} : (stepI Try.prog H1 (flL [(1, 8)]) 10 cf n [t, u, v] h).Goes [.ok (i64 r1) h, .ok (i64 r2) h, .ok (i64 r3) h, .ok (.bool r) h] (.ok (.bool r) h) =
  (cf 29 [t] h = .ok (i64 r1) h ∧ cf 29 [u] h = .ok (i64 r2) h ∧ cf 29 [v] h = .ok (i64 r3) h ∧ OR.ok (.bool (!(ilt 2000000 (wrapK .i64 (wrapK .i64 (r1 * r2) * r3))))) h = .ok (.bool r) h ∧ (.ok (.bool r) h : OR) = (.ok (.bool r) h)) := by kernel_rfl
theorem sw_n1 {cf : CallF} {n : Nat} {h : AHeap} {h1 : AHeap} {h2 : AHeap} {h3 : AHeap} {h4 : AHeap} {s : AV} {u : AV} {w : AV} {v2 : AV} {v3 : AV} : (stepI Try.prog H1 fl0 7 cf n [s, u, w] h).Goes [.ok (.bool true) h1, .ok .nilp h2, .ok v2 h3, .ok v3 h4] (.ok (.bool true) h4) =
  (cf 8 [] h = .ok (.bool true) h1 ∧ cf 9 [s] h1 = .ok .nilp h2 ∧ cf 9 [u] h2 = .ok v2 h3 ∧ cf 9 [w] h3 = .ok v3 h4 ∧ (.ok (.bool true) h4 : OR) = (.ok (.bool true) h4)) := by kernel_rfl
theorem sw_n2 {cf : CallF} {n : Nat} {h : AHeap} {h1 : AHeap} {h2 : AHeap} {h3 : AHeap} {h4 : AHeap} {s : AV} {u : AV} {w : AV} {v3 : AV} {x1 : List AV} : (stepI Try.prog H1 fl0 7 cf n [s, u, w] h).Goes [.ok (.bool true) h1, .ok (.imm x1 0) h2, .ok .nilp h3, .ok v3 h4] (.ok (.bool true) h4) =
  (cf 8 [] h = .ok (.bool true) h1 ∧ cf 9 [s] h1 = .ok (.imm x1 0) h2 ∧ cf 9 [u] h2 = .ok .nilp h3 ∧ cf 9 [w] h3 = .ok v3 h4 ∧ (.ok (.bool true) h4 : OR) = (.ok (.bool true) h4)) := by kernel_rfl
theorem sw_n3 {cf : CallF} {n : Nat} {h : AHeap} {h1 : AHeap} {h2 : AHeap} {h3 : AHeap} {h4 : AHeap} {s : AV} {u : AV} {w : AV} {x1 : List AV} {x2 : List AV} : (stepI Try.prog H1 fl0 7 cf n [s, u, w] h).Goes [.ok (.bool true) h1, .ok (.imm x1 0) h2, .ok (.imm x2 0) h3, .ok .nilp h4] (.ok (.bool true) h4) =
  (cf 8 [] h = .ok (.bool true) h1 ∧ cf 9 [s] h1 = .ok (.imm x1 0) h2 ∧ cf 9 [u] h2 = .ok (.imm x2 0) h3 ∧ cf 9 [w] h3 = .ok .nilp h4 ∧ (.ok (.bool true) h4 : OR) = (.ok (.bool true) h4)) := by kernel_rfl
theorem sw_l {cf : CallF} {n : Nat} {h : AHeap} {h1 : AHeap} {h2 : AHeap} {h3 : AHeap} {h4 : AHeap} {h5 : AHeap} {s : AV} {u : AV} {w : AV} {x1 : List AV} {x2 : List AV} {x3 : List AV} : (stepI Try.prog H1 fl0 7 cf n [s, u, w] h).Goes [.ok (.bool true) h1, .ok (.imm x1 0) h2, .ok (.imm x2 0) h3, .ok (.imm x3 0) h4, .ok (.bool false) h5] (.ok (.bool true) h5) =
  (cf 8 [] h = .ok (.bool true) h1 ∧ cf 9 [s] h1 = .ok (.imm x1 0) h2 ∧ cf 9 [u] h2 = .ok (.imm x2 0) h3 ∧ cf 9 [w] h3 = .ok (.imm x3 0) h4 ∧ cf 10 [.imm x1 0, .imm x2 0, .imm x3 0] h4 = .ok (.bool false) h5 ∧ (.ok (.bool true) h5 : OR) = (.ok (.bool true) h5)) := by kernel_rfl
theorem sw_t {cf : CallF} {n : Nat} {h : AHeap} {h1 : AHeap} {h2 : AHeap} {h3 : AHeap} {h4 : AHeap} {h5 : AHeap} {h6 : AHeap} {h7 : AHeap} {h8 : AHeap} {h9 : AHeap} {h10 : AHeap} {h11 : AHeap} {h12 : AHeap} {s : AV} {u : AV} {w : AV} {x1 : List AV} {x2 : List AV} {x3 : List AV} {a1 : AV} {a2 : AV} {a3 : AV} {a4 : AV} {a5 : AV} {a6 : AV} : (stepI Try.prog H1 fl0 7 cf n [s, u, w] h).Goes [.ok (.bool true) h1, .ok (.imm x1 0) h2, .ok (.imm x2 0) h3, .ok (.imm x3 0) h4, .ok (.bool true) h5, .ok a1 h6, .ok a2 h7, .ok a3 h8, .ok a4 h9, .ok a5 h10, .ok a6 h11, .ok (.bool true) h12] (.ok (.bool true) h12) =
  (cf 8 [] h = .ok (.bool true) h1 ∧ cf 9 [s] h1 = .ok (.imm x1 0) h2 ∧ cf 9 [u] h2 = .ok (.imm x2 0) h3 ∧ cf 9 [w] h3 = .ok (.imm x3 0) h4 ∧ cf 10 [.imm x1 0, .imm x2 0, .imm x3 0] h4 = .ok (.bool true) h5 ∧ cf 15 [.imm x1 0, .imm x2 0, i64 0] h5 = .ok a1 h6 ∧ cf 15 [a1, .imm x3 0, i64 0] h6 = .ok a2 h7 ∧ cf 13 [.imm x3 0, i64 1, i64 0] h7 = .ok a3 h8 ∧ cf 15 [.imm x1 0, a3, i64 1] h8 = .ok a4 h9 ∧ cf 15 [.imm x2 0, .imm x3 0, i64 0] h9 = .ok a5 h10 ∧ cf 15 [a4, a5, i64 0] h10 = .ok a6 h11 ∧ cf 12 [a2, a6] h11 = .ok (.bool true) h12 ∧ (.ok (.bool true) h12 : OR) = (.ok (.bool true) h12)) := by kernel_rfl
theorem bk_n1 {cf : CallF} {n : Nat} {h : AHeap} {h1 : AHeap} {h2 : AHeap} {h3 : AHeap} {h4 : AHeap} {s : AV} {u : AV} {w : AV} {v2 : AV} {v3 : AV} : (stepI Try.prog H1 fl0 4 cf n [s, u, w] h).Goes [.ok (.bool true) h1, .ok .nilp h2, .ok v2 h3, .ok v3 h4] (.ok (.bool true) h4) =
  (cf 8 [] h = .ok (.bool true) h1 ∧ cf 9 [s] h1 = .ok .nilp h2 ∧ cf 9 [u] h2 = .ok v2 h3 ∧ cf 9 [w] h3 = .ok v3 h4 ∧ (.ok (.bool true) h4 : OR) = (.ok (.bool true) h4)) := by kernel_rfl
theorem bk_n2 {cf : CallF} {n : Nat} {h : AHeap} {h1 : AHeap} {h2 : AHeap} {h3 : AHeap} {h4 : AHeap} {s : AV} {u : AV} {w : AV} {v3 : AV} {x1 : List AV} : (stepI Try.prog H1 fl0 4 cf n [s, u, w] h).Goes [.ok (.bool true) h1, .ok (.imm x1 0) h2, .ok .nilp h3, .ok v3 h4] (.ok (.bool true) h4) =
  (cf 8 [] h = .ok (.bool true) h1 ∧ cf 9 [s] h1 = .ok (.imm x1 0) h2 ∧ cf 9 [u] h2 = .ok .nilp h3 ∧ cf 9 [w] h3 = .ok v3 h4 ∧ (.ok (.bool true) h4 : OR) = (.ok (.bool true) h4)) := by kernel_rfl
theorem bk_n3 {cf : CallF} {n : Nat} {h : AHeap} {h1 : AHeap} {h2 : AHeap} {h3 : AHeap} {h4 : AHeap} {s : AV} {u : AV} {w : AV} {x1 : List AV} {x2 : List AV} : (stepI Try.prog H1 fl0 4 cf n [s, u, w] h).Goes [.ok (.bool true) h1, .ok (.imm x1 0) h2, .ok (.imm x2 0) h3, .ok .nilp h4] (.ok (.bool true) h4) =
  (cf 8 [] h = .ok (.bool true) h1 ∧ cf 9 [s] h1 = .ok (.imm x1 0) h2 ∧ cf 9 [u] h2 = .ok (.imm x2 0) h3 ∧ cf 9 [w] h3 = .ok .nilp h4 ∧ (.ok (.bool true) h4 : OR) = (.ok (.bool true) h4)) := by kernel_rfl
theorem bk_l {cf : CallF} {n : Nat} {h : AHeap} {h1 : AHeap} {h2 : AHeap} {h3 : AHeap} {h4 : AHeap} {h5 : AHeap} {s : AV} {u : AV} {w : AV} {x1 : List AV} {x2 : List AV} {x3 : List AV} : (stepI Try.prog H1 fl0 4 cf n [s, u, w] h).Goes [.ok (.bool true) h1, .ok (.imm x1 0) h2, .ok (.imm x2 0) h3, .ok (.imm x3 0) h4, .ok (.bool false) h5] (.ok (.bool true) h5) =
  (cf 8 [] h = .ok (.bool true) h1 ∧ cf 9 [s] h1 = .ok (.imm x1 0) h2 ∧ cf 9 [u] h2 = .ok (.imm x2 0) h3 ∧ cf 9 [w] h3 = .ok (.imm x3 0) h4 ∧ cf 10 [.imm x1 0, .imm x2 0, .imm x3 0] h4 = .ok (.bool false) h5 ∧ (.ok (.bool true) h5 : OR) = (.ok (.bool true) h5)) := by kernel_rfl
theorem bk_t {cf : CallF} {n : Nat} {h : AHeap} {h1 : AHeap} {h2 : AHeap} {h3 : AHeap} {h4 : AHeap} {h5 : AHeap} {h6 : AHeap} {h7 : AHeap} {h8 : AHeap} {h9 : AHeap} {h10 : AHeap} {h11 : AHeap} {h12 : AHeap} {h13 : AHeap} {h14 : AHeap} {h15 : AHeap} {h16 : AHeap} {h17 : AHeap} {h18 : AHeap} {h19 : AHeap} {s : AV} {u : AV} {w : AV} {x1 : List AV} {x2 : List AV} {x3 : List AV} {a1 : AV} {a2 : AV} {a3 : AV} {a4 : AV} {a5 : AV} {a6 : AV} {a7 : AV} {a8 : AV} {a9 : AV} {a10 : AV} {fr : Int} : (stepI Try.prog H1 fl0 4 cf n [s, u, w] h).Goes [.ok (.bool true) h1, .ok (.imm x1 0) h2, .ok (.imm x2 0) h3, .ok (.imm x3 0) h4, .ok (.bool true) h5, .ok a1 h6, .ok a2 h7, .ok a3 h8, .ok a4 h9, .ok a5 h10, .ok a6 h11, .ok a7 h12, .ok a8 h13, .ok (i64 fr) h14, .ok a9 h15, .ok (.bool true) h16, .ok a10 h17, .ok (.bool true) h18, .ok (.bool true) h19, .ok (.bool true) h19] (.ok (.bool true) h19) =
  (cf 8 [] h = .ok (.bool true) h1 ∧ cf 9 [s] h1 = .ok (.imm x1 0) h2 ∧ cf 9 [u] h2 = .ok (.imm x2 0) h3 ∧ cf 9 [w] h3 = .ok (.imm x3 0) h4 ∧ cf 10 [.imm x1 0, .imm x2 0, .imm x3 0] h4 = .ok (.bool true) h5 ∧ cf 13 [.imm x1 0, i64 1, i64 0] h5 = .ok a1 h6 ∧ cf 15 [a1, .imm x2 0, i64 0] h6 = .ok a2 h7 ∧ cf 13 [.imm x1 0, i64 2, i64 0] h7 = .ok a3 h8 ∧ cf 13 [a3, i64 3, i64 1] h8 = .ok a4 h9 ∧ cf 19 [.imm x1 0, .fl [.imm x2 0, .imm x3 0] 0 2 1 true] h9 = .ok a5 h10 ∧ cf 13 [.imm x3 0, i64 1, i64 0] h10 = .ok a6 h11 ∧ cf 15 [.imm x1 0, a6, i64 0] h11 = .ok a7 h12 ∧ cf 15 [a7, .imm x2 0, i64 0] h12 = .ok a8 h13 ∧ cf 21 [.imm x1 0] h13 = .ok (i64 fr) h14 ∧ cf 15 [.imm x1 0, .imm x2 0, i64 fr] h14 = .ok a9 h15 ∧ cf 12 [a2, .imm x1 0] h15 = .ok (.bool true) h16 ∧ cf 13 [.imm x1 0, i64 5, i64 0] h16 = .ok a10 h17 ∧ cf 12 [a4, a10] h17 = .ok (.bool true) h18 ∧ cf 12 [a5, a8] h18 = .ok (.bool true) h19 ∧ cf 12 [a9, .imm x1 0] h19 = .ok (.bool true) h19 ∧ (.ok (.bool true) h19 : OR) = (.ok (.bool true) h19)) := by kernel_rfl
theorem fr_n1 {cf : CallF} {n : Nat} {h : AHeap} {h1 : AHeap} {h2 : AHeap} {h3 : AHeap} {s : AV} {u : AV} {v2 : AV} {by' : Int} {at' : Int} : (stepI Try.prog H1 fl0 6 cf n [s, u, .int .u8 by', .int .u8 at'] h).Goes [.ok (.bool true) h1, .ok .nilp h2, .ok v2 h3] (.ok (.bool true) h3) =
  (cf 8 [] h = .ok (.bool true) h1 ∧ cf 9 [s] h1 = .ok .nilp h2 ∧ cf 9 [u] h2 = .ok v2 h3 ∧ (.ok (.bool true) h3 : OR) = (.ok (.bool true) h3)) := by kernel_rfl
theorem fr_n2 {cf : CallF} {n : Nat} {h : AHeap} {h1 : AHeap} {h2 : AHeap} {h3 : AHeap} {s : AV} {u : AV} {x1 : List AV} {by' : Int} {at' : Int} : (stepI Try.prog H1 fl0 6 cf n [s, u, .int .u8 by', .int .u8 at'] h).Goes [.ok (.bool true) h1, .ok (.imm x1 0) h2, .ok .nilp h3] (.ok (.bool true) h3) =
  (cf 8 [] h = .ok (.bool true) h1 ∧ cf 9 [s] h1 = .ok (.imm x1 0) h2 ∧ cf 9 [u] h2 = .ok .nilp h3 ∧ (.ok (.bool true) h3 : OR) = (.ok (.bool true) h3)) := by kernel_rfl
theorem fr_t {cf : CallF} {n : Nat} {h : AHeap} {h1 : AHeap} {h2 : AHeap} {h3 : AHeap} {h4 : AHeap} {h5 : AHeap} {h6 : AHeap} {h7 : AHeap} {h8 : AHeap} {h9 : AHeap} {h10 : AHeap} {h11 : AHeap} {h12 : AHeap} {h13 : AHeap} {s : AV} {u : AV} {x1 : List AV} {x2 : List AV} {a1 : AV} {a2 : AV} {a3 : AV} {a4 : AV} {by' : Int} {at' : Int} {n0 : Int} {fb : Int} {fc : Int} {fx : Int} {mx : Int} : (stepI Try.prog H1 (flL [(11, 1), (13, 7), (13, 16), (13, 17)]) 6 cf n [s, u, .int .u8 by', .int .u8 at'] h).Goes [.ok (.bool true) h1, .ok (.imm x1 0) h2, .ok (.imm x2 0) h3, .ok (i64 n0) h4, .ok a1 h5, .ok a2 h6, .ok a3 h7, .ok (.bool true) h7, .ok (.bool true) h8, .ok (i64 fb) h9, .ok (.bool true) h9, .ok (i64 fc) h10, .ok (i64 fx) h11, .ok (i64 mx) h11, .ok (.bool true) h11, .ok a4 h12, .ok (.bool true) h13] (.ok (.bool true) h13) =
  (cf 8 [] h = .ok (.bool true) h1 ∧ cf 9 [s] h1 = .ok (.imm x1 0) h2 ∧ cf 9 [u] h2 = .ok (.imm x2 0) h3 ∧ cf 21 [.imm x1 0] h3 = .ok (i64 n0) h4 ∧ cf 13 [.imm x1 0, i64 (wrapK .i64 (Int.tmod by' 20)), i64 (wrapK .i64 (n0 + wrapK .i64 at'))] h4 = .ok a1 h5 ∧ cf 13 [.imm x1 0, i64 (wrapK .i64 (Int.tmod by' 20)), i64 0] h5 = .ok a2 h6 ∧ cf 15 [.imm x1 0, .imm x2 0, i64 0] h6 = .ok a3 h7 ∧ OR.ok (.bool (ilt 0 n0)) h7 = .ok (.bool true) h7 ∧ cf 12 [a1, .imm x1 0] h7 = .ok (.bool true) h8 ∧ cf 21 [a2] h8 = .ok (i64 fb) h9 ∧ OR.ok (.bool (ieq fb (wrapK .i64 (n0 + (wrapK .i64 (Int.tmod by' 20)))))) h9 = .ok (.bool true) h9 ∧ cf 21 [a3] h9 = .ok (i64 fc) h10 ∧ cf 21 [.imm x2 0] h10 = .ok (i64 fx) h11 ∧ OR.of h11 (minmaxAV true [i64 (wrapK .i64 (n0 - 1)), i64 fx]) = .ok (i64 mx) h11 ∧ OR.ok (.bool (!(ilt mx fc))) h11 = .ok (.bool true) h11 ∧ cf 19 [.imm x1 0, .nils] h11 = .ok a4 h12 ∧ cf 12 [a4, .imm x1 0] h12 = .ok (.bool true) h13 ∧ (.ok (.bool true) h13 : OR) = (.ok (.bool true) h13)) := by kernel_rfl
theorem fr_f {cf : CallF} {n : Nat} {h : AHeap} {h1 : AHeap} {h2 : AHeap} {h3 : AHeap} {h4 : AHeap} {h5 : AHeap} {h6 : AHeap} {h7 : AHeap} {h8 : AHeap} {h9 : AHeap} {h10 : AHeap} {h11 : AHeap} {h12 : AHeap} {h13 : AHeap} {s : AV} {u : AV} {x1 : List AV} {x2 : List AV} {a1 : AV} {a2 : AV} {a3 : AV} {a4 : AV} {by' : Int} {at' : Int} {n0 : Int} {fb : Int} {fc : Int} {fx : Int} {mx : Int} : (stepI Try.prog H1 (flL [(11, 1), (13, 7), (13, 16), (13, 17)]) 6 cf n [s, u, .int .u8 by', .int .u8 at'] h).Goes [.ok (.bool true) h1, .ok (.imm x1 0) h2, .ok (.imm x2 0) h3, .ok (i64 n0) h4, .ok a1 h5, .ok a2 h6, .ok a3 h7, .ok (.bool false) h7, .ok (.bool true) h8, .ok (i64 fb) h9, .ok (.bool true) h9, .ok (i64 fc) h10, .ok (i64 fx) h11, .ok (i64 mx) h11, .ok (.bool true) h11, .ok a4 h12, .ok (.bool true) h13] (.ok (.bool true) h13) =
  (cf 8 [] h = .ok (.bool true) h1 ∧ cf 9 [s] h1 = .ok (.imm x1 0) h2 ∧ cf 9 [u] h2 = .ok (.imm x2 0) h3 ∧ cf 21 [.imm x1 0] h3 = .ok (i64 n0) h4 ∧ cf 13 [.imm x1 0, i64 (wrapK .i64 (Int.tmod by' 20)), i64 (wrapK .i64 (n0 + wrapK .i64 at'))] h4 = .ok a1 h5 ∧ cf 13 [.imm x1 0, i64 (wrapK .i64 (Int.tmod by' 20)), i64 0] h5 = .ok a2 h6 ∧ cf 15 [.imm x1 0, .imm x2 0, i64 0] h6 = .ok a3 h7 ∧ OR.ok (.bool (ilt 0 n0)) h7 = .ok (.bool false) h7 ∧ cf 12 [a1, .imm x1 0] h7 = .ok (.bool true) h8 ∧ cf 21 [a2] h8 = .ok (i64 fb) h9 ∧ OR.ok (.bool (ieq fb 0)) h9 = .ok (.bool true) h9 ∧ cf 21 [a3] h9 = .ok (i64 fc) h10 ∧ cf 21 [.imm x2 0] h10 = .ok (i64 fx) h11 ∧ OR.of h11 (minmaxAV true [i64 (wrapK .i64 (n0 - 1)), i64 fx]) = .ok (i64 mx) h11 ∧ OR.ok (.bool (!(ilt mx fc))) h11 = .ok (.bool true) h11 ∧ cf 19 [.imm x1 0, .nils] h11 = .ok a4 h12 ∧ cf 12 [a4, .imm x1 0] h12 = .ok (.bool true) h13 ∧ (.ok (.bool true) h13 : OR) = (.ok (.bool true) h13)) := by kernel_rfl
end Go.Vd

namespace Go.Vd
open Go Go.RowKit Go.Proofs
set_option maxRecDepth 100000
theorem termV {s : List Nat} (hs : By s) : ∃ v, (v = .nilp ∨ ∃ t, v = tw t ∧ Bd (2 ^ 30) t ∧ ht t ≤ 3000) ∧ ∃ N, ∀ n, N ≤ n → ∀ h, ∃ h', ev n 9 [.str s] h = .ok v h' := by
  rcases termX hs with ⟨N, k⟩ | ⟨t, hb, hh, N, k⟩
  · exact ⟨_, .inl rfl, N, fun n hn h => let ⟨h', e, _⟩ := k n hn h; ⟨h', e⟩⟩
  · exact ⟨_, .inr ⟨t, rfl, hb, hh⟩, N, fun n hn h => let ⟨h', e, _⟩ := k n hn h; ⟨h', e⟩⟩
theorem knownT {n : Nat} (hn : 40 ≤ n) : ∃ h1, ev n 8 [] ⟨0, .nil⟩ = .ok (.bool true) h1 := by
  obtain ⟨m, rfl⟩ : ∃ m, n = m + 40 := ⟨n - 40, by omega⟩
  exact isT_iff (known_at m)
theorem tells_nil {a : Int} (ha : 0 ≤ a) (ha2 : a ≤ 2 ^ 41) : Tells (2 ^ 61) 44 (capN a) (φP [] a) := by
  refine ⟨fun m k h1 h2 h3 h4 => ?_, fun s m k h1 h2 h3 h4 => (ok_leaf fun n h => cn_d n h s m k a).x⟩
  have hn := nn_id h1 h2 h3 h4 ha ha2
  simp only [φP, List.length_nil]
  by_cases q : m - k - a < 0
  · rw [if_pos q]
    exact (ok_step fl44 0 fun n hn' h => ⟨_, cn_a.mpr ⟨by rw [hn, ilt_eq]; simp [q], rfl⟩⟩).x
  · rw [if_neg q, if_neg (by omega)]
    obtain ⟨N, kk⟩ := ok_var32 (m - 0)
    exact (ok_step fl44 N fun n hn' h => ⟨_, cn_c.mpr ⟨by rw [hn, ilt_eq]; simp; omega, obE (ilt_f (by rw [hn]; show (0 : Int) ≤ _; omega)), by rw [wrap_id (by omega) (by omega)]; exact kk n hn' h, rfl⟩⟩).x
theorem okx_alln (t : Tm) (hb : Bd (2 ^ 61) t) (hh : ht t ≤ 2 ^ 41) : OkX 19 [tw t, .nils] (tw t) := by
  obtain ⟨N, kk⟩ := okx_maps (.inr (.inr rfl)) (tells_nil (a := 0) (Int.le_refl _) (by omega)) t 0 hb (Int.le_refl _) (by omega)
  rw [all0] at kk
  obtain ⟨N', kk'⟩ : OkX 35 [tw t, .nils, i64 0] (tw t) := okx_step fl0 N fun n hn h => by
    obtain ⟨h2, e2, E2⟩ := kk n hn h
    exact ⟨_, h2, putsn.mpr ⟨e2, rfl⟩, E2⟩
  refine okx_step fl0 N' fun n hn h => ?_
  obtain ⟨h2, e2, E2⟩ := kk' n hn h
  exact ⟨_, h2, (all19 (ev n) n h h2 (tw t) _ _).mpr ⟨e2, rfl⟩, E2⟩
def SzAt (v : AV) : Prop := ∀ most : Int, ∃ r, Ok 43 [v, i64 most] (i64 r)
theorem sz_nil : SzAt .nilp := fun _ => ⟨0, ok_step (flL [(1, 4)]) 0 fun _ _ _ => ⟨_, sz_1.mpr rfl⟩⟩
theorem sz_node {k m : Int} {s : List Nat} {a b c : AV} (ha : SzAt a) (hb : SzAt b) (hc : SzAt c) : SzAt (sz3 k m s a b c) := fun most => by
  cases q : (!(ilt 0 most)) with
  | true => exact ⟨0, ok_step (flL [(1, 4)]) 0 fun n hn h => ⟨_, sz_2.mpr ⟨obE q, rfl⟩⟩⟩
  | false =>
    obtain ⟨r1, N1, k1⟩ := ha (wrapK .i64 (most - 1))
    obtain ⟨r2, N2, k2⟩ := hb (wrapK .i64 (most - wrapK .i64 (1 + r1)))
    obtain ⟨r3, N3, k3⟩ := hc (wrapK .i64 (most - wrapK .i64 (wrapK .i64 (1 + r1) + r2)))
    exact ⟨_, ok_step (flL [(1, 4)]) (N1 + N2 + N3) fun n hn h => ⟨_, sz_3.mpr ⟨obE q, k1 n (by omega) h, k2 n (by omega) h, k3 n (by omega) h, rfl⟩⟩⟩
theorem sz_ok : ∀ t : Tm, SzAt (tw t)
  | .sort _ => sz_node sz_nil sz_nil sz_nil
  | .var _ => sz_node sz_nil sz_nil sz_nil
  | .con _ _ => sz_node sz_nil sz_nil sz_nil
  | .pi a b => sz_node (sz_ok a) (sz_ok b) sz_nil
  | .lam a b => sz_node (sz_ok a) (sz_ok b) sz_nil
  | .app a b => sz_node (sz_ok a) (sz_ok b) sz_nil
  | .lett a b c => sz_node (sz_ok a) (sz_ok b) (sz_ok c)
theorem light_ok (t u v : Tm) : ∃ b, Ok 10 [tw t, tw u, tw v] (.bool b) := by
  have sz : ∀ t : Tm, ∃ r, Ok 29 [tw t] (i64 r) := fun t => by
    obtain ⟨r, N, k⟩ := sz_ok t 3001
    exact ⟨r, ok_step fl0 N fun n hn h => ⟨_, size29.mpr ⟨k n hn h, rfl⟩⟩⟩
  obtain ⟨r1, N1, k1⟩ := sz t
  obtain ⟨r2, N2, k2⟩ := sz u
  obtain ⟨r3, N3, k3⟩ := sz v
  exact ⟨_, ok_step (flL [(1, 8)]) (N1 + N2 + N3) fun n hn h => ⟨_, light10.mpr ⟨k1 n (by omega) h, k2 n (by omega) h, k3 n (by omega) h, rfl, rfl⟩⟩⟩
open Classical in
theorem same_true (t : Tm) : Ok 12 [tw t, tw t] (.bool true) := by have := ok_same t t; rwa [decide_eq_true rfl] at this
theorem swaps_ev {s u w : List Nat} (hs : By s) (hu : By u) (hw : By w) : ∃ N h', ev N 7 [.str s, .str u, .str w] ⟨0, .nil⟩ = .ok (.bool true) h' := by
  obtain ⟨v1, c1, N1, k1⟩ := termV hs
  obtain ⟨v2, c2, N2, k2⟩ := termV hu
  obtain ⟨v3, c3, N3, k3⟩ := termV hw
  have pre : ∀ n, N1 + N2 + N3 + 40 ≤ n → ∃ h1 h2 h3 h4, ev n 8 [] ⟨0, .nil⟩ = .ok (.bool true) h1 ∧ ev n 9 [.str s] h1 = .ok v1 h2 ∧ ev n 9 [.str u] h2 = .ok v2 h3 ∧ ev n 9 [.str w] h3 = .ok v3 h4 := fun n hn => by
    obtain ⟨h1, e1⟩ := knownT (n := n) (by omega)
    obtain ⟨h2, e2⟩ := k1 n (by omega) h1
    obtain ⟨h3, e3⟩ := k2 n (by omega) h2
    obtain ⟨h4, e4⟩ := k3 n (by omega) h3
    exact ⟨h1, h2, h3, h4, e1, e2, e3, e4⟩
  rcases c1 with rfl | ⟨t, rfl, bt, ht'⟩
  · obtain ⟨h1, h2, h3, h4, e1, e2, e3, e4⟩ := pre _ (Nat.le_refl _)
    exact ⟨_, h4, goes_call fl0 (sw_n1.mpr ⟨e1, e2, e3, e4, rfl⟩) (by simp)⟩
  rcases c2 with rfl | ⟨x, rfl, bx, hx⟩
  · obtain ⟨h1, h2, h3, h4, e1, e2, e3, e4⟩ := pre _ (Nat.le_refl _)
    exact ⟨_, h4, goes_call fl0 (sw_n2.mpr ⟨e1, e2, e3, e4, rfl⟩) (by simp)⟩
  rcases c3 with rfl | ⟨y, rfl, by', hy⟩
  · obtain ⟨h1, h2, h3, h4, e1, e2, e3, e4⟩ := pre _ (Nat.le_refl _)
    exact ⟨_, h4, goes_call fl0 (sw_n3.mpr ⟨e1, e2, e3, e4, rfl⟩) (by simp)⟩
  obtain ⟨b, N4, k4⟩ := light_ok t x y
  cases b with
  | false =>
    obtain ⟨h1, h2, h3, h4, e1, e2, e3, e4⟩ := pre (N1 + N2 + N3 + N4 + 40) (by omega)
    exact ⟨_, h4, goes_call fl0 (sw_l.mpr ⟨e1, e2, e3, e4, k4 _ (by omega) h4, rfl⟩) (by simp)⟩
  | true =>
    have pt := ht_nonneg t; have px := ht_nonneg x; have py := ht_nonneg y
    have bxy := bd_P (a := 0) (Int.le_refl _) by' x 0 (Int.le_refl _) bx
    have btx := bd_P (a := 0) (Int.le_refl _) bx t 0 (Int.le_refl _) bt
    have by1 := bd_L (d := 1) (by omega) y 0 by'
    have bty := bd_P (a := 1) (by omega) by1 t 0 (Int.le_refl _) (Bd.mono (by omega) bt)
    have htx := ht_P (u := x) (a := 0) (Int.le_refl _) t 0
    have hxy := ht_P (u := y) (a := 0) (Int.le_refl _) x 0
    have hty := ht_P (u := mapT (φL 1) y 0) (a := 1) (by omega) t 0
    have hy1 := ht_L (d := 1) y 0
    obtain ⟨N5, k5⟩ := okx_put t x (a := 0) (by omega) (by omega) (Bd.mono (by omega) bt) (by omega) (Bd.mono (by omega) bx) (by omega)
    obtain ⟨N6, k6⟩ := okx_put (mapT (φP [x] 0) t 0) y (a := 0) (by omega) (by omega) (Bd.mono (by omega) btx) (by omega) (Bd.mono (by omega) by') (by omega)
    obtain ⟨N7, k7⟩ := okx_lift (d := 1) (by omega) (by omega) y 0 (Bd.mono (by omega) by') (by omega) (by omega)
    obtain ⟨N8, k8⟩ := okx_put t (mapT (φL 1) y 0) (a := 1) (by omega) (by omega) (Bd.mono (by omega) bt) (by omega) (Bd.mono (by omega) by1) (by omega)
    obtain ⟨N9, k9⟩ := okx_put x y (a := 0) (by omega) (by omega) (Bd.mono (by omega) bx) (by omega) (Bd.mono (by omega) by') (by omega)
    obtain ⟨N10, k10⟩ := okx_put (mapT (φP [mapT (φL 1) y 0] 1) t 0) (mapT (φP [y] 0) x 0) (a := 0) (by omega) (by omega) (Bd.mono (by omega) bty) (by omega) (Bd.mono (by omega) bxy) (by omega)
    rw [← swap2 x y t 0 (Int.le_refl _)] at k10
    obtain ⟨N11, k11⟩ := same_true (mapT (φP [y] 0) (mapT (φP [x] 0) t 0) 0)
    let n := N1 + N2 + N3 + N4 + N5 + N6 + N7 + N8 + N9 + N10 + N11 + 40
    have hn : n = N1 + N2 + N3 + N4 + N5 + N6 + N7 + N8 + N9 + N10 + N11 + 40 := rfl
    obtain ⟨h1, h2, h3, h4, e1, e2, e3, e4⟩ := pre n (by omega)
    obtain ⟨h6, e6, _⟩ := k5 n (by omega) h4
    obtain ⟨h7, e7, _⟩ := k6 n (by omega) h6
    obtain ⟨h8, e8, _⟩ := k7 n (by omega) h7
    obtain ⟨h9, e9, _⟩ := k8 n (by omega) h8
    obtain ⟨h10, e10, _⟩ := k9 n (by omega) h9
    obtain ⟨h11, e11, _⟩ := k10 n (by omega) h10
    exact ⟨n + 1, h11, goes_call fl0 (sw_t.mpr ⟨e1, e2, e3, e4, k4 n (by omega) h4, e6, e7, e8, e9, e10, e11, k11 n (by omega) h11, rfl⟩) (by simp)⟩
theorem back_ev {s u w : List Nat} (hs : By s) (hu : By u) (hw : By w) : ∃ N h', ev N 4 [.str s, .str u, .str w] ⟨0, .nil⟩ = .ok (.bool true) h' := by
  obtain ⟨v1, c1, N1, k1⟩ := termV hs
  obtain ⟨v2, c2, N2, k2⟩ := termV hu
  obtain ⟨v3, c3, N3, k3⟩ := termV hw
  have pre : ∀ n, N1 + N2 + N3 + 40 ≤ n → ∃ h1 h2 h3 h4, ev n 8 [] ⟨0, .nil⟩ = .ok (.bool true) h1 ∧ ev n 9 [.str s] h1 = .ok v1 h2 ∧ ev n 9 [.str u] h2 = .ok v2 h3 ∧ ev n 9 [.str w] h3 = .ok v3 h4 := fun n hn => by
    obtain ⟨h1, e1⟩ := knownT (n := n) (by omega)
    obtain ⟨h2, e2⟩ := k1 n (by omega) h1
    obtain ⟨h3, e3⟩ := k2 n (by omega) h2
    obtain ⟨h4, e4⟩ := k3 n (by omega) h3
    exact ⟨h1, h2, h3, h4, e1, e2, e3, e4⟩
  rcases c1 with rfl | ⟨t, rfl, bt, ht'⟩
  · obtain ⟨h1, h2, h3, h4, e1, e2, e3, e4⟩ := pre _ (Nat.le_refl _)
    exact ⟨_, h4, goes_call fl0 (bk_n1.mpr ⟨e1, e2, e3, e4, rfl⟩) (by simp)⟩
  rcases c2 with rfl | ⟨x, rfl, bx, hx⟩
  · obtain ⟨h1, h2, h3, h4, e1, e2, e3, e4⟩ := pre _ (Nat.le_refl _)
    exact ⟨_, h4, goes_call fl0 (bk_n2.mpr ⟨e1, e2, e3, e4, rfl⟩) (by simp)⟩
  rcases c3 with rfl | ⟨y, rfl, by', hy⟩
  · obtain ⟨h1, h2, h3, h4, e1, e2, e3, e4⟩ := pre _ (Nat.le_refl _)
    exact ⟨_, h4, goes_call fl0 (bk_n3.mpr ⟨e1, e2, e3, e4, rfl⟩) (by simp)⟩
  obtain ⟨b, N4, k4⟩ := light_ok t x y
  cases b with
  | false =>
    obtain ⟨h1, h2, h3, h4, e1, e2, e3, e4⟩ := pre (N1 + N2 + N3 + N4 + 40) (by omega)
    exact ⟨_, h4, goes_call fl0 (bk_l.mpr ⟨e1, e2, e3, e4, k4 _ (by omega) h4, rfl⟩) (by simp)⟩
  | true =>
    have pt := ht_nonneg t; have px := ht_nonneg x; have py := ht_nonneg y
    have bt61 : Bd (2 ^ 61) t := Bd.mono (by omega) bt
    have bx61 : Bd (2 ^ 61) x := Bd.mono (by omega) bx
    have by61 : Bd (2 ^ 61) y := Bd.mono (by omega) by'
    have bt1 := bd_L (d := 1) (by omega) t 0 bt
    have bt2 := bd_L (d := 2) (by omega) t 0 bt
    have by1 := bd_L (d := 1) (by omega) y 0 by'
    have bty := bd_P (a := 0) (by omega) by1 t 0 (Int.le_refl _) (Bd.mono (by omega) bt)
    have hty := ht_P (u := mapT (φL 1) y 0) (a := 0) (by omega) t 0
    have hy1 := ht_L (d := 1) y 0
    have ht1 := ht_L (d := 1) t 0
    have ht2 := ht_L (d := 2) t 0
    obtain ⟨f0, f1⟩ := free_bd t bt61
    have f2 : free t ≤ 2 ^ 30 + 1 := free_le t bt
    obtain ⟨N5, k5⟩ := okx_lift (d := 1) (by omega) (by omega) t 0 bt61 (by omega) (by omega)
    obtain ⟨N6, k6⟩ := okx_put (mapT (φL 1) t 0) x (a := 0) (by omega) (by omega) (Bd.mono (by omega) bt1) (by omega) bx61 (by omega)
    have ePL := PL x 0 (Int.le_refl _) t 0 (Int.le_refl _)
    rw [Int.zero_add, Int.add_zero, L_zero] at ePL
    rw [ePL] at k6
    obtain ⟨N7, k7⟩ := okx_lift (d := 2) (by omega) (by omega) t 0 bt61 (by omega) (by omega)
    obtain ⟨N8, k8⟩ := okx_lift (d := 3) (by omega) (by omega) (mapT (φL 2) t 0) 1 (Bd.mono (by omega) bt2) (by omega) (by omega)
    have eLL := LL (d := 2) (e := 3) (by omega) 1 (by omega) (by omega) t 0 (Int.le_refl _)
    rw [Int.zero_add] at eLL
    rw [eLL] at k8
    obtain ⟨N9, k9⟩ := okx_all (us := [x, y]) true t (by simp) (fun z hz => by
      simp only [List.mem_cons, List.not_mem_nil, or_false] at hz
      rcases hz with rfl | rfl
      · exact ⟨bx61, by omega⟩
      · exact ⟨by61, by omega⟩) bt61 (by omega)
    obtain ⟨N10, k10⟩ := okx_lift (d := 1) (by omega) (by omega) y 0 by61 (by omega) (by omega)
    obtain ⟨N11, k11⟩ := okx_put t (mapT (φL 1) y 0) (a := 0) (by omega) (by omega) bt61 (by omega) (Bd.mono (by omega) by1) (by omega)
    obtain ⟨N12, k12⟩ := okx_put (mapT (φP [mapT (φL 1) y 0] 0) t 0) x (a := 0) (by omega) (by omega) (Bd.mono (by omega) bty) (by omega) bx61 (by omega)
    rw [all2 x y t 0 (Int.le_refl _)] at k12
    obtain ⟨N13, k13⟩ := ok_free t bt61
    obtain ⟨N14, k14⟩ := okx_put t x (a := free t) f0 (by omega) bt61 (by omega) bx61 (by omega)
    rw [P_above f0 (by omega)] at k14
    obtain ⟨N15, k15⟩ := same_true t
    obtain ⟨N16, k16⟩ := okx_lift (d := 5) (by omega) (by omega) t 0 bt61 (by omega) (by omega)
    obtain ⟨N17, k17⟩ := same_true (mapT (φL 5) t 0)
    obtain ⟨N18, k18⟩ := same_true (mapT (φP [x, y] 0) t 0)
    let n := N1 + N2 + N3 + N4 + N5 + N6 + N7 + N8 + N9 + N10 + N11 + N12 + N13 + N14 + N15 + N16 + N17 + N18 + 40
    have hn : n = N1 + N2 + N3 + N4 + N5 + N6 + N7 + N8 + N9 + N10 + N11 + N12 + N13 + N14 + N15 + N16 + N17 + N18 + 40 := rfl
    obtain ⟨h1, h2, h3, h4, e1, e2, e3, e4⟩ := pre n (by omega)
    obtain ⟨h5, e5, _⟩ := k5 n (by omega) h4
    obtain ⟨h6, e6, _⟩ := k6 n (by omega) h5
    obtain ⟨h7, e7, _⟩ := k7 n (by omega) h6
    obtain ⟨h8, e8, _⟩ := k8 n (by omega) h7
    obtain ⟨h9, e9, _⟩ := k9 n (by omega) h8
    obtain ⟨h10, e10, _⟩ := k10 n (by omega) h9
    obtain ⟨h11, e11, _⟩ := k11 n (by omega) h10
    obtain ⟨h12, e12, _⟩ := k12 n (by omega) h11
    obtain ⟨h14, e14, _⟩ := k14 n (by omega) h12
    obtain ⟨h16, e16, _⟩ := k16 n (by omega) h14
    exact ⟨n + 1, h16, goes_call fl0 (bk_t.mpr ⟨e1, e2, e3, e4, k4 n (by omega) h4, e5, e6, e7, e8, e9, e10, e11, e12, k13 n (by omega) h12, e14, k15 n (by omega) h14, e16, k17 n (by omega) h16, k18 n (by omega) h16, k15 n (by omega) h16, rfl⟩) (by simp)⟩
end Go.Vd

namespace Go.Vd
open Go Go.RowKit Go.Proofs
set_option maxRecDepth 100000
theorem max2 (a b : Int) : minmaxAV true [i64 a, i64 b] = some (i64 (max a b)) := by
  show mmGo true [i64 b] (i64 a) = _
  rw [mmGo_cons]
  simp only [i64, show keq IntKind.i64 IntKind.i64 = true from rfl]
  by_cases q : a < b
  · rw [ilt_t q]; show some (AV.int .i64 b) = _; rw [Int.max_eq_right (by omega)]
  · rw [ilt_f (by omega)]; show some (AV.int .i64 a) = _; rw [Int.max_eq_left (by omega)]
theorem free_ev {s u : List Nat} (hs : By s) (hu : By u) {b a : Int} (hb0 : 0 ≤ b) (_hb1 : b < 256) (ha0 : 0 ≤ a) (ha1 : a < 256) : ∃ N h', ev N 6 [.str s, .str u, .int .u8 b, .int .u8 a] ⟨0, .nil⟩ = .ok (.bool true) h' := by
  obtain ⟨v1, c1, N1, k1⟩ := termV hs
  obtain ⟨v2, c2, N2, k2⟩ := termV hu
  have pre : ∀ n, N1 + N2 + 40 ≤ n → ∃ h1 h2 h3, ev n 8 [] ⟨0, .nil⟩ = .ok (.bool true) h1 ∧ ev n 9 [.str s] h1 = .ok v1 h2 ∧ ev n 9 [.str u] h2 = .ok v2 h3 := fun n hn => by
    obtain ⟨h1, e1⟩ := knownT (n := n) (by omega)
    obtain ⟨h2, e2⟩ := k1 n (by omega) h1
    obtain ⟨h3, e3⟩ := k2 n (by omega) h2
    exact ⟨h1, h2, h3, e1, e2, e3⟩
  rcases c1 with rfl | ⟨t, rfl, bt, ht'⟩
  · obtain ⟨h1, h2, h3, e1, e2, e3⟩ := pre _ (Nat.le_refl _)
    exact ⟨_, h3, goes_call fl0 (fr_n1.mpr ⟨e1, e2, e3, rfl⟩) (by simp)⟩
  rcases c2 with rfl | ⟨x, rfl, bx, hx⟩
  · obtain ⟨h1, h2, h3, e1, e2, e3⟩ := pre _ (Nat.le_refl _)
    exact ⟨_, h3, goes_call fl0 (fr_n2.mpr ⟨e1, e2, e3, rfl⟩) (by simp)⟩
  have pt := ht_nonneg t; have px := ht_nonneg x
  have bt61 : Bd (2 ^ 61) t := Bd.mono (by omega) bt
  have bx61 : Bd (2 ^ 61) x := Bd.mono (by omega) bx
  obtain ⟨f0, _⟩ := free_bd t bt61
  obtain ⟨g0, _⟩ := free_bd x bx61
  have f2 := free_le t bt
  have g2 := free_le x bx
  obtain ⟨K, hK, hK0, hK1⟩ : ∃ K, wrapK .i64 (Int.tmod b 20) = K ∧ 0 ≤ K ∧ K < 20 := by
    have e := Int.tmod_eq_emod_of_nonneg (b := 20) hb0
    refine ⟨b % 20, ?_, by omega, by omega⟩
    rw [e]; exact wrap_id (by omega) (by omega)
  have hA : wrapK .i64 a = a := wrap_id (by omega) (by omega)
  have hnA : wrapK .i64 (free t + a) = free t + a := wrap_id (by omega) (by omega)
  have hn1 : wrapK .i64 (free t - 1) = free t - 1 := wrap_id (by omega) (by omega)
  have hnK : wrapK .i64 (free t + K) = free t + K := wrap_id (by omega) (by omega)
  have btK := bd_L hK0 t 0 bt
  have btx := bd_P (a := 0) (Int.le_refl _) bx t 0 (Int.le_refl _) bt
  obtain ⟨N3, k3⟩ := ok_free t bt61
  obtain ⟨N4, k4⟩ := okx_lift (d := K) hK0 (by omega) t (free t + a) bt61 (by omega) (by omega)
  rw [L_above (by omega)] at k4
  obtain ⟨N5, k5⟩ := okx_lift (d := K) hK0 (by omega) t 0 bt61 (by omega) (by omega)
  obtain ⟨N6, k6⟩ := okx_put t x (a := 0) (by omega) (by omega) bt61 (by omega) bx61 (by omega)
  obtain ⟨N7, k7⟩ := same_true t
  obtain ⟨N8, k8⟩ := ok_free (mapT (φL K) t 0) (Bd.mono (by omega) btK)
  obtain ⟨N9, k9⟩ := ok_free (mapT (φP [x] 0) t 0) (Bd.mono (by omega) btx)
  obtain ⟨N10, k10⟩ := ok_free x bx61
  obtain ⟨N11, k11⟩ := okx_alln t bt61 (by omega)
  have hfL := free_L2 hK0 t 0 (Int.le_refl _) bt61
  have hfP := free_P bx61 t 0 (Int.le_refl _)
  let n := N1 + N2 + N3 + N4 + N5 + N6 + N7 + N8 + N9 + N10 + N11 + 40
  have hn : n = N1 + N2 + N3 + N4 + N5 + N6 + N7 + N8 + N9 + N10 + N11 + 40 := rfl
  obtain ⟨h1, h2, h3, e1, e2, e3⟩ := pre n (by omega)
  obtain ⟨h5, e5, _⟩ := k4 n (by omega) h3
  obtain ⟨h6, e6, _⟩ := k5 n (by omega) h5
  obtain ⟨h7, e7, _⟩ := k6 n (by omega) h6
  obtain ⟨h12, e12, _⟩ := k11 n (by omega) h7
  have em : OR.of h7 (minmaxAV true [i64 (wrapK .i64 (free t - 1)), i64 (free x)]) = .ok (i64 (max (free t - 1) (free x))) h7 := by rw [max2, hn1]; rfl
  have e5' : ev n 13 [tw t, i64 (wrapK .i64 (Int.tmod b 20)), i64 (wrapK .i64 (free t + wrapK .i64 a))] h3 = .ok (tw t) h5 := by rw [hK, hA, hnA]; exact e5
  have e6' : ev n 13 [tw t, i64 (wrapK .i64 (Int.tmod b 20)), i64 0] h5 = .ok (tw (mapT (φL K) t 0)) h6 := by rw [hK]; exact e6
  by_cases q : 0 < free t
  · have ew : OR.ok (.bool (ieq (free (mapT (φL K) t 0)) (wrapK .i64 (free t + wrapK .i64 (Int.tmod b 20))))) h7 = .ok (.bool true) h7 := obE (ieq_t (by rw [hK, hnK]; exact hfL.1 q))
    exact ⟨n + 1, h12, goes_call (flL [(11, 1), (13, 7), (13, 16), (13, 17)]) (fr_t.mpr ⟨e1, e2, e3, k3 n (by omega) h3, e5', e6', e7, obE (ilt_t q), k7 n (by omega) h7, k8 n (by omega) h7, ew, k9 n (by omega) h7, k10 n (by omega) h7, em, obE (leb (by omega)), e12, k7 n (by omega) h12, rfl⟩) (by simp)⟩
  · have ew : OR.ok (.bool (ieq (free (mapT (φL K) t 0)) 0)) h7 = .ok (.bool true) h7 := obE (ieq_t (by rw [hfL.2 q]; omega))
    exact ⟨n + 1, h12, goes_call (flL [(11, 1), (13, 7), (13, 16), (13, 17)]) (fr_f.mpr ⟨e1, e2, e3, k3 n (by omega) h3, e5', e6', e7, obE (ilt_f (by omega)), k7 n (by omega) h7, k8 n (by omega) h7, ew, k9 n (by omega) h7, k10 n (by omega) h7, em, obE (leb (by omega)), e12, k7 n (by omega) h12, rfl⟩) (by simp)⟩
end Go.Vd
