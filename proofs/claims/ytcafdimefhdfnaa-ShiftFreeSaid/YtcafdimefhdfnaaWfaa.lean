/-
  ShiftFree: whatever the input, the law returns true; no condition. Proved by an abstract evaluator of loaded code that is sound for every program, and by what each function of this seat does on trees.

-/
import Derived.Carry
import Derived.Test.YtcafdimefhdfnaaVah
namespace Go.Vd
/-! The plain laws of lifting and putting in. -/
theorem mapT_id (φ : Tm → Int → Option Tm) : ∀ (t : Tm) (k : Int), (∀ m k', k ≤ k' → m < free t + (k' - k) → (φ (.var m) k').getD (.var m) = .var m) → (∀ s m k', (φ (.con s m) k').getD (.con s m) = .con s m) → mapT φ t k = t
  | .sort _, _, _, _ => rfl
  | .var m, k, h, _ => by simp only [mapT]; exact h m k (Int.le_refl _) (by simp only [free]; omega)
  | .con s m, k, _, h => by simp only [mapT]; exact h s m k
  | .pi a b, k, h, hc => by
    simp only [mapT]
    rw [mapT_id φ a k (fun m k' h1 h2 => h m k' h1 (by simp only [free]; omega)) hc, mapT_id φ b (k + 1) (fun m k' h1 h2 => h m k' (by omega) (by simp only [free]; omega)) hc]
  | .lam a b, k, h, hc => by
    simp only [mapT]
    rw [mapT_id φ a k (fun m k' h1 h2 => h m k' h1 (by simp only [free]; omega)) hc, mapT_id φ b (k + 1) (fun m k' h1 h2 => h m k' (by omega) (by simp only [free]; omega)) hc]
  | .app a b, k, h, hc => by
    simp only [mapT]
    rw [mapT_id φ a k (fun m k' h1 h2 => h m k' h1 (by simp only [free]; omega)) hc, mapT_id φ b k (fun m k' h1 h2 => h m k' h1 (by simp only [free]; omega)) hc]
  | .lett a b c, k, h, hc => by
    simp only [mapT]
    rw [mapT_id φ a k (fun m k' h1 h2 => h m k' h1 (by simp only [free]; omega)) hc, mapT_id φ b k (fun m k' h1 h2 => h m k' h1 (by simp only [free]; omega)) hc, mapT_id φ c (k + 1) (fun m k' h1 h2 => h m k' (by omega) (by simp only [free]; omega)) hc]
/-- Two maps, one behind the other, are a third one. -/
theorem mapT_comp (φ ψ χ : Tm → Int → Option Tm) (e : Int) (hv : ∀ m k, 0 ≤ k → mapT ψ ((φ (.var m) k).getD (.var m)) (k + e) = (χ (.var m) k).getD (.var m)) (hc : ∀ s m k, 0 ≤ k → mapT ψ ((φ (.con s m) k).getD (.con s m)) (k + e) = (χ (.con s m) k).getD (.con s m)) :
    ∀ (t : Tm) (k : Int), 0 ≤ k → mapT ψ (mapT φ t k) (k + e) = mapT χ t k
  | .sort _, _, _ => rfl
  | .var m, k, h => hv m k h
  | .con s m, k, h => hc s m k h
  | .pi a b, k, h => by simp only [mapT]; rw [mapT_comp φ ψ χ e hv hc a k h, show k + e + 1 = k + 1 + e by omega, mapT_comp φ ψ χ e hv hc b (k + 1) (by omega)]
  | .lam a b, k, h => by simp only [mapT]; rw [mapT_comp φ ψ χ e hv hc a k h, show k + e + 1 = k + 1 + e by omega, mapT_comp φ ψ χ e hv hc b (k + 1) (by omega)]
  | .app a b, k, h => by simp only [mapT]; rw [mapT_comp φ ψ χ e hv hc a k h, mapT_comp φ ψ χ e hv hc b k h]
  | .lett a b c, k, h => by simp only [mapT]; rw [mapT_comp φ ψ χ e hv hc a k h, mapT_comp φ ψ χ e hv hc b k h, show k + e + 1 = k + 1 + e by omega, mapT_comp φ ψ χ e hv hc c (k + 1) (by omega)]
theorem L_var (d m k : Int) : mapT (φL d) (.var m) k = if m < k then .var m else .var (m + d) := by
  simp only [mapT, φL]; by_cases q : m < k
  · rw [if_pos q, if_pos q]; rfl
  · rw [if_neg q, if_neg q]; rfl
theorem φL_con (d : Int) (s : List Nat) (m k : Int) : φL d (.con s m) k = none := rfl
theorem φP_con (us : List Tm) (a : Int) (s : List Nat) (m k : Int) : φP us a (.con s m) k = none := rfl
/-- Lifting twice. -/
theorem LL {d e : Int} (_hd : 0 ≤ d) (i : Int) (hi : 0 ≤ i) (hid : i ≤ d) (t : Tm) (k : Int) (hk : 0 ≤ k) : mapT (φL e) (mapT (φL d) t k) (k + i) = mapT (φL (d + e)) t k := by
  refine mapT_comp _ _ _ i (fun m k hk => ?_) (fun s m k _ => rfl) t k hk
  show mapT (φL e) (mapT (φL d) (.var m) k) (k + i) = mapT (φL (d + e)) (.var m) k
  rw [L_var, L_var]
  by_cases q : m < k
  · rw [if_pos q, if_pos q, L_var, if_pos (by omega)]
  · rw [if_neg q, if_neg q, L_var, if_neg (by omega), Int.add_assoc]
theorem L_zero (t : Tm) (k : Int) : mapT (φL 0) t k = t := by
  refine mapT_id _ t k (fun m k' _ _ => ?_) (fun s m k => rfl)
  show mapT (φL 0) (.var m) k' = .var m
  rw [L_var, Int.add_zero]; simp
theorem L_above {t : Tm} {d k : Int} (hk : free t ≤ k) : mapT (φL d) t k = t := by
  refine mapT_id _ t k (fun m k' h1 h2 => ?_) (fun s m k => rfl)
  show mapT (φL d) (.var m) k' = .var m
  rw [L_var, if_pos (by omega)]
theorem P_var1 (u : Tm) (a m k : Int) (_ha : 0 ≤ a) : mapT (φP [u] a) (.var m) k = if m < k + a then .var m else if m = k + a then mapT (φL k) u 0 else .var (m - 1) := by
  simp only [mapT, φP, List.length_singleton]
  by_cases q : m < k + a
  · rw [if_pos (by omega), if_pos q]; rfl
  · rw [if_neg (by omega), if_neg q]
    by_cases q2 : m = k + a
    · rw [if_pos (by omega), if_pos q2, show m - k - a = 0 by omega]; rfl
    · rw [if_neg (by omega), if_neg q2]; rfl
/-- Put in what isn't free: nothing. -/
theorem P_above {t u : Tm} {a k : Int} (ha : 0 ≤ a) (hk : free t ≤ k + a) : mapT (φP [u] a) t k = t := by
  refine mapT_id _ t k (fun m k' h1 h2 => ?_) (fun s m k => rfl)
  show mapT (φP [u] a) (.var m) k' = .var m
  rw [P_var1 _ _ _ _ ha, if_pos (by omega)]
/-- What was lifted by one more takes no notice. -/
theorem PL (u : Tm) (d : Int) (hd : 0 ≤ d) (t : Tm) (k : Int) (hk : 0 ≤ k) : mapT (φP [u] 0) (mapT (φL (d + 1)) t k) (k + d) = mapT (φL d) t k := by
  refine mapT_comp _ _ _ d (fun m k hk => ?_) (fun s m k _ => rfl) t k hk
  show mapT (φP [u] 0) (mapT (φL (d + 1)) (.var m) k) (k + d) = mapT (φL d) (.var m) k
  rw [L_var, L_var]
  by_cases q : m < k
  · rw [if_pos q, if_pos q, P_var1 _ _ _ _ (Int.le_refl _), if_pos (by omega)]
  · rw [if_neg q, if_neg q, P_var1 _ _ _ _ (Int.le_refl _), if_neg (by omega), if_neg (by omega)]; congr 1; omega
/-- Lifting and putting in, either first. -/
theorem P_L (u : Tm) (d : Int) (hd : 0 ≤ d) (t : Tm) (i : Int) (hi : 0 ≤ i) : mapT (φP [u] 0) (mapT (φL d) t i) (i + d) = mapT (φL d) (mapT (φP [u] 0) t i) i := by
  have e2 : ∀ (t : Tm) (k : Int), 0 ≤ k → mapT (φL d) (mapT (φP [u] 0) t k) (k + 0) = mapT (fun x k => some (mapT (φL d) (mapT (φP [u] 0) x k) k)) t k :=
    mapT_comp _ _ _ 0 (fun m k _ => by rw [Int.add_zero]; rfl) (fun s m k _ => by rw [Int.add_zero]; rfl)
  have e1 : ∀ (t : Tm) (k : Int), 0 ≤ k → mapT (φP [u] 0) (mapT (φL d) t k) (k + d) = mapT (fun x k => some (mapT (φL d) (mapT (φP [u] 0) x k) k)) t k := by
    refine mapT_comp _ _ _ d (fun m k hk => ?_) (fun s m k _ => rfl)
    show mapT (φP [u] 0) (mapT (φL d) (.var m) k) (k + d) = mapT (φL d) (mapT (φP [u] 0) (.var m) k) k
    rw [L_var, P_var1 _ _ _ _ (Int.le_refl _)]
    by_cases q : m < k
    · rw [if_pos q, if_pos (by omega), P_var1 _ _ _ _ (Int.le_refl _), if_pos (by omega), L_var, if_pos q]
    · rw [if_neg q, if_neg (by omega), P_var1 _ _ _ _ (Int.le_refl _), if_neg (by omega)]
      by_cases q2 : m = k
      · rw [if_pos (by omega), if_pos (by omega)]
        have := LL (d := k) (e := d) hk k hk (Int.le_refl _) u 0 (Int.le_refl _)
        rw [Int.zero_add] at this
        rw [this]
      · rw [if_neg (by omega), if_neg (by omega), L_var, if_neg (by omega)]; congr 1; omega
  rw [e1 t i hi, ← e2 t i hi, Int.add_zero]
theorem P_var2 (x y : Tm) (m k : Int) : mapT (φP [x, y] 0) (.var m) k = if m < k then .var m else if m = k then mapT (φL k) y 0 else if m = k + 1 then mapT (φL k) x 0 else .var (m - 2) := by
  simp only [mapT, φP]
  rw [show (([x, y] : List Tm).length : Int) = 2 from rfl]
  by_cases q : m < k
  · rw [if_pos (by omega), if_pos q]; rfl
  · rw [if_neg (by omega), if_neg q]
    by_cases q2 : m = k
    · rw [if_pos (by omega), if_pos q2, show m - k - 0 = 0 by omega]; rfl
    · by_cases q3 : m = k + 1
      · rw [if_pos (by omega), if_neg q2, if_pos q3, show m - k - 0 = 1 by omega]; rfl
      · rw [if_neg (by omega), if_neg q2, if_neg q3]; rfl
/-- All at once is one by one. -/
theorem all2 (x y t : Tm) (k : Int) (hk : 0 ≤ k) : mapT (φP [x] 0) (mapT (φP [mapT (φL 1) y 0] 0) t k) k = mapT (φP [x, y] 0) t k := by
  have := mapT_comp (φP [mapT (φL 1) y 0] 0) (φP [x] 0) (φP [x, y] 0) 0 (fun m k hk => ?_) (fun s m k _ => rfl) t k hk
  · rwa [Int.add_zero] at this
  · show mapT (φP [x] 0) (mapT (φP [mapT (φL 1) y 0] 0) (.var m) k) (k + 0) = mapT (φP [x, y] 0) (.var m) k
    rw [P_var2, P_var1 _ _ _ _ (Int.le_refl _), Int.add_zero]
    by_cases q : m < k
    · rw [if_pos q, if_pos q, P_var1 _ _ _ _ (Int.le_refl _), if_pos (by omega)]
    · rw [if_neg q, if_neg q]
      by_cases q2 : m = k
      · rw [if_pos q2, if_pos q2]
        have h1 := LL (d := 1) (e := k) (by omega) 0 (Int.le_refl _) (by omega) y 0 (Int.le_refl _)
        rw [Int.add_zero] at h1
        rw [h1, Int.add_comm 1 k]
        have h2 := PL x k hk y 0 (Int.le_refl _)
        rw [Int.zero_add] at h2
        exact h2
      · rw [if_neg q2, if_neg q2, P_var1 _ _ _ _ (Int.le_refl _), if_neg (by omega)]
        by_cases q3 : m = k + 1
        · rw [if_pos (by omega), if_pos q3]
        · rw [if_neg (by omega), if_neg q3]; congr 1; omega
/-- Two substitutions, either first. -/
theorem swap2 (x y t : Tm) (k : Int) (hk : 0 ≤ k) : mapT (φP [y] 0) (mapT (φP [x] 0) t k) k = mapT (φP [mapT (φP [y] 0) x 0] 0) (mapT (φP [mapT (φL 1) y 0] 1) t k) k := by
  have e1 : ∀ (t : Tm) (k : Int), 0 ≤ k → mapT (φP [y] 0) (mapT (φP [x] 0) t k) (k + 0) = mapT (fun z k => some (mapT (φP [y] 0) (mapT (φP [x] 0) z k) k)) t k :=
    mapT_comp _ _ _ 0 (fun m k _ => by rw [Int.add_zero]; rfl) (fun s m k _ => by rw [Int.add_zero]; rfl)
  have e2 : ∀ (t : Tm) (k : Int), 0 ≤ k → mapT (φP [mapT (φP [y] 0) x 0] 0) (mapT (φP [mapT (φL 1) y 0] 1) t k) (k + 0) = mapT (fun z k => some (mapT (φP [y] 0) (mapT (φP [x] 0) z k) k)) t k := by
    refine mapT_comp _ _ _ 0 (fun m k hk => ?_) (fun s m k _ => by rw [Int.add_zero]; rfl)
    show mapT (φP [mapT (φP [y] 0) x 0] 0) (mapT (φP [mapT (φL 1) y 0] 1) (.var m) k) (k + 0) = mapT (φP [y] 0) (mapT (φP [x] 0) (.var m) k) k
    rw [Int.add_zero, P_var1 (mapT (φL 1) y 0) 1 m k (by omega), P_var1 x 0 m k (Int.le_refl _)]
    by_cases q : m < k
    · rw [if_pos (by omega), if_pos (by omega), P_var1 _ _ _ _ (Int.le_refl _), if_pos (by omega), P_var1 _ _ _ _ (Int.le_refl _), if_pos (by omega)]
    · by_cases q2 : m = k
      · rw [if_pos (by omega), if_neg (by omega), if_pos (by omega), P_var1 _ _ _ _ (Int.le_refl _), if_neg (by omega), if_pos (by omega)]
        have := P_L y k hk x 0 (Int.le_refl _)
        rw [Int.zero_add] at this
        exact this.symm
      · by_cases q3 : m = k + 1
        · rw [if_neg (by omega), if_pos (by omega), if_neg (by omega), if_neg (by omega), P_var1 y _ _ _ (Int.le_refl _), if_neg (by omega), if_pos (by omega)]
          have h1 := LL (d := 1) (e := k) (by omega) 0 (Int.le_refl _) (by omega) y 0 (Int.le_refl _)
          rw [Int.add_zero] at h1
          rw [h1, Int.add_comm 1 k]
          have h2 := PL (mapT (φP [y] 0) x 0) k hk y 0 (Int.le_refl _)
          rw [Int.zero_add] at h2
          exact h2
        · rw [if_neg (by omega), if_neg (by omega), if_neg (by omega), if_neg (by omega), P_var1 _ _ _ _ (Int.le_refl _), if_neg (by omega), if_neg (by omega), P_var1 _ _ _ _ (Int.le_refl _), if_neg (by omega), if_neg (by omega)]
  have h1 := e1 t k hk
  have h2 := e2 t k hk
  rw [Int.add_zero] at h1 h2
  rw [h1, h2]
theorem all0 (t : Tm) (k : Int) : mapT (φP [] 0) t k = t := by
  refine mapT_id _ t k (fun m k' _ _ => ?_) (fun s m k => rfl)
  simp only [φP, List.length_nil]
  by_cases q : m - k' - 0 < 0
  · rw [if_pos q]; rfl
  · rw [if_neg q, if_neg (by omega)]; simp
theorem free_le {M : Int} : ∀ t : Tm, Bd M t → free t ≤ M + 1
  | .sort _, h => by have := h.1; have := h.2; simp only [free]; omega
  | .var _, h => by have := h.2; simp only [free]; omega
  | .con _ _, h => by have := h.1; have := h.2; simp only [free]; omega
  | .pi a b, h => by have := free_le a h.1; have := free_le b h.2; simp only [free]; omega
  | .lam a b, h => by have := free_le a h.1; have := free_le b h.2; simp only [free]; omega
  | .app a b, h => by have := free_le a h.1; have := free_le b h.2; simp only [free]; omega
  | .lett a b c, h => by have := free_le a h.1; have := free_le b h.2.1; have := free_le c h.2.2; simp only [free]; omega
theorem free_nonneg : ∀ t : Tm, Bd (2 ^ 61) t → 0 ≤ free t := fun t h => (free_bd t h).1
theorem free_L2 {d : Int} (hd : 0 ≤ d) : ∀ (t : Tm) (k : Int), 0 ≤ k → Bd (2 ^ 61) t → (k < free t → free (mapT (φL d) t k) = free t + d) ∧ (¬ k < free t → free (mapT (φL d) t k) = free t)
  | .sort _, k, hk, _ => ⟨fun h => absurd h (by show ¬ k < 0; omega), fun _ => rfl⟩
  | .con _ _, k, hk, _ => ⟨fun h => absurd h (by show ¬ k < 0; omega), fun _ => rfl⟩
  | .var m, k, hk, _ => by
    rw [L_var]
    by_cases q : m < k
    · rw [if_pos q]; exact ⟨fun h => absurd h (by show ¬ k < m + 1; omega), fun _ => rfl⟩
    · rw [if_neg q]; exact ⟨fun h => by show m + d + 1 = m + 1 + d; omega, fun h => absurd (show k < m + 1 by omega) h⟩
  | .pi a b, k, hk, hb => by
    have := free_L2 hd a (k) (by omega) hb.1; have := free_nonneg a hb.1
    have := free_L2 hd b (k + 1) (by omega) hb.2; have := free_nonneg b hb.2
    simp only [mapT, free]; omega
  | .lam a b, k, hk, hb => by
    have := free_L2 hd a (k) (by omega) hb.1; have := free_nonneg a hb.1
    have := free_L2 hd b (k + 1) (by omega) hb.2; have := free_nonneg b hb.2
    simp only [mapT, free]; omega
  | .app a b, k, hk, hb => by
    have := free_L2 hd a (k) (by omega) hb.1; have := free_nonneg a hb.1
    have := free_L2 hd b (k) (by omega) hb.2; have := free_nonneg b hb.2
    simp only [mapT, free]; omega
  | .lett a b c, k, hk, hb => by
    have := free_L2 hd a (k) (by omega) hb.1; have := free_nonneg a hb.1
    have := free_L2 hd b (k) (by omega) hb.2.1; have := free_nonneg b hb.2.1
    have := free_L2 hd c (k + 1) (by omega) hb.2.2; have := free_nonneg c hb.2.2
    simp only [mapT, free]; omega
theorem free_P {u : Tm} (hu : Bd (2 ^ 61) u) : ∀ (t : Tm) (k : Int), 0 ≤ k → free (mapT (φP [u] 0) t k) ≤ max (free t - 1) (free u + k)
  | .sort _, k, hk => by have := free_nonneg u hu; simp only [mapT, free]; omega
  | .con _ _, k, hk => by have := free_nonneg u hu; rw [show mapT (φP [u] 0) (.con _ _) k = .con _ _ from rfl]; simp only [free]; omega
  | .var m, k, hk => by
    have := free_nonneg u hu
    rw [P_var1 _ _ _ _ (Int.le_refl _)]
    by_cases q : m < k + 0
    · rw [if_pos q]; simp only [free]; omega
    · rw [if_neg q]
      by_cases q2 : m = k + 0
      · rw [if_pos q2]; have := free_L2 hk u 0 (Int.le_refl _) hu; simp only [free]; omega
      · rw [if_neg q2]; simp only [free]; omega
  | .pi a b, k, hk => by have := free_P hu a k hk; have := free_P hu b (k + 1) (by omega); simp only [mapT, free]; omega
  | .lam a b, k, hk => by have := free_P hu a k hk; have := free_P hu b (k + 1) (by omega); simp only [mapT, free]; omega
  | .app a b, k, hk => by have := free_P hu a k hk; have := free_P hu b k hk; simp only [mapT, free]; omega
  | .lett a b c, k, hk => by have := free_P hu a k hk; have := free_P hu b k hk; have := free_P hu c (k + 1) (by omega); simp only [mapT, free]; omega
theorem bd_L {M d : Int} (hd : 0 ≤ d) : ∀ (t : Tm) (k : Int), Bd M t → Bd (M + d) (mapT (φL d) t k)
  | .sort _, k, hb => Bd.mono (by omega) hb
  | .con _ _, k, hb => by rw [show mapT (φL d) (.con _ _) k = .con _ _ from rfl]; exact Bd.mono (by omega) hb
  | .var m, k, hb => by
    rw [L_var]
    simp only [Bd] at hb
    split
    · simp only [Bd]; omega
    · simp only [Bd]; omega
  | .pi a b, k, hb => ⟨bd_L hd a k hb.1, bd_L hd b (k + 1) hb.2⟩
  | .lam a b, k, hb => ⟨bd_L hd a k hb.1, bd_L hd b (k + 1) hb.2⟩
  | .app a b, k, hb => ⟨bd_L hd a k hb.1, bd_L hd b k hb.2⟩
  | .lett a b c, k, hb => ⟨bd_L hd a k hb.1, bd_L hd b k hb.2.1, bd_L hd c (k + 1) hb.2.2⟩
theorem ht_L {d : Int} : ∀ (t : Tm) (k : Int), ht (mapT (φL d) t k) = ht t
  | .sort _, k => rfl
  | .con _ _, k => rfl
  | .var m, k => by rw [L_var]; split <;> rfl
  | .pi a b, k => by simp only [mapT, ht, ht_L a, ht_L b]
  | .lam a b, k => by simp only [mapT, ht, ht_L a, ht_L b]
  | .app a b, k => by simp only [mapT, ht, ht_L a, ht_L b]
  | .lett a b c, k => by simp only [mapT, ht, ht_L a, ht_L b, ht_L c]
theorem bd_P {M : Int} {u : Tm} {a : Int} (ha : 0 ≤ a) (hu : Bd M u) : ∀ (t : Tm) (k : Int), 0 ≤ k → Bd M t → Bd (M + k + ht t) (mapT (φP [u] a) t k)
  | .sort _, k, hk, hb => Bd.mono (by simp only [ht]; omega) hb
  | .con _ _, k, hk, hb => by rw [show mapT (φP [u] a) (.con _ _) k = .con _ _ from rfl]; exact Bd.mono (by simp only [ht]; omega) hb
  | .var m, k, hk, hb => by
    rw [P_var1 _ _ _ _ ha]
    simp only [Bd] at hb
    simp only [ht]
    split
    · simp only [Bd]; omega
    · split
      · exact Bd.mono (by omega) (bd_L hk u 0 hu)
      · simp only [Bd]; omega
  | .pi x y, k, hk, hb => by have := ht_nonneg x; have := ht_nonneg y; exact ⟨Bd.mono (by simp only [ht]; omega) (bd_P ha hu x k hk hb.1), Bd.mono (by simp only [ht]; omega) (bd_P ha hu y (k + 1) (by omega) hb.2)⟩
  | .lam x y, k, hk, hb => by have := ht_nonneg x; have := ht_nonneg y; exact ⟨Bd.mono (by simp only [ht]; omega) (bd_P ha hu x k hk hb.1), Bd.mono (by simp only [ht]; omega) (bd_P ha hu y (k + 1) (by omega) hb.2)⟩
  | .app x y, k, hk, hb => by have := ht_nonneg x; have := ht_nonneg y; exact ⟨Bd.mono (by simp only [ht]; omega) (bd_P ha hu x k hk hb.1), Bd.mono (by simp only [ht]; omega) (bd_P ha hu y k hk hb.2)⟩
  | .lett x y z, k, hk, hb => by have := ht_nonneg x; have := ht_nonneg y; have := ht_nonneg z; exact ⟨Bd.mono (by simp only [ht]; omega) (bd_P ha hu x k hk hb.1), Bd.mono (by simp only [ht]; omega) (bd_P ha hu y k hk hb.2.1), Bd.mono (by simp only [ht]; omega) (bd_P ha hu z (k + 1) (by omega) hb.2.2)⟩
theorem ht_P {u : Tm} {a : Int} (ha : 0 ≤ a) : ∀ (t : Tm) (k : Int), ht (mapT (φP [u] a) t k) ≤ ht t + ht u
  | .sort _, k => by have := ht_nonneg u; simp only [mapT, ht]; omega
  | .con _ _, k => by have := ht_nonneg u; rw [show mapT (φP [u] a) (.con _ _) k = .con _ _ from rfl]; simp only [ht]; omega
  | .var m, k => by
    have := ht_nonneg u
    rw [P_var1 _ _ _ _ ha]
    split
    · simp only [ht]; omega
    · split
      · rw [ht_L]; simp only [ht]; omega
      · simp only [ht]; omega
  | .pi x y, k => by have := ht_P (u := u) ha x k; have := ht_P (u := u) ha y (k + 1); simp only [mapT, ht]; omega
  | .lam x y, k => by have := ht_P (u := u) ha x k; have := ht_P (u := u) ha y (k + 1); simp only [mapT, ht]; omega
  | .app x y, k => by have := ht_P (u := u) ha x k; have := ht_P (u := u) ha y k; simp only [mapT, ht]; omega
  | .lett x y z, k => by have := ht_P (u := u) ha x k; have := ht_P (u := u) ha y k; have := ht_P (u := u) ha z (k + 1); simp only [mapT, ht]; omega
end Go.Vd

namespace Go.Vd
open Go Go.RowKit Go.Proofs
set_option maxRecDepth 100000
set_option maxHeartbeats 0
noncomputable abbrev capN (a : Int) : List AV := [.imm [i64 a] 0, .imm [.nils] 0]
noncomputable abbrev sz3 (k m : Int) (s : List Nat) (a b c : AV) : AV := .imm [i64 k, i64 m, .str s, a, b, c] 0
theorem cn_a {cf : CallF} {n : Nat} {h : AHeap} {m : Int} {k : Int} {a : Int} : (stepI Try.prog H1 (flL [(2, 7), (4, 3), (5, 6), (5, 7)]) 44 cf n [.imm (vc m) 0, i64 k, .imm [i64 a] 0, .imm [.nils] 0] h).Goes [.ok (.bool true) h] (.ok .nilp h) =
  (OR.ok (.bool (ilt (nn m k a) 0)) h = .ok (.bool true) h ∧ (.ok .nilp h : OR) = (.ok .nilp h)) := by kernel_rfl
theorem cn_c {cf : CallF} {n : Nat} {h : AHeap} {m : Int} {k : Int} {a : Int} {x : AV} : (stepI Try.prog H1 (flL [(2, 7), (4, 3), (5, 6), (5, 7)]) 44 cf n [.imm (vc m) 0, i64 k, .imm [i64 a] 0, .imm [.nils] 0] h).Goes [.ok (.bool false) h, .ok (.bool false) h, .ok x h] (.ok x h) =
  (OR.ok (.bool (ilt (nn m k a) 0)) h = .ok (.bool false) h ∧ OR.ok (.bool (ilt (nn m k a) (Int.ofNat 0))) h = .ok (.bool false) h ∧ cf 32 [i64 (wrapK .i64 (m - 0))] h = .ok x h ∧ (.ok x h : OR) = (.ok x h)) := by kernel_rfl
theorem cn_d (n : Nat) (h : AHeap) (s : List Nat) (m k a : Int) : ev (n + 1) 44 (.imm (kc s m) 0 :: i64 k :: capN a) h = .ok .nilp h := by kernel_rfl
theorem putsn {cf : CallF} {n : Nat} {h : AHeap} {h2 : AHeap} {a : Int} {x : AV} {t : AV} : (stepI Try.prog H1 fl0 35 cf n [t, .nils, i64 a] h).Goes [.ok x h2] (.ok x h2) =
  (cf 30 [t, i64 0, .func 44 (capN a)] h = .ok x h2 ∧ (.ok x h2 : OR) = (.ok x h2)) := by kernel_rfl
theorem sz_1 {cf : CallF} {n : Nat} {h : AHeap} {most : Int} : (stepI Try.prog H1 (flL [(1, 4)]) 43 cf n [.nilp, i64 most] h).Goes [] (.ok (i64 0) h) =
  ((.ok (i64 0) h : OR) = (.ok (i64 0) h)) := by kernel_rfl
theorem sz_2 {cf : CallF} {n : Nat} {h : AHeap} {m : Int} {k : Int} {most : Int} {s : List Nat} {a : AV} {b : AV} {c : AV} : (stepI Try.prog H1 (flL [(1, 4)]) 43 cf n [sz3 k m s a b c, i64 most] h).Goes [.ok (.bool true) h] (.ok (i64 0) h) =
  (OR.ok (.bool (!(ilt 0 most))) h = .ok (.bool true) h ∧ (.ok (i64 0) h : OR) = (.ok (i64 0) h)) := by kernel_rfl
theorem sz_3 {cf : CallF} {n : Nat} {h : AHeap} {m : Int} {k : Int} {most : Int} {s : List Nat} {a : AV} {b : AV} {c : AV} {r1 : Int} {r2 : Int} {r3 : Int} : (stepI Try.prog H1 (flL [(1, 4)]) 43 cf n [sz3 k m s a b c, i64 most] h).Goes [.ok (.bool false) h, .ok (i64 r1) h, .ok (i64 r2) h, .ok (i64 r3) h] (.ok (i64 (wrapK .i64 ((wrapK .i64 ((wrapK .i64 (1 + r1)) + r2)) + r3))) h) =
  (OR.ok (.bool (!(ilt 0 most))) h = .ok (.bool false) h ∧ cf 43 [a, i64 (wrapK .i64 (most - 1))] h = .ok (i64 r1) h ∧ cf 43 [b, i64 (wrapK .i64 (most - (wrapK .i64 (1 + r1))))] h = .ok (i64 r2) h ∧ cf 43 [c, i64 (wrapK .i64 (most - (wrapK .i64 ((wrapK .i64 (1 + r1)) + r2))))] h = .ok (i64 r3) h ∧ (.ok (i64 (wrapK .i64 ((wrapK .i64 ((wrapK .i64 (1 + r1)) + r2)) + r3))) h : OR) = (.ok (i64 (wrapK .i64 ((wrapK .i64 ((wrapK .i64 (1 + r1)) + r2)) + r3))) h)) := by kernel_rfl
theorem size29 {cf : CallF} {n : Nat} {h : AHeap} {t : AV} {r1 : Int} : (stepI Try.prog H1 fl0 29 cf n [t] h).Goes [.ok (i64 r1) h] (.ok (i64 r1) h) =
  (cf 43 [t, i64 3001] h = .ok (i64 r1) h ∧ (.ok (i64 r1) h : OR) = (.ok (i64 r1) h)) := by kernel_rfl
theorem light10 {cf : CallF} {n : Nat} {h : AHeap} {t : AV} {u : AV} {v : AV} {r1 : Int} {r2 : Int} {r3 : Int} {r : Bool} : (stepI Try.prog H1 (flL [(1, 8)]) 10 cf n [t, u, v] h).Goes [.ok (i64 r1) h, .ok (i64 r2) h, .ok (i64 r3) h, .ok (.bool r) h] (.ok (.bool r) h) =
  (cf 29 [t] h = .ok (i64 r1) h ∧ cf 29 [u] h = .ok (i64 r2) h ∧ cf 29 [v] h = .ok (i64 r3) h ∧ OR.ok (.bool (!(ilt 2000000 (wrapK .i64 (wrapK .i64 (r1 * r2) * r3))))) h = .ok (.bool r) h ∧ (.ok (.bool r) h : OR) = (.ok (.bool r) h)) := by kernel_rfl
theorem sw_n1 {cf : CallF} {n : Nat} {h : AHeap} {h1 : AHeap} {h2 : AHeap} {h3 : AHeap} {h4 : AHeap} {s : AV} {u : AV} {w : AV} {v2 : AV} {v3 : AV} : (stepI Try.prog H1 fl0 7 cf n [s, u, w] h).Goes [.ok (.bool true) h1, .ok .nilp h2, .ok v2 h3, .ok v3 h4] (.ok (.bool true) h4) =
  (cf 8 [] h = .ok (.bool true) h1 ∧ cf 9 [s] h1 = .ok .nilp h2 ∧ cf 9 [u] h2 = .ok v2 h3 ∧ cf 9 [w] h3 = .ok v3 h4 ∧ (.ok (.bool true) h4 : OR) = (.ok (.bool true) h4)) := by kernel_rfl
theorem sw_n2 {cf : CallF} {n : Nat} {h : AHeap} {h1 : AHeap} {h2 : AHeap} {h3 : AHeap} {h4 : AHeap} {s : AV} {u : AV} {w : AV} {v3 : AV} {x1 : List AV} : (stepI Try.prog H1 fl0 7 cf n [s, u, w] h).Goes [.ok (.bool true) h1, .ok (.imm x1 0) h2, .ok .nilp h3, .ok v3 h4] (.ok (.bool true) h4) =
  (cf 8 [] h = .ok (.bool true) h1 ∧ cf 9 [s] h1 = .ok (.imm x1 0) h2 ∧ cf 9 [u] h2 = .ok .nilp h3 ∧ cf 9 [w] h3 = .ok v3 h4 ∧ (.ok (.bool true) h4 : OR) = (.ok (.bool true) h4)) := by kernel_rfl
theorem sw_n3 {cf : CallF} {n : Nat} {h : AHeap} {h1 : AHeap} {h2 : AHeap} {h3 : AHeap} {h4 : AHeap} {s : AV} {u : AV} {w : AV} {x1 : List AV} {x2 : List AV} : (stepI Try.prog H1 fl0 7 cf n [s, u, w] h).Goes [.ok (.bool true) h1, .ok (.imm x1 0) h2, .ok (.imm x2 0) h3, .ok .nilp h4] (.ok (.bool true) h4) =
  (cf 8 [] h = .ok (.bool true) h1 ∧ cf 9 [s] h1 = .ok (.imm x1 0) h2 ∧ cf 9 [u] h2 = .ok (.imm x2 0) h3 ∧ cf 9 [w] h3 = .ok .nilp h4 ∧ (.ok (.bool true) h4 : OR) = (.ok (.bool true) h4)) := by kernel_rfl
theorem sw_l {cf : CallF} {n : Nat} {h : AHeap} {h1 : AHeap} {h2 : AHeap} {h3 : AHeap} {h4 : AHeap} {h5 : AHeap} {s : AV} {u : AV} {w : AV} {x1 : List AV} {x2 : List AV} {x3 : List AV} : (stepI Try.prog H1 fl0 7 cf n [s, u, w] h).Goes [.ok (.bool true) h1, .ok (.imm x1 0) h2, .ok (.imm x2 0) h3, .ok (.imm x3 0) h4, .ok (.bool false) h5] (.ok (.bool true) h5) =
  (cf 8 [] h = .ok (.bool true) h1 ∧ cf 9 [s] h1 = .ok (.imm x1 0) h2 ∧ cf 9 [u] h2 = .ok (.imm x2 0) h3 ∧ cf 9 [w] h3 = .ok (.imm x3 0) h4 ∧ cf 10 [.imm x1 0, .imm x2 0, .imm x3 0] h4 = .ok (.bool false) h5 ∧ (.ok (.bool true) h5 : OR) = (.ok (.bool true) h5)) := by kernel_rfl
theorem sw_t {cf : CallF} {n : Nat} {h : AHeap} {h1 : AHeap} {h2 : AHeap} {h3 : AHeap} {h4 : AHeap} {h5 : AHeap} {h6 : AHeap} {h7 : AHeap} {h8 : AHeap} {h9 : AHeap} {h10 : AHeap} {h11 : AHeap} {h12 : AHeap} {s : AV} {u : AV} {w : AV} {x1 : List AV} {x2 : List AV} {x3 : List AV} {a1 : AV} {a2 : AV} {a3 : AV} {a4 : AV} {a5 : AV} {a6 : AV} : (stepI Try.prog H1 fl0 7 cf n [s, u, w] h).Goes [.ok (.bool true) h1, .ok (.imm x1 0) h2, .ok (.imm x2 0) h3, .ok (.imm x3 0) h4, .ok (.bool true) h5, .ok a1 h6, .ok a2 h7, .ok a3 h8, .ok a4 h9, .ok a5 h10, .ok a6 h11, .ok (.bool true) h12] (.ok (.bool true) h12) =
  (cf 8 [] h = .ok (.bool true) h1 ∧ cf 9 [s] h1 = .ok (.imm x1 0) h2 ∧ cf 9 [u] h2 = .ok (.imm x2 0) h3 ∧ cf 9 [w] h3 = .ok (.imm x3 0) h4 ∧ cf 10 [.imm x1 0, .imm x2 0, .imm x3 0] h4 = .ok (.bool true) h5 ∧ cf 15 [.imm x1 0, .imm x2 0, i64 0] h5 = .ok a1 h6 ∧ cf 15 [a1, .imm x3 0, i64 0] h6 = .ok a2 h7 ∧ cf 13 [.imm x3 0, i64 1, i64 0] h7 = .ok a3 h8 ∧ cf 15 [.imm x1 0, a3, i64 1] h8 = .ok a4 h9 ∧ cf 15 [.imm x2 0, .imm x3 0, i64 0] h9 = .ok a5 h10 ∧ cf 15 [a4, a5, i64 0] h10 = .ok a6 h11 ∧ cf 12 [a2, a6] h11 = .ok (.bool true) h12 ∧ (.ok (.bool true) h12 : OR) = (.ok (.bool true) h12)) := by kernel_rfl
theorem bk_n1 {cf : CallF} {n : Nat} {h : AHeap} {h1 : AHeap} {h2 : AHeap} {h3 : AHeap} {h4 : AHeap} {s : AV} {u : AV} {w : AV} {v2 : AV} {v3 : AV} : (stepI Try.prog H1 fl0 4 cf n [s, u, w] h).Goes [.ok (.bool true) h1, .ok .nilp h2, .ok v2 h3, .ok v3 h4] (.ok (.bool true) h4) =
  (cf 8 [] h = .ok (.bool true) h1 ∧ cf 9 [s] h1 = .ok .nilp h2 ∧ cf 9 [u] h2 = .ok v2 h3 ∧ cf 9 [w] h3 = .ok v3 h4 ∧ (.ok (.bool true) h4 : OR) = (.ok (.bool true) h4)) := by kernel_rfl
theorem bk_n2 {cf : CallF} {n : Nat} {h : AHeap} {h1 : AHeap} {h2 : AHeap} {h3 : AHeap} {h4 : AHeap} {s : AV} {u : AV} {w : AV} {v3 : AV} {x1 : List AV} : (stepI Try.prog H1 fl0 4 cf n [s, u, w] h).Goes [.ok (.bool true) h1, .ok (.imm x1 0) h2, .ok .nilp h3, .ok v3 h4] (.ok (.bool true) h4) =
  (cf 8 [] h = .ok (.bool true) h1 ∧ cf 9 [s] h1 = .ok (.imm x1 0) h2 ∧ cf 9 [u] h2 = .ok .nilp h3 ∧ cf 9 [w] h3 = .ok v3 h4 ∧ (.ok (.bool true) h4 : OR) = (.ok (.bool true) h4)) := by kernel_rfl
theorem bk_n3 {cf : CallF} {n : Nat} {h : AHeap} {h1 : AHeap} {h2 : AHeap} {h3 : AHeap} {h4 : AHeap} {s : AV} {u : AV} {w : AV} {x1 : List AV} {x2 : List AV} : (stepI Try.prog H1 fl0 4 cf n [s, u, w] h).Goes [.ok (.bool true) h1, .ok (.imm x1 0) h2, .ok (.imm x2 0) h3, .ok .nilp h4] (.ok (.bool true) h4) =
  (cf 8 [] h = .ok (.bool true) h1 ∧ cf 9 [s] h1 = .ok (.imm x1 0) h2 ∧ cf 9 [u] h2 = .ok (.imm x2 0) h3 ∧ cf 9 [w] h3 = .ok .nilp h4 ∧ (.ok (.bool true) h4 : OR) = (.ok (.bool true) h4)) := by kernel_rfl
theorem bk_l {cf : CallF} {n : Nat} {h : AHeap} {h1 : AHeap} {h2 : AHeap} {h3 : AHeap} {h4 : AHeap} {h5 : AHeap} {s : AV} {u : AV} {w : AV} {x1 : List AV} {x2 : List AV} {x3 : List AV} : (stepI Try.prog H1 fl0 4 cf n [s, u, w] h).Goes [.ok (.bool true) h1, .ok (.imm x1 0) h2, .ok (.imm x2 0) h3, .ok (.imm x3 0) h4, .ok (.bool false) h5] (.ok (.bool true) h5) =
  (cf 8 [] h = .ok (.bool true) h1 ∧ cf 9 [s] h1 = .ok (.imm x1 0) h2 ∧ cf 9 [u] h2 = .ok (.imm x2 0) h3 ∧ cf 9 [w] h3 = .ok (.imm x3 0) h4 ∧ cf 10 [.imm x1 0, .imm x2 0, .imm x3 0] h4 = .ok (.bool false) h5 ∧ (.ok (.bool true) h5 : OR) = (.ok (.bool true) h5)) := by kernel_rfl
theorem bk_t {cf : CallF} {n : Nat} {h : AHeap} {h1 : AHeap} {h2 : AHeap} {h3 : AHeap} {h4 : AHeap} {h5 : AHeap} {h6 : AHeap} {h7 : AHeap} {h8 : AHeap} {h9 : AHeap} {h10 : AHeap} {h11 : AHeap} {h12 : AHeap} {h13 : AHeap} {h14 : AHeap} {h15 : AHeap} {h16 : AHeap} {h17 : AHeap} {h18 : AHeap} {h19 : AHeap} {s : AV} {u : AV} {w : AV} {x1 : List AV} {x2 : List AV} {x3 : List AV} {a1 : AV} {a2 : AV} {a3 : AV} {a4 : AV} {a5 : AV} {a6 : AV} {a7 : AV} {a8 : AV} {a9 : AV} {a10 : AV} {fr : Int} : (stepI Try.prog H1 fl0 4 cf n [s, u, w] h).Goes [.ok (.bool true) h1, .ok (.imm x1 0) h2, .ok (.imm x2 0) h3, .ok (.imm x3 0) h4, .ok (.bool true) h5, .ok a1 h6, .ok a2 h7, .ok a3 h8, .ok a4 h9, .ok a5 h10, .ok a6 h11, .ok a7 h12, .ok a8 h13, .ok (i64 fr) h14, .ok a9 h15, .ok (.bool true) h16, .ok a10 h17, .ok (.bool true) h18, .ok (.bool true) h19, .ok (.bool true) h19] (.ok (.bool true) h19) =
  (cf 8 [] h = .ok (.bool true) h1 ∧ cf 9 [s] h1 = .ok (.imm x1 0) h2 ∧ cf 9 [u] h2 = .ok (.imm x2 0) h3 ∧ cf 9 [w] h3 = .ok (.imm x3 0) h4 ∧ cf 10 [.imm x1 0, .imm x2 0, .imm x3 0] h4 = .ok (.bool true) h5 ∧ cf 13 [.imm x1 0, i64 1, i64 0] h5 = .ok a1 h6 ∧ cf 15 [a1, .imm x2 0, i64 0] h6 = .ok a2 h7 ∧ cf 13 [.imm x1 0, i64 2, i64 0] h7 = .ok a3 h8 ∧ cf 13 [a3, i64 3, i64 1] h8 = .ok a4 h9 ∧ cf 19 [.imm x1 0, .fl [.imm x2 0, .imm x3 0] 0 2 1 true] h9 = .ok a5 h10 ∧ cf 13 [.imm x3 0, i64 1, i64 0] h10 = .ok a6 h11 ∧ cf 15 [.imm x1 0, a6, i64 0] h11 = .ok a7 h12 ∧ cf 15 [a7, .imm x2 0, i64 0] h12 = .ok a8 h13 ∧ cf 21 [.imm x1 0] h13 = .ok (i64 fr) h14 ∧ cf 15 [.imm x1 0, .imm x2 0, i64 fr] h14 = .ok a9 h15 ∧ cf 12 [a2, .imm x1 0] h15 = .ok (.bool true) h16 ∧ cf 13 [.imm x1 0, i64 5, i64 0] h16 = .ok a10 h17 ∧ cf 12 [a4, a10] h17 = .ok (.bool true) h18 ∧ cf 12 [a5, a8] h18 = .ok (.bool true) h19 ∧ cf 12 [a9, .imm x1 0] h19 = .ok (.bool true) h19 ∧ (.ok (.bool true) h19 : OR) = (.ok (.bool true) h19)) := by kernel_rfl
theorem fr_n1 {cf : CallF} {n : Nat} {h : AHeap} {h1 : AHeap} {h2 : AHeap} {h3 : AHeap} {s : AV} {u : AV} {v2 : AV} {by' : Int} {at' : Int} : (stepI Try.prog H1 fl0 6 cf n [s, u, .int .u8 by', .int .u8 at'] h).Goes [.ok (.bool true) h1, .ok .nilp h2, .ok v2 h3] (.ok (.bool true) h3) =
  (cf 8 [] h = .ok (.bool true) h1 ∧ cf 9 [s] h1 = .ok .nilp h2 ∧ cf 9 [u] h2 = .ok v2 h3 ∧ (.ok (.bool true) h3 : OR) = (.ok (.bool true) h3)) := by kernel_rfl
theorem fr_n2 {cf : CallF} {n : Nat} {h : AHeap} {h1 : AHeap} {h2 : AHeap} {h3 : AHeap} {s : AV} {u : AV} {x1 : List AV} {by' : Int} {at' : Int} : (stepI Try.prog H1 fl0 6 cf n [s, u, .int .u8 by', .int .u8 at'] h).Goes [.ok (.bool true) h1, .ok (.imm x1 0) h2, .ok .nilp h3] (.ok (.bool true) h3) =
  (cf 8 [] h = .ok (.bool true) h1 ∧ cf 9 [s] h1 = .ok (.imm x1 0) h2 ∧ cf 9 [u] h2 = .ok .nilp h3 ∧ (.ok (.bool true) h3 : OR) = (.ok (.bool true) h3)) := by kernel_rfl
theorem fr_t {cf : CallF} {n : Nat} {h : AHeap} {h1 : AHeap} {h2 : AHeap} {h3 : AHeap} {h4 : AHeap} {h5 : AHeap} {h6 : AHeap} {h7 : AHeap} {h8 : AHeap} {h9 : AHeap} {h10 : AHeap} {h11 : AHeap} {h12 : AHeap} {h13 : AHeap} {s : AV} {u : AV} {x1 : List AV} {x2 : List AV} {a1 : AV} {a2 : AV} {a3 : AV} {a4 : AV} {by' : Int} {at' : Int} {n0 : Int} {fb : Int} {fc : Int} {fx : Int} {mx : Int} : (stepI Try.prog H1 (flL [(11, 1), (13, 7), (13, 16), (13, 17)]) 6 cf n [s, u, .int .u8 by', .int .u8 at'] h).Goes [.ok (.bool true) h1, .ok (.imm x1 0) h2, .ok (.imm x2 0) h3, .ok (i64 n0) h4, .ok a1 h5, .ok a2 h6, .ok a3 h7, .ok (.bool true) h7, .ok (.bool true) h8, .ok (i64 fb) h9, .ok (.bool true) h9, .ok (i64 fc) h10, .ok (i64 fx) h11, .ok (i64 mx) h11, .ok (.bool true) h11, .ok a4 h12, .ok (.bool true) h13] (.ok (.bool true) h13) =
  (cf 8 [] h = .ok (.bool true) h1 ∧ cf 9 [s] h1 = .ok (.imm x1 0) h2 ∧ cf 9 [u] h2 = .ok (.imm x2 0) h3 ∧ cf 21 [.imm x1 0] h3 = .ok (i64 n0) h4 ∧ cf 13 [.imm x1 0, i64 (wrapK .i64 (Int.tmod by' 20)), i64 (wrapK .i64 (n0 + wrapK .i64 at'))] h4 = .ok a1 h5 ∧ cf 13 [.imm x1 0, i64 (wrapK .i64 (Int.tmod by' 20)), i64 0] h5 = .ok a2 h6 ∧ cf 15 [.imm x1 0, .imm x2 0, i64 0] h6 = .ok a3 h7 ∧ OR.ok (.bool (ilt 0 n0)) h7 = .ok (.bool true) h7 ∧ cf 12 [a1, .imm x1 0] h7 = .ok (.bool true) h8 ∧ cf 21 [a2] h8 = .ok (i64 fb) h9 ∧ OR.ok (.bool (ieq fb (wrapK .i64 (n0 + (wrapK .i64 (Int.tmod by' 20)))))) h9 = .ok (.bool true) h9 ∧ cf 21 [a3] h9 = .ok (i64 fc) h10 ∧ cf 21 [.imm x2 0] h10 = .ok (i64 fx) h11 ∧ OR.of h11 (minmaxAV true [i64 (wrapK .i64 (n0 - 1)), i64 fx]) = .ok (i64 mx) h11 ∧ OR.ok (.bool (!(ilt mx fc))) h11 = .ok (.bool true) h11 ∧ cf 19 [.imm x1 0, .nils] h11 = .ok a4 h12 ∧ cf 12 [a4, .imm x1 0] h12 = .ok (.bool true) h13 ∧ (.ok (.bool true) h13 : OR) = (.ok (.bool true) h13)) := by kernel_rfl
theorem fr_f {cf : CallF} {n : Nat} {h : AHeap} {h1 : AHeap} {h2 : AHeap} {h3 : AHeap} {h4 : AHeap} {h5 : AHeap} {h6 : AHeap} {h7 : AHeap} {h8 : AHeap} {h9 : AHeap} {h10 : AHeap} {h11 : AHeap} {h12 : AHeap} {h13 : AHeap} {s : AV} {u : AV} {x1 : List AV} {x2 : List AV} {a1 : AV} {a2 : AV} {a3 : AV} {a4 : AV} {by' : Int} {at' : Int} {n0 : Int} {fb : Int} {fc : Int} {fx : Int} {mx : Int} : (stepI Try.prog H1 (flL [(11, 1), (13, 7), (13, 16), (13, 17)]) 6 cf n [s, u, .int .u8 by', .int .u8 at'] h).Goes [.ok (.bool true) h1, .ok (.imm x1 0) h2, .ok (.imm x2 0) h3, .ok (i64 n0) h4, .ok a1 h5, .ok a2 h6, .ok a3 h7, .ok (.bool false) h7, .ok (.bool true) h8, .ok (i64 fb) h9, .ok (.bool true) h9, .ok (i64 fc) h10, .ok (i64 fx) h11, .ok (i64 mx) h11, .ok (.bool true) h11, .ok a4 h12, .ok (.bool true) h13] (.ok (.bool true) h13) =
  (cf 8 [] h = .ok (.bool true) h1 ∧ cf 9 [s] h1 = .ok (.imm x1 0) h2 ∧ cf 9 [u] h2 = .ok (.imm x2 0) h3 ∧ cf 21 [.imm x1 0] h3 = .ok (i64 n0) h4 ∧ cf 13 [.imm x1 0, i64 (wrapK .i64 (Int.tmod by' 20)), i64 (wrapK .i64 (n0 + wrapK .i64 at'))] h4 = .ok a1 h5 ∧ cf 13 [.imm x1 0, i64 (wrapK .i64 (Int.tmod by' 20)), i64 0] h5 = .ok a2 h6 ∧ cf 15 [.imm x1 0, .imm x2 0, i64 0] h6 = .ok a3 h7 ∧ OR.ok (.bool (ilt 0 n0)) h7 = .ok (.bool false) h7 ∧ cf 12 [a1, .imm x1 0] h7 = .ok (.bool true) h8 ∧ cf 21 [a2] h8 = .ok (i64 fb) h9 ∧ OR.ok (.bool (ieq fb 0)) h9 = .ok (.bool true) h9 ∧ cf 21 [a3] h9 = .ok (i64 fc) h10 ∧ cf 21 [.imm x2 0] h10 = .ok (i64 fx) h11 ∧ OR.of h11 (minmaxAV true [i64 (wrapK .i64 (n0 - 1)), i64 fx]) = .ok (i64 mx) h11 ∧ OR.ok (.bool (!(ilt mx fc))) h11 = .ok (.bool true) h11 ∧ cf 19 [.imm x1 0, .nils] h11 = .ok a4 h12 ∧ cf 12 [a4, .imm x1 0] h12 = .ok (.bool true) h13 ∧ (.ok (.bool true) h13 : OR) = (.ok (.bool true) h13)) := by kernel_rfl
end Go.Vd

namespace Go.Vd
open Go Go.RowKit Go.Proofs
set_option maxRecDepth 100000
theorem termV {s : List Nat} (hs : By s) : ∃ v, (v = .nilp ∨ ∃ t, v = tw t ∧ Bd (2 ^ 30) t ∧ ht t ≤ 3000) ∧ ∃ N, ∀ n, N ≤ n → ∀ h, ∃ h', ev n 9 [.str s] h = .ok v h' := by
  rcases termX hs with ⟨N, k⟩ | ⟨t, hb, hh, N, k⟩
  · exact ⟨_, .inl rfl, N, fun n hn h => let ⟨h', e, _⟩ := k n hn h; ⟨h', e⟩⟩
  · exact ⟨_, .inr ⟨t, rfl, hb, hh⟩, N, fun n hn h => let ⟨h', e, _⟩ := k n hn h; ⟨h', e⟩⟩
theorem knownT {n : Nat} (hn : 40 ≤ n) : ∃ h1, ev n 8 [] ⟨0, .nil⟩ = .ok (.bool true) h1 := by
  obtain ⟨m, rfl⟩ : ∃ m, n = m + 40 := ⟨n - 40, by omega⟩
  exact isT_iff (known_at m)
theorem tells_nil {a : Int} (ha : 0 ≤ a) (ha2 : a ≤ 2 ^ 41) : Tells (2 ^ 61) 44 (capN a) (φP [] a) := by
  refine ⟨fun m k h1 h2 h3 h4 => ?_, fun s m k h1 h2 h3 h4 => (ok_leaf fun n h => cn_d n h s m k a).x⟩
  have hn := nn_id h1 h2 h3 h4 ha ha2
  simp only [φP, List.length_nil]
  by_cases q : m - k - a < 0
  · rw [if_pos q]
    exact (ok_step fl44 0 fun n hn' h => ⟨_, cn_a.mpr ⟨by rw [hn, ilt_eq]; simp [q], rfl⟩⟩).x
  · rw [if_neg q, if_neg (by omega)]
    obtain ⟨N, kk⟩ := ok_var32 (m - 0)
    exact (ok_step fl44 N fun n hn' h => ⟨_, cn_c.mpr ⟨by rw [hn, ilt_eq]; simp; omega, obE (ilt_f (by rw [hn]; show (0 : Int) ≤ _; omega)), by rw [wrap_id (by omega) (by omega)]; exact kk n hn' h, rfl⟩⟩).x
theorem okx_alln (t : Tm) (hb : Bd (2 ^ 61) t) (hh : ht t ≤ 2 ^ 41) : OkX 19 [tw t, .nils] (tw t) := by
  obtain ⟨N, kk⟩ := okx_maps (.inr (.inr rfl)) (tells_nil (a := 0) (Int.le_refl _) (by omega)) t 0 hb (Int.le_refl _) (by omega)
  rw [all0] at kk
  obtain ⟨N', kk'⟩ : OkX 35 [tw t, .nils, i64 0] (tw t) := okx_step fl0 N fun n hn h => by
    obtain ⟨h2, e2, E2⟩ := kk n hn h
    exact ⟨_, h2, putsn.mpr ⟨e2, rfl⟩, E2⟩
  refine okx_step fl0 N' fun n hn h => ?_
  obtain ⟨h2, e2, E2⟩ := kk' n hn h
  exact ⟨_, h2, (all19 (ev n) n h h2 (tw t) _ _).mpr ⟨e2, rfl⟩, E2⟩
def SzAt (v : AV) : Prop := ∀ most : Int, ∃ r, Ok 43 [v, i64 most] (i64 r)
theorem sz_nil : SzAt .nilp := fun _ => ⟨0, ok_step (flL [(1, 4)]) 0 fun _ _ _ => ⟨_, sz_1.mpr rfl⟩⟩
theorem sz_node {k m : Int} {s : List Nat} {a b c : AV} (ha : SzAt a) (hb : SzAt b) (hc : SzAt c) : SzAt (sz3 k m s a b c) := fun most => by
  cases q : (!(ilt 0 most)) with
  | true => exact ⟨0, ok_step (flL [(1, 4)]) 0 fun n hn h => ⟨_, sz_2.mpr ⟨obE q, rfl⟩⟩⟩
  | false =>
    obtain ⟨r1, N1, k1⟩ := ha (wrapK .i64 (most - 1))
    obtain ⟨r2, N2, k2⟩ := hb (wrapK .i64 (most - wrapK .i64 (1 + r1)))
    obtain ⟨r3, N3, k3⟩ := hc (wrapK .i64 (most - wrapK .i64 (wrapK .i64 (1 + r1) + r2)))
    exact ⟨_, ok_step (flL [(1, 4)]) (N1 + N2 + N3) fun n hn h => ⟨_, sz_3.mpr ⟨obE q, k1 n (by omega) h, k2 n (by omega) h, k3 n (by omega) h, rfl⟩⟩⟩
theorem sz_ok : ∀ t : Tm, SzAt (tw t)
  | .sort _ => sz_node sz_nil sz_nil sz_nil
  | .var _ => sz_node sz_nil sz_nil sz_nil
  | .con _ _ => sz_node sz_nil sz_nil sz_nil
  | .pi a b => sz_node (sz_ok a) (sz_ok b) sz_nil
  | .lam a b => sz_node (sz_ok a) (sz_ok b) sz_nil
  | .app a b => sz_node (sz_ok a) (sz_ok b) sz_nil
  | .lett a b c => sz_node (sz_ok a) (sz_ok b) (sz_ok c)
theorem light_ok (t u v : Tm) : ∃ b, Ok 10 [tw t, tw u, tw v] (.bool b) := by
  have sz : ∀ t : Tm, ∃ r, Ok 29 [tw t] (i64 r) := fun t => by
    obtain ⟨r, N, k⟩ := sz_ok t 3001
    exact ⟨r, ok_step fl0 N fun n hn h => ⟨_, size29.mpr ⟨k n hn h, rfl⟩⟩⟩
  obtain ⟨r1, N1, k1⟩ := sz t
  obtain ⟨r2, N2, k2⟩ := sz u
  obtain ⟨r3, N3, k3⟩ := sz v
  exact ⟨_, ok_step (flL [(1, 8)]) (N1 + N2 + N3) fun n hn h => ⟨_, light10.mpr ⟨k1 n (by omega) h, k2 n (by omega) h, k3 n (by omega) h, rfl, rfl⟩⟩⟩
open Classical in
theorem same_true (t : Tm) : Ok 12 [tw t, tw t] (.bool true) := by have := ok_same t t; rwa [decide_eq_true rfl] at this
theorem swaps_ev {s u w : List Nat} (hs : By s) (hu : By u) (hw : By w) : ∃ N h', ev N 7 [.str s, .str u, .str w] ⟨0, .nil⟩ = .ok (.bool true) h' := by
  obtain ⟨v1, c1, N1, k1⟩ := termV hs
  obtain ⟨v2, c2, N2, k2⟩ := termV hu
  obtain ⟨v3, c3, N3, k3⟩ := termV hw
  have pre : ∀ n, N1 + N2 + N3 + 40 ≤ n → ∃ h1 h2 h3 h4, ev n 8 [] ⟨0, .nil⟩ = .ok (.bool true) h1 ∧ ev n 9 [.str s] h1 = .ok v1 h2 ∧ ev n 9 [.str u] h2 = .ok v2 h3 ∧ ev n 9 [.str w] h3 = .ok v3 h4 := fun n hn => by
    obtain ⟨h1, e1⟩ := knownT (n := n) (by omega)
    obtain ⟨h2, e2⟩ := k1 n (by omega) h1
    obtain ⟨h3, e3⟩ := k2 n (by omega) h2
    obtain ⟨h4, e4⟩ := k3 n (by omega) h3
    exact ⟨h1, h2, h3, h4, e1, e2, e3, e4⟩
  rcases c1 with rfl | ⟨t, rfl, bt, ht'⟩
  · obtain ⟨h1, h2, h3, h4, e1, e2, e3, e4⟩ := pre _ (Nat.le_refl _)
    exact ⟨_, h4, goes_call fl0 (sw_n1.mpr ⟨e1, e2, e3, e4, rfl⟩) (by simp)⟩
  rcases c2 with rfl | ⟨x, rfl, bx, hx⟩
  · obtain ⟨h1, h2, h3, h4, e1, e2, e3, e4⟩ := pre _ (Nat.le_refl _)
    exact ⟨_, h4, goes_call fl0 (sw_n2.mpr ⟨e1, e2, e3, e4, rfl⟩) (by simp)⟩
  rcases c3 with rfl | ⟨y, rfl, by', hy⟩
  · obtain ⟨h1, h2, h3, h4, e1, e2, e3, e4⟩ := pre _ (Nat.le_refl _)
    exact ⟨_, h4, goes_call fl0 (sw_n3.mpr ⟨e1, e2, e3, e4, rfl⟩) (by simp)⟩
  obtain ⟨b, N4, k4⟩ := light_ok t x y
  cases b with
  | false =>
    obtain ⟨h1, h2, h3, h4, e1, e2, e3, e4⟩ := pre (N1 + N2 + N3 + N4 + 40) (by omega)
    exact ⟨_, h4, goes_call fl0 (sw_l.mpr ⟨e1, e2, e3, e4, k4 _ (by omega) h4, rfl⟩) (by simp)⟩
  | true =>
    have pt := ht_nonneg t; have px := ht_nonneg x; have py := ht_nonneg y
    have bxy := bd_P (a := 0) (Int.le_refl _) by' x 0 (Int.le_refl _) bx
    have btx := bd_P (a := 0) (Int.le_refl _) bx t 0 (Int.le_refl _) bt
    have by1 := bd_L (d := 1) (by omega) y 0 by'
    have bty := bd_P (a := 1) (by omega) by1 t 0 (Int.le_refl _) (Bd.mono (by omega) bt)
    have htx := ht_P (u := x) (a := 0) (Int.le_refl _) t 0
    have hxy := ht_P (u := y) (a := 0) (Int.le_refl _) x 0
    have hty := ht_P (u := mapT (φL 1) y 0) (a := 1) (by omega) t 0
    have hy1 := ht_L (d := 1) y 0
    obtain ⟨N5, k5⟩ := okx_put t x (a := 0) (by omega) (by omega) (Bd.mono (by omega) bt) (by omega) (Bd.mono (by omega) bx) (by omega)
    obtain ⟨N6, k6⟩ := okx_put (mapT (φP [x] 0) t 0) y (a := 0) (by omega) (by omega) (Bd.mono (by omega) btx) (by omega) (Bd.mono (by omega) by') (by omega)
    obtain ⟨N7, k7⟩ := okx_lift (d := 1) (by omega) (by omega) y 0 (Bd.mono (by omega) by') (by omega) (by omega)
    obtain ⟨N8, k8⟩ := okx_put t (mapT (φL 1) y 0) (a := 1) (by omega) (by omega) (Bd.mono (by omega) bt) (by omega) (Bd.mono (by omega) by1) (by omega)
    obtain ⟨N9, k9⟩ := okx_put x y (a := 0) (by omega) (by omega) (Bd.mono (by omega) bx) (by omega) (Bd.mono (by omega) by') (by omega)
    obtain ⟨N10, k10⟩ := okx_put (mapT (φP [mapT (φL 1) y 0] 1) t 0) (mapT (φP [y] 0) x 0) (a := 0) (by omega) (by omega) (Bd.mono (by omega) bty) (by omega) (Bd.mono (by omega) bxy) (by omega)
    rw [← swap2 x y t 0 (Int.le_refl _)] at k10
    obtain ⟨N11, k11⟩ := same_true (mapT (φP [y] 0) (mapT (φP [x] 0) t 0) 0)
    let n := N1 + N2 + N3 + N4 + N5 + N6 + N7 + N8 + N9 + N10 + N11 + 40
    have hn : n = N1 + N2 + N3 + N4 + N5 + N6 + N7 + N8 + N9 + N10 + N11 + 40 := rfl
    obtain ⟨h1, h2, h3, h4, e1, e2, e3, e4⟩ := pre n (by omega)
    obtain ⟨h6, e6, _⟩ := k5 n (by omega) h4
    obtain ⟨h7, e7, _⟩ := k6 n (by omega) h6
    obtain ⟨h8, e8, _⟩ := k7 n (by omega) h7
    obtain ⟨h9, e9, _⟩ := k8 n (by omega) h8
    obtain ⟨h10, e10, _⟩ := k9 n (by omega) h9
    obtain ⟨h11, e11, _⟩ := k10 n (by omega) h10
    exact ⟨n + 1, h11, goes_call fl0 (sw_t.mpr ⟨e1, e2, e3, e4, k4 n (by omega) h4, e6, e7, e8, e9, e10, e11, k11 n (by omega) h11, rfl⟩) (by simp)⟩
theorem back_ev {s u w : List Nat} (hs : By s) (hu : By u) (hw : By w) : ∃ N h', ev N 4 [.str s, .str u, .str w] ⟨0, .nil⟩ = .ok (.bool true) h' := by
  obtain ⟨v1, c1, N1, k1⟩ := termV hs
  obtain ⟨v2, c2, N2, k2⟩ := termV hu
  obtain ⟨v3, c3, N3, k3⟩ := termV hw
  have pre : ∀ n, N1 + N2 + N3 + 40 ≤ n → ∃ h1 h2 h3 h4, ev n 8 [] ⟨0, .nil⟩ = .ok (.bool true) h1 ∧ ev n 9 [.str s] h1 = .ok v1 h2 ∧ ev n 9 [.str u] h2 = .ok v2 h3 ∧ ev n 9 [.str w] h3 = .ok v3 h4 := fun n hn => by
    obtain ⟨h1, e1⟩ := knownT (n := n) (by omega)
    obtain ⟨h2, e2⟩ := k1 n (by omega) h1
    obtain ⟨h3, e3⟩ := k2 n (by omega) h2
    obtain ⟨h4, e4⟩ := k3 n (by omega) h3
    exact ⟨h1, h2, h3, h4, e1, e2, e3, e4⟩
  rcases c1 with rfl | ⟨t, rfl, bt, ht'⟩
  · obtain ⟨h1, h2, h3, h4, e1, e2, e3, e4⟩ := pre _ (Nat.le_refl _)
    exact ⟨_, h4, goes_call fl0 (bk_n1.mpr ⟨e1, e2, e3, e4, rfl⟩) (by simp)⟩
  rcases c2 with rfl | ⟨x, rfl, bx, hx⟩
  · obtain ⟨h1, h2, h3, h4, e1, e2, e3, e4⟩ := pre _ (Nat.le_refl _)
    exact ⟨_, h4, goes_call fl0 (bk_n2.mpr ⟨e1, e2, e3, e4, rfl⟩) (by simp)⟩
  rcases c3 with rfl | ⟨y, rfl, by', hy⟩
  · obtain ⟨h1, h2, h3, h4, e1, e2, e3, e4⟩ := pre _ (Nat.le_refl _)
    exact ⟨_, h4, goes_call fl0 (bk_n3.mpr ⟨e1, e2, e3, e4, rfl⟩) (by simp)⟩
  obtain ⟨b, N4, k4⟩ := light_ok t x y
  cases b with
  | false =>
    obtain ⟨h1, h2, h3, h4, e1, e2, e3, e4⟩ := pre (N1 + N2 + N3 + N4 + 40) (by omega)
    exact ⟨_, h4, goes_call fl0 (bk_l.mpr ⟨e1, e2, e3, e4, k4 _ (by omega) h4, rfl⟩) (by simp)⟩
  | true =>
    have pt := ht_nonneg t; have px := ht_nonneg x; have py := ht_nonneg y
    have bt61 : Bd (2 ^ 61) t := Bd.mono (by omega) bt
    have bx61 : Bd (2 ^ 61) x := Bd.mono (by omega) bx
    have by61 : Bd (2 ^ 61) y := Bd.mono (by omega) by'
    have bt1 := bd_L (d := 1) (by omega) t 0 bt
    have bt2 := bd_L (d := 2) (by omega) t 0 bt
    have by1 := bd_L (d := 1) (by omega) y 0 by'
    have bty := bd_P (a := 0) (by omega) by1 t 0 (Int.le_refl _) (Bd.mono (by omega) bt)
    have hty := ht_P (u := mapT (φL 1) y 0) (a := 0) (by omega) t 0
    have hy1 := ht_L (d := 1) y 0
    have ht1 := ht_L (d := 1) t 0
    have ht2 := ht_L (d := 2) t 0
    obtain ⟨f0, f1⟩ := free_bd t bt61
    have f2 : free t ≤ 2 ^ 30 + 1 := free_le t bt
    obtain ⟨N5, k5⟩ := okx_lift (d := 1) (by omega) (by omega) t 0 bt61 (by omega) (by omega)
    obtain ⟨N6, k6⟩ := okx_put (mapT (φL 1) t 0) x (a := 0) (by omega) (by omega) (Bd.mono (by omega) bt1) (by omega) bx61 (by omega)
    have ePL := PL x 0 (Int.le_refl _) t 0 (Int.le_refl _)
    rw [Int.zero_add, Int.add_zero, L_zero] at ePL
    rw [ePL] at k6
    obtain ⟨N7, k7⟩ := okx_lift (d := 2) (by omega) (by omega) t 0 bt61 (by omega) (by omega)
    obtain ⟨N8, k8⟩ := okx_lift (d := 3) (by omega) (by omega) (mapT (φL 2) t 0) 1 (Bd.mono (by omega) bt2) (by omega) (by omega)
    have eLL := LL (d := 2) (e := 3) (by omega) 1 (by omega) (by omega) t 0 (Int.le_refl _)
    rw [Int.zero_add] at eLL
    rw [eLL] at k8
    obtain ⟨N9, k9⟩ := okx_all (us := [x, y]) true t (by simp) (fun z hz => by
      simp only [List.mem_cons, List.not_mem_nil, or_false] at hz
      rcases hz with rfl | rfl
      · exact ⟨bx61, by omega⟩
      · exact ⟨by61, by omega⟩) bt61 (by omega)
    obtain ⟨N10, k10⟩ := okx_lift (d := 1) (by omega) (by omega) y 0 by61 (by omega) (by omega)
    obtain ⟨N11, k11⟩ := okx_put t (mapT (φL 1) y 0) (a := 0) (by omega) (by omega) bt61 (by omega) (Bd.mono (by omega) by1) (by omega)
    obtain ⟨N12, k12⟩ := okx_put (mapT (φP [mapT (φL 1) y 0] 0) t 0) x (a := 0) (by omega) (by omega) (Bd.mono (by omega) bty) (by omega) bx61 (by omega)
    rw [all2 x y t 0 (Int.le_refl _)] at k12
    obtain ⟨N13, k13⟩ := ok_free t bt61
    obtain ⟨N14, k14⟩ := okx_put t x (a := free t) f0 (by omega) bt61 (by omega) bx61 (by omega)
    rw [P_above f0 (by omega)] at k14
    obtain ⟨N15, k15⟩ := same_true t
    obtain ⟨N16, k16⟩ := okx_lift (d := 5) (by omega) (by omega) t 0 bt61 (by omega) (by omega)
    obtain ⟨N17, k17⟩ := same_true (mapT (φL 5) t 0)
    obtain ⟨N18, k18⟩ := same_true (mapT (φP [x, y] 0) t 0)
    let n := N1 + N2 + N3 + N4 + N5 + N6 + N7 + N8 + N9 + N10 + N11 + N12 + N13 + N14 + N15 + N16 + N17 + N18 + 40
    have hn : n = N1 + N2 + N3 + N4 + N5 + N6 + N7 + N8 + N9 + N10 + N11 + N12 + N13 + N14 + N15 + N16 + N17 + N18 + 40 := rfl
    obtain ⟨h1, h2, h3, h4, e1, e2, e3, e4⟩ := pre n (by omega)
    obtain ⟨h5, e5, _⟩ := k5 n (by omega) h4
    obtain ⟨h6, e6, _⟩ := k6 n (by omega) h5
    obtain ⟨h7, e7, _⟩ := k7 n (by omega) h6
    obtain ⟨h8, e8, _⟩ := k8 n (by omega) h7
    obtain ⟨h9, e9, _⟩ := k9 n (by omega) h8
    obtain ⟨h10, e10, _⟩ := k10 n (by omega) h9
    obtain ⟨h11, e11, _⟩ := k11 n (by omega) h10
    obtain ⟨h12, e12, _⟩ := k12 n (by omega) h11
    obtain ⟨h14, e14, _⟩ := k14 n (by omega) h12
    obtain ⟨h16, e16, _⟩ := k16 n (by omega) h14
    exact ⟨n + 1, h16, goes_call fl0 (bk_t.mpr ⟨e1, e2, e3, e4, k4 n (by omega) h4, e5, e6, e7, e8, e9, e10, e11, e12, k13 n (by omega) h12, e14, k15 n (by omega) h14, e16, k17 n (by omega) h16, k18 n (by omega) h16, k15 n (by omega) h16, rfl⟩) (by simp)⟩
end Go.Vd

namespace Go.Vd
open Go Go.RowKit Go.Proofs
set_option maxRecDepth 100000
theorem max2 (a b : Int) : minmaxAV true [i64 a, i64 b] = some (i64 (max a b)) := by
  show mmGo true [i64 b] (i64 a) = _
  rw [mmGo_cons]
  simp only [i64, show keq IntKind.i64 IntKind.i64 = true from rfl]
  by_cases q : a < b
  · rw [ilt_t q]; show some (AV.int .i64 b) = _; rw [Int.max_eq_right (by omega)]
  · rw [ilt_f (by omega)]; show some (AV.int .i64 a) = _; rw [Int.max_eq_left (by omega)]
theorem free_ev {s u : List Nat} (hs : By s) (hu : By u) {b a : Int} (hb0 : 0 ≤ b) (_hb1 : b < 256) (ha0 : 0 ≤ a) (ha1 : a < 256) : ∃ N h', ev N 6 [.str s, .str u, .int .u8 b, .int .u8 a] ⟨0, .nil⟩ = .ok (.bool true) h' := by
  obtain ⟨v1, c1, N1, k1⟩ := termV hs
  obtain ⟨v2, c2, N2, k2⟩ := termV hu
  have pre : ∀ n, N1 + N2 + 40 ≤ n → ∃ h1 h2 h3, ev n 8 [] ⟨0, .nil⟩ = .ok (.bool true) h1 ∧ ev n 9 [.str s] h1 = .ok v1 h2 ∧ ev n 9 [.str u] h2 = .ok v2 h3 := fun n hn => by
    obtain ⟨h1, e1⟩ := knownT (n := n) (by omega)
    obtain ⟨h2, e2⟩ := k1 n (by omega) h1
    obtain ⟨h3, e3⟩ := k2 n (by omega) h2
    exact ⟨h1, h2, h3, e1, e2, e3⟩
  rcases c1 with rfl | ⟨t, rfl, bt, ht'⟩
  · obtain ⟨h1, h2, h3, e1, e2, e3⟩ := pre _ (Nat.le_refl _)
    exact ⟨_, h3, goes_call fl0 (fr_n1.mpr ⟨e1, e2, e3, rfl⟩) (by simp)⟩
  rcases c2 with rfl | ⟨x, rfl, bx, hx⟩
  · obtain ⟨h1, h2, h3, e1, e2, e3⟩ := pre _ (Nat.le_refl _)
    exact ⟨_, h3, goes_call fl0 (fr_n2.mpr ⟨e1, e2, e3, rfl⟩) (by simp)⟩
  have pt := ht_nonneg t; have px := ht_nonneg x
  have bt61 : Bd (2 ^ 61) t := Bd.mono (by omega) bt
  have bx61 : Bd (2 ^ 61) x := Bd.mono (by omega) bx
  obtain ⟨f0, _⟩ := free_bd t bt61
  obtain ⟨g0, _⟩ := free_bd x bx61
  have f2 := free_le t bt
  have g2 := free_le x bx
  obtain ⟨K, hK, hK0, hK1⟩ : ∃ K, wrapK .i64 (Int.tmod b 20) = K ∧ 0 ≤ K ∧ K < 20 := by
    have e := Int.tmod_eq_emod_of_nonneg (b := 20) hb0
    refine ⟨b % 20, ?_, by omega, by omega⟩
    rw [e]; exact wrap_id (by omega) (by omega)
  have hA : wrapK .i64 a = a := wrap_id (by omega) (by omega)
  have hnA : wrapK .i64 (free t + a) = free t + a := wrap_id (by omega) (by omega)
  have hn1 : wrapK .i64 (free t - 1) = free t - 1 := wrap_id (by omega) (by omega)
  have hnK : wrapK .i64 (free t + K) = free t + K := wrap_id (by omega) (by omega)
  have btK := bd_L hK0 t 0 bt
  have btx := bd_P (a := 0) (Int.le_refl _) bx t 0 (Int.le_refl _) bt
  obtain ⟨N3, k3⟩ := ok_free t bt61
  obtain ⟨N4, k4⟩ := okx_lift (d := K) hK0 (by omega) t (free t + a) bt61 (by omega) (by omega)
  rw [L_above (by omega)] at k4
  obtain ⟨N5, k5⟩ := okx_lift (d := K) hK0 (by omega) t 0 bt61 (by omega) (by omega)
  obtain ⟨N6, k6⟩ := okx_put t x (a := 0) (by omega) (by omega) bt61 (by omega) bx61 (by omega)
  obtain ⟨N7, k7⟩ := same_true t
  obtain ⟨N8, k8⟩ := ok_free (mapT (φL K) t 0) (Bd.mono (by omega) btK)
  obtain ⟨N9, k9⟩ := ok_free (mapT (φP [x] 0) t 0) (Bd.mono (by omega) btx)
  obtain ⟨N10, k10⟩ := ok_free x bx61
  obtain ⟨N11, k11⟩ := okx_alln t bt61 (by omega)
  have hfL := free_L2 hK0 t 0 (Int.le_refl _) bt61
  have hfP := free_P bx61 t 0 (Int.le_refl _)
  let n := N1 + N2 + N3 + N4 + N5 + N6 + N7 + N8 + N9 + N10 + N11 + 40
  have hn : n = N1 + N2 + N3 + N4 + N5 + N6 + N7 + N8 + N9 + N10 + N11 + 40 := rfl
  obtain ⟨h1, h2, h3, e1, e2, e3⟩ := pre n (by omega)
  obtain ⟨h5, e5, _⟩ := k4 n (by omega) h3
  obtain ⟨h6, e6, _⟩ := k5 n (by omega) h5
  obtain ⟨h7, e7, _⟩ := k6 n (by omega) h6
  obtain ⟨h12, e12, _⟩ := k11 n (by omega) h7
  have em : OR.of h7 (minmaxAV true [i64 (wrapK .i64 (free t - 1)), i64 (free x)]) = .ok (i64 (max (free t - 1) (free x))) h7 := by rw [max2, hn1]; rfl
  have e5' : ev n 13 [tw t, i64 (wrapK .i64 (Int.tmod b 20)), i64 (wrapK .i64 (free t + wrapK .i64 a))] h3 = .ok (tw t) h5 := by rw [hK, hA, hnA]; exact e5
  have e6' : ev n 13 [tw t, i64 (wrapK .i64 (Int.tmod b 20)), i64 0] h5 = .ok (tw (mapT (φL K) t 0)) h6 := by rw [hK]; exact e6
  by_cases q : 0 < free t
  · have ew : OR.ok (.bool (ieq (free (mapT (φL K) t 0)) (wrapK .i64 (free t + wrapK .i64 (Int.tmod b 20))))) h7 = .ok (.bool true) h7 := obE (ieq_t (by rw [hK, hnK]; exact hfL.1 q))
    exact ⟨n + 1, h12, goes_call (flL [(11, 1), (13, 7), (13, 16), (13, 17)]) (fr_t.mpr ⟨e1, e2, e3, k3 n (by omega) h3, e5', e6', e7, obE (ilt_t q), k7 n (by omega) h7, k8 n (by omega) h7, ew, k9 n (by omega) h7, k10 n (by omega) h7, em, obE (leb (by omega)), e12, k7 n (by omega) h12, rfl⟩) (by simp)⟩
  · have ew : OR.ok (.bool (ieq (free (mapT (φL K) t 0)) 0)) h7 = .ok (.bool true) h7 := obE (ieq_t (by rw [hfL.2 q]; omega))
    exact ⟨n + 1, h12, goes_call (flL [(11, 1), (13, 7), (13, 16), (13, 17)]) (fr_f.mpr ⟨e1, e2, e3, k3 n (by omega) h3, e5', e6', e7, obE (ilt_f (by omega)), k7 n (by omega) h7, k8 n (by omega) h7, ew, k9 n (by omega) h7, k10 n (by omega) h7, em, obE (leb (by omega)), e12, k7 n (by omega) h12, rfl⟩) (by simp)⟩
end Go.Vd

namespace Go.Proofs.Ytcafdimefhdfnaa
open Go.ChangeShapes Go.WideShapes Go.ChangeAt Go.RowKit
set_option maxRecDepth 100000 in
theorem free_lifted (HB : ∀ (a0 : ByteArray) (a1 : ByteArray) (a2 : Int) (a3 : Int), (Lit.int .u8 a2).wf = true → (Lit.int .u8 a3).wf = true → ∃ N h', Go.Vd.evF (Go.Vd.compFunc Try.prog Go.Vd.H1) N 6 [.str (Go.Vd.bytesN a0), .str (Go.Vd.bytesN a1), .int .u8 a2, .int .u8 a3] Go.Vd.heap0 = .ok (.bool true) h')
    (os : Os) (started : os.Started) (H : Type) (enc : TypeId × Value → H) :
    ReturnsInHanded {} Try.checked os 6 .any (Rows.shiftFreeSpec.pre6 enc Try.prog Try.f6 Rows.shiftFreeRow.domain false) (Rows.shiftFreeSpec.post enc Try.prog Try.f6 false true false false) := by
  refine returnsInHanded_of_change (C := Try.checked) Try.own started (by kernel_rfl) Try.func6
    (ChangeSpec.witness6 (enc := enc) (C := Try.checked) false ⟨#[], #[.string ⟨#[]⟩, .string ⟨#[]⟩, .int .u8 0, .int .u8 0], []⟩ 8 (by kernel_rfl) (by kernel_rfl) (by kernel_rfl) (by kernel_rfl)) ?_
  intro W base args ds gs before hval0 hW hcnd _
  have hval : ∀ (j : Nat) t v, Try.f6.params[j]? = some t → args[j]? = some v → Value.okWide Try.prog W .any base t v := hval0
  have hW' := hW
  obtain ⟨p, q, hA0, hV, rfl, hfz, hnd⟩ := hW
  have hA : DataW.TrodAll enc Try.prog W 0 (fun _ => true) true Try.f6.params.toList args.toList ds p := hA0
  rw [Try.params6] at hA hval
  obtain ⟨v0, v1, v2, v3, d0, d1, d2, d3, p0, p1, p2, p3, rfl, rfl, rfl, h0, h1, h2, h3⟩ := trodAll_four hA
  obtain ⟨rfl, rfl⟩ := trodVars_none hV
  obtain ⟨a0, rfl, rfl, rfl, l0⟩ := Go.ChangeMaps.open_string Try.underlying9 (hval 0 9 v0 rfl rfl) h0
  obtain ⟨a1, rfl, rfl, rfl, l1⟩ := Go.ChangeMaps.open_string Try.underlying9 (hval 1 9 v1 rfl rfl) h1
  obtain ⟨a2, rfl, rfl, rfl, l2⟩ := open_int Try.underlying5 (hval 2 5 v2 rfl rfl) h2
  obtain ⟨a3, rfl, rfl, rfl, l3⟩ := open_int Try.underlying5 (hval 3 5 v3 rfl rfl) h3
  clear hA0 hval0
  simp only [List.append_nil] at hW'
  obtain ⟨N, h', e⟩ := HB a0 a1 a2 a3 l2 l3
  refine (Go.Vd.true_of_ev (fun _ => rfl) e W #[.string a0, .string a1, .int .u8 a2, .int .u8 a3] (.cons (.str a0) (.cons (.str a1) (.cons (.int .u8 a2) (.cons (.int .u8 a3) .nil))))).mono fun e W' ⟨he, hw⟩ => ?_
  subst he
  refine ⟨_, rfl, _, _, _, [], _, [], hW', trodAll_mk1 (shut_bool (by kernel_rfl) _), (trodAll_mk4 (Go.ChangeMaps.shut_string Try.underlying9 l0) (Go.ChangeMaps.shut_string Try.underlying9 l1) (shut_int Try.underlying5 l2) (shut_int Try.underlying5 l3)), rfl, hw.frame _, fun h => by cases h⟩
theorem free_said (HB : ∀ (a0 : ByteArray) (a1 : ByteArray) (a2 : Int) (a3 : Int), (Lit.int .u8 a2).wf = true → (Lit.int .u8 a3).wf = true → ∃ N h', Go.Vd.evF (Go.Vd.compFunc Try.prog Go.Vd.H1) N 6 [.str (Go.Vd.bytesN a0), .str (Go.Vd.bytesN a1), .int .u8 a2, .int .u8 a3] Go.Vd.heap0 = .ok (.bool true) h') : Rows.ShiftFreeSaid :=
  OpenClaim.holds_of_wide 6 Try.f6 rfl rfl rfl rfl rfl rfl rfl ⟨rfl, rfl, rfl, rfl, rfl⟩ rfl rfl rfl rfl rfl (by kernel_rfl) Try.func6 (by kernel_rfl)
    (of_decide_eq_true (by kernel_rfl)) (by unfold Func.isWrapper; rw [if_neg (by decide +kernel)]; exact ⟨rfl, rfl⟩)
    (fun os started H enc _ => free_lifted HB os started H enc)
theorem u8_wf {n : Int} (h : (Lit.int .u8 n).wf = true) : 0 ≤ n ∧ n < 256 := by
  simp [Lit.wf, IntKind.min, IntKind.max, IntKind.signed, IntKind.bits] at h
  omega
theorem free : Rows.ShiftFreeSaid := free_said fun a b _ _ hc hd => Go.Vd.free_ev (Go.Vd.by_bytes a) (Go.Vd.by_bytes b) (u8_wf hc).1 (u8_wf hc).2 (u8_wf hd).1 (u8_wf hd).2
end Go.Proofs.Ytcafdimefhdfnaa
