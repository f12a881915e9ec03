/-
  Plain facts on naturals: lists of limbs, and the rounding to a number of 53 bits. No program stands here.
-/
namespace Go.Proofs.Ytbejjlecpcphoaa.LL
/-- The number that a list of limbs of 32 bits means, the lowest first. -/
def val : List Int → Nat
  | [] => 0
  | x :: l => x.toNat + 4294967296 * val l
/-- Limbs that fit. -/
def Lb (l : List Int) : Prop := ∀ x ∈ l, 0 ≤ x ∧ x < 4294967296
/-- The one list of a number without a nought at its end. -/
def limbs (n : Nat) : List Int := if h : n = 0 then [] else ((n % 4294967296 : Nat) : Int) :: limbs (n / 4294967296)
termination_by n
decreasing_by omega

theorem limbs_zero : limbs 0 = [] := by unfold limbs; simp
theorem limbs_pos {n : Nat} (h : n ≠ 0) : limbs n = ((n % 4294967296 : Nat) : Int) :: limbs (n / 4294967296) := by
  rw [limbs]; simp [h]
theorem val_limbs (n : Nat) : val (limbs n) = n := by
  induction n using Nat.strongRecOn with
  | _ n ih =>
    by_cases h : n = 0
    · subst h; rw [limbs_zero]; rfl
    · rw [limbs_pos h, val, ih _ (by omega)]; omega
theorem lb_limbs (n : Nat) : Lb (limbs n) := by
  induction n using Nat.strongRecOn with
  | _ n ih =>
    by_cases h : n = 0
    · subst h; rw [limbs_zero]; intro x hx; simp at hx
    · rw [limbs_pos h]; intro x hx
      rcases List.mem_cons.1 hx with rfl | hx
      · omega
      · exact ih _ (by omega) x hx
theorem Lb.cons {x : Int} {l : List Int} (h0 : 0 ≤ x) (h1 : x < 4294967296) (h : Lb l) : Lb (x :: l) := by
  intro y hy
  rcases List.mem_cons.1 hy with rfl | hy
  · exact ⟨h0, h1⟩
  · exact h y hy
theorem Lb.tail {x : Int} {l : List Int} (h : Lb (x :: l)) : Lb l := fun y hy => h y (List.mem_cons_of_mem _ hy)
theorem Lb.head {x : Int} {l : List Int} (h : Lb (x :: l)) : 0 ≤ x ∧ x < 4294967296 := h x (List.mem_cons_self ..)
theorem lb_nil : Lb [] := fun x hx => by simp at hx
theorem Lb.append {a b : List Int} (ha : Lb a) (hb : Lb b) : Lb (a ++ b) := by
  intro x hx
  rcases List.mem_append.1 hx with h | h
  · exact ha x h
  · exact hb x h
theorem Lb.one {x : Int} (h0 : 0 ≤ x) (h1 : x < 4294967296) : Lb [x] := Lb.cons h0 h1 lb_nil
theorem Lb.take {l : List Int} (h : Lb l) (n : Nat) : Lb (l.take n) := fun x hx => h x (List.mem_of_mem_take hx)
theorem Lb.drop {l : List Int} (h : Lb l) (n : Nat) : Lb (l.drop n) := fun x hx => h x (List.mem_of_mem_drop hx)
theorem Lb.set {l : List Int} (h : Lb l) (n : Nat) {v : Int} (h0 : 0 ≤ v) (h1 : v < 4294967296) : Lb (l.set n v) := by
  intro x hx
  rcases List.mem_or_eq_of_mem_set hx with hx | rfl
  · exact h x hx
  · exact ⟨h0, h1⟩
theorem Lb.replicate (n : Nat) : Lb (List.replicate n 0) := by
  intro x hx; rw [List.mem_replicate] at hx; omega

theorem pow32 (n : Nat) : 2 ^ (32 * (n + 1)) = 4294967296 * 2 ^ (32 * n) := by
  rw [show 32 * (n + 1) = 32 + 32 * n from by omega, Nat.pow_add]
theorem val_lt {l : List Int} (h : Lb l) : val l < 2 ^ (32 * l.length) := by
  induction l with
  | nil => simp [val]
  | cons x l ih =>
    have := ih h.tail
    have hx := h.head
    rw [List.length_cons, pow32, val]
    omega
theorem val_append (a b : List Int) : val (a ++ b) = val a + 2 ^ (32 * a.length) * val b := by
  induction a with
  | nil => simp [val]
  | cons x a ih =>
    rw [List.cons_append, val, val, ih, List.length_cons, pow32]
    rw [Nat.mul_add, Nat.mul_assoc]; omega
theorem val_replicate (n : Nat) : val (List.replicate n 0) = 0 := by
  induction n with
  | zero => rfl
  | succ n ih => rw [List.replicate_succ, val, ih]; rfl
theorem val_split (l : List Int) (n : Nat) (h : n ≤ l.length) : val l = val (l.take n) + 2 ^ (32 * n) * val (l.drop n) := by
  have := val_append (l.take n) (l.drop n)
  rw [List.take_append_drop, List.length_take, Nat.min_eq_left h] at this
  exact this
theorem val_drop {l : List Int} (hl : Lb l) (n : Nat) : val (l.drop n) = val l / 2 ^ (32 * n) := by
  by_cases h : n ≤ l.length
  · have h1 := val_split l n h
    have h2 := val_lt (hl.take n)
    rw [List.length_take, Nat.min_eq_left h] at h2
    rw [h1, Nat.add_mul_div_left _ _ (Nat.two_pow_pos _), Nat.div_eq_of_lt h2, Nat.zero_add]
  · rw [List.drop_eq_nil_of_le (by omega)]
    have h2 := val_lt hl
    have : 2 ^ (32 * l.length) ≤ 2 ^ (32 * n) := Nat.pow_le_pow_right (by omega) (by omega)
    rw [Nat.div_eq_of_lt (by omega)]; rfl
theorem val_take {l : List Int} (hl : Lb l) (n : Nat) : val (l.take n) = val l % 2 ^ (32 * n) := by
  by_cases h : n ≤ l.length
  · have h1 := val_split l n h
    have h2 := val_lt (hl.take n)
    rw [List.length_take, Nat.min_eq_left h] at h2
    rw [h1, Nat.add_mul_mod_self_left, Nat.mod_eq_of_lt h2]
  · rw [List.take_of_length_le (by omega)]
    have h2 := val_lt hl
    have : 2 ^ (32 * l.length) ≤ 2 ^ (32 * n) := Nat.pow_le_pow_right (by omega) (by omega)
    rw [Nat.mod_eq_of_lt (by omega)]
/-- The i-th limb. -/
theorem val_get {l : List Int} (hl : Lb l) (i : Nat) : l.getD i 0 = ((val l / 2 ^ (32 * i) % 4294967296 : Nat) : Int) := by
  rw [← val_drop hl]
  have hd := hl.drop i
  have e : l.getD i 0 = (l.drop i).getD 0 0 := by simp [List.getD_eq_getElem?_getD]
  rw [e]
  generalize l.drop i = d at *
  cases d with
  | nil => rfl
  | cons x d =>
    have hx := hd.head
    simp only [List.getD_cons_zero, val]
    omega
theorem val_set {l : List Int} (hl : Lb l) (i : Nat) (v : Int) (h : i < l.length) : val (l.set i v) + 2 ^ (32 * i) * (val l / 2 ^ (32 * i) % 4294967296) = val l + 2 ^ (32 * i) * v.toNat := by
  induction l generalizing i with
  | nil => simp at h
  | cons x l ih =>
    cases i with
    | zero =>
      have hx := hl.head
      simp only [List.set_cons_zero, val, Nat.mul_zero, Nat.pow_zero, Nat.div_one, Nat.one_mul]
      omega
    | succ i =>
      have := ih hl.tail i (by simpa using h)
      have hx := hl.head
      simp only [List.set_cons_succ, val]
      rw [pow32, ← Nat.div_div_eq_div_mul]
      have e : (x.toNat + 4294967296 * val l) / 4294967296 = val l := by omega
      rw [e, Nat.mul_assoc, Nat.mul_assoc]
      omega
theorem limbs_of {l : List Int} (hl : Lb l) (h : l = [] ∨ l.getLastD 0 ≠ 0) : limbs (val l) = l := by
  induction l with
  | nil => exact limbs_zero
  | cons x l ih =>
    have hx := hl.head
    have hne : val (x :: l) ≠ 0 := by
      rcases h with h | h
      · simp at h
      · intro h0
        have hl' := hl
        have key : ∀ m : List Int, Lb m → val m = 0 → m.getLastD 0 = 0 := by
          intro m
          induction m with
          | nil => intro _ _; rfl
          | cons y m ihm =>
            intro hm h0
            have hy := hm.head
            rw [val] at h0
            cases m with
            | nil => simp; omega
            | cons z m => have := ihm hm.tail (by omega); simpa using this
        exact h (key _ hl' h0)
    rw [limbs_pos hne, val]
    have e1 : ((x.toNat + 4294967296 * val l) % 4294967296 : Nat) = x.toNat := by omega
    have e2 : (x.toNat + 4294967296 * val l) / 4294967296 = val l := by omega
    rw [e1, e2, ih hl.tail]
    · congr 1; omega
    · cases l with
      | nil => left; rfl
      | cons y l =>
        right
        rcases h with h | h
        · simp at h
        · simpa using h
theorem limbs_len_le {n m : Nat} (h : n < 2 ^ (32 * m)) : (limbs n).length ≤ m := by
  induction m generalizing n with
  | zero => have : n = 0 := by simpa using h
            subst this; rw [limbs_zero]; simp
  | succ m ih =>
    by_cases h0 : n = 0
    · subst h0; rw [limbs_zero]; simp
    · rw [limbs_pos h0, List.length_cons]
      rw [pow32] at h
      have := ih (n := n / 4294967296) (by omega)
      omega
theorem limbs_len_gt {n m : Nat} (h : 2 ^ (32 * m) ≤ n) : m < (limbs n).length := by
  have h1 := val_lt (lb_limbs n)
  rw [val_limbs] at h1
  have h2 : 2 ^ (32 * m) < 2 ^ (32 * (limbs n).length) := Nat.lt_of_le_of_lt h h1
  have := (Nat.pow_lt_pow_iff_right (by omega : 1 < 2)).1 h2
  omega
end Go.Proofs.Ytbejjlecpcphoaa.LL
namespace Go.Proofs.Ytbejjlecpcphoaa.FM
def blen (n : Nat) : Nat := if n = 0 then 0 else n.log2 + 1

theorem blen_zero : blen 0 = 0 := rfl
theorem lt_blen (n : Nat) : n < 2 ^ blen n := by
  unfold blen
  split
  · omega
  · exact Nat.lt_log2_self
theorem blen_le {n : Nat} (h : n ≠ 0) : 2 ^ (blen n - 1) ≤ n := by
  unfold blen
  rw [if_neg h]
  exact Nat.log2_self_le h
theorem blen_of {n k : Nat} (h1 : 2 ^ k ≤ n) (h2 : n < 2 ^ (k + 1)) : blen n = k + 1 := by
  have hn : n ≠ 0 := by have := Nat.two_pow_pos k; omega
  unfold blen; rw [if_neg hn]
  rw [(Nat.log2_eq_iff hn).2 ⟨h1, h2⟩]
theorem blen_pos {n : Nat} (h : n ≠ 0) : 1 ≤ blen n := by unfold blen; rw [if_neg h]; omega
theorem blen_le_of_lt {n k : Nat} (h : n < 2 ^ k) : blen n ≤ k := by
  by_cases hn : n = 0
  · subst hn; simp [blen]
  · have h1 := blen_le hn
    have h2 : 2 ^ (blen n - 1) < 2 ^ k := Nat.lt_of_le_of_lt h1 h
    have h3 := (Nat.pow_lt_pow_iff_right (by omega : 1 < 2)).1 h2
    have := blen_pos hn
    omega
theorem lt_blen_of_le {n k : Nat} (h : 2 ^ k ≤ n) : k < blen n := by
  have h1 := lt_blen n
  exact (Nat.pow_lt_pow_iff_right (by omega : 1 < 2)).1 (Nat.lt_of_le_of_lt h h1)
theorem blen_mono {n m : Nat} (h : n ≤ m) : blen n ≤ blen m := blen_le_of_lt (Nat.lt_of_le_of_lt h (lt_blen m))
theorem blen_shift {n j r : Nat} (h : n ≠ 0) (hr : r < 2 ^ j) : blen (n * 2 ^ j + r) = blen n + j := by
  have h1 := blen_le h
  have h2 := lt_blen n
  have h3 := blen_pos h
  obtain ⟨b, hb⟩ : ∃ b, blen n = b + 1 := ⟨blen n - 1, by omega⟩
  rw [hb] at h1 h2 ⊢
  have : blen (n * 2 ^ j + r) = (b + j) + 1 := by
    apply blen_of
    · rw [Nat.pow_add]
      have := Nat.mul_le_mul_right (2 ^ j) h1
      simp at this; omega
    · have e : b + j + 1 = (b + 1) + j := by omega
      rw [e, Nat.pow_add]
      have : (n + 1) * 2 ^ j ≤ 2 ^ (b + 1) * 2 ^ j := Nat.mul_le_mul_right _ h2
      rw [Nat.add_mul] at this; omega
  omega

/-- n over 2^k, rounded to the nearest, ties to even; 'more': and a little more. -/
def rq (n k : Nat) (more : Bool) : Nat :=
  n / 2 ^ k + if 2 ^ (k - 1) < n % 2 ^ k ∨ (2 ^ (k - 1) = n % 2 ^ k ∧ (more = true ∨ n / 2 ^ k % 2 = 1)) then 1 else 0

theorem rq_zero (n : Nat) (more : Bool) : rq n 0 more = n := by
  unfold rq; simp [Nat.mod_one]

theorem rq_le (n k : Nat) (more : Bool) : rq n k more ≤ n / 2 ^ k + 1 := by
  unfold rq; split <;> omega
theorem le_rq (n k : Nat) (more : Bool) : n / 2 ^ k ≤ rq n k more := by
  unfold rq; omega

theorem rq_more (n k : Nat) : rq n k false ≤ rq n k true := by
  unfold rq
  by_cases h : 2 ^ (k - 1) < n % 2 ^ k ∨ (2 ^ (k - 1) = n % 2 ^ k ∧ (false = true ∨ n / 2 ^ k % 2 = 1))
  · rw [if_pos h, if_pos]
    · exact Nat.le_refl _
    · rcases h with h | ⟨h, _⟩
      · exact Or.inl h
      · exact Or.inr ⟨h, Or.inl rfl⟩
  · rw [if_neg h]; omega

theorem rq_succ (n k : Nat) : rq n k true ≤ rq (n + 1) k false := by
  by_cases hk : k = 0
  · subst hk; rw [rq_zero, rq_zero]; omega
  obtain ⟨j, rfl⟩ : ∃ j, k = j + 1 := ⟨k - 1, by omega⟩
  unfold rq
  have hp := Nat.two_pow_pos j
  have hs : 2 ^ (j + 1) = 2 * 2 ^ j := by rw [Nat.pow_succ]; omega
  simp only [Nat.add_sub_cancel]
  rw [hs]
  generalize 2 ^ j = P at *
  by_cases hr : n % (2 * P) + 1 < 2 * P
  · have h1 : (n + 1) % (2 * P) = n % (2 * P) + 1 := by
      rw [Nat.add_mod, Nat.mod_eq_of_lt (a := 1) (by omega), Nat.mod_eq_of_lt hr]
    have h2 : (n + 1) / (2 * P) = n / (2 * P) := by
      have a := Nat.div_add_mod n (2 * P)
      have b := Nat.div_add_mod (n + 1) (2 * P)
      rw [h1] at b
      have : 2 * P * ((n + 1) / (2 * P)) = 2 * P * (n / (2 * P)) := by omega
      exact Nat.eq_of_mul_eq_mul_left (by omega) this
    rw [h1, h2]
    split
    · rename_i h; rw [if_pos (by left; omega)]; exact Nat.le_refl _
    · omega
  · have h2 : (n + 1) / (2 * P) = n / (2 * P) + 1 := by
      have a := Nat.div_add_mod n (2 * P)
      have c := Nat.mod_lt n (show 2 * P > 0 by omega)
      have : n + 1 = 2 * P * (n / (2 * P) + 1) := by rw [Nat.mul_add]; omega
      rw [this, Nat.mul_div_cancel_left _ (by omega)]
    rw [h2]
    split <;> omega

theorem rq_mono {n m : Nat} (k : Nat) (h : n ≤ m) : rq n k false ≤ rq m k false := by
  induction h with
  | refl => exact Nat.le_refl _
  | step _ ih => exact Nat.le_trans ih (Nat.le_trans (rq_more _ _) (rq_succ _ _))
theorem rq_mono_lt {n m : Nat} (k : Nat) (h : n < m) : rq n k true ≤ rq m k false :=
  Nat.le_trans (rq_succ n k) (rq_mono k h)

theorem rq_scale (n k j : Nat) : rq (n * 2 ^ j) (k + j) false = rq n k false := by
  by_cases hk : k = 0
  · subst hk
    rw [rq_zero]; unfold rq
    have hp := Nat.two_pow_pos j
    rw [Nat.zero_add, Nat.mul_div_cancel _ hp, Nat.mul_mod_left]
    rw [if_neg]
    · rfl
    · rintro (h | ⟨h, _⟩)
      · exact absurd h (Nat.not_lt_zero _)
      · exact absurd h (Nat.ne_of_gt (Nat.two_pow_pos _))
  obtain ⟨i, rfl⟩ : ∃ i, k = i + 1 := ⟨k - 1, by omega⟩
  unfold rq
  have e1 : i + 1 + j - 1 = i + j := by omega
  rw [e1]
  have hp := Nat.two_pow_pos j
  have hd : n * 2 ^ j / 2 ^ (i + 1 + j) = n / 2 ^ (i + 1) := by
    rw [Nat.pow_add 2 (i+1) j, Nat.mul_div_mul_right _ _ hp]
  have hm : n * 2 ^ j % 2 ^ (i + 1 + j) = (n % 2 ^ (i + 1)) * 2 ^ j := by
    rw [Nat.pow_add 2 (i+1) j, Nat.mul_mod_mul_right]
  rw [hd, hm, Nat.pow_add 2 i j, Nat.add_sub_cancel]
  simp only [Nat.mul_lt_mul_right hp, Nat.mul_right_cancel_iff hp]

theorem rq_sticky (n k j r : Nat) (h0 : 0 < r) (hr : r < 2 ^ j) (more : Bool) : rq (n * 2 ^ j + r) (k + 1 + j) more = rq n (k + 1) true := by
  unfold rq
  have e1 : k + 1 + j - 1 = k + j := by omega
  rw [e1, Nat.add_sub_cancel]
  have hp := Nat.two_pow_pos j
  have hd : (n * 2 ^ j + r) / 2 ^ (k + 1 + j) = n / 2 ^ (k + 1) := by
    rw [Nat.pow_add 2 (k+1) j, Nat.mul_comm (2 ^ (k+1)), ← Nat.div_div_eq_div_mul, Nat.mul_comm n, Nat.mul_add_div hp, Nat.div_eq_of_lt hr, Nat.add_zero]
  have hm : (n * 2 ^ j + r) % 2 ^ (k + 1 + j) = (n % 2 ^ (k + 1)) * 2 ^ j + r := by
    have a := Nat.div_add_mod (n * 2 ^ j + r) (2 ^ (k + 1 + j))
    rw [hd] at a
    have b := Nat.div_add_mod n (2 ^ (k + 1))
    have c : (2 ^ (k + 1) * (n / 2 ^ (k + 1)) + n % 2 ^ (k + 1)) * 2 ^ j = n * 2 ^ j := by rw [b]
    rw [Nat.add_mul] at c
    have d : 2 ^ (k + 1 + j) * (n / 2 ^ (k + 1)) = 2 ^ (k + 1) * (n / 2 ^ (k + 1)) * 2 ^ j := by
      rw [Nat.pow_add 2 (k+1) j, Nat.mul_right_comm]
    omega
  rw [hd, hm, Nat.pow_add 2 k j]
  generalize n % 2 ^ (k + 1) = x
  generalize n / 2 ^ (k + 1) = y
  generalize 2 ^ k = K at *
  generalize 2 ^ j = J at *
  have : (K * J < x * J + r ∨ K * J = x * J + r ∧ (more = true ∨ y % 2 = 1)) ↔ (K < x ∨ K = x ∧ (true = true ∨ y % 2 = 1)) := by
    constructor
    · intro h
      have h' : K * J ≤ x * J + r := by omega
      have : K < x + 1 := by
        apply Nat.lt_of_mul_lt_mul_right (a := J)
        rw [Nat.add_mul]; omega
      by_cases e : K = x
      · exact Or.inr ⟨e, Or.inl rfl⟩
      · left; omega
    · rintro (h | ⟨h, _⟩)
      · left
        have := Nat.mul_le_mul_right J (show K + 1 ≤ x from h)
        rw [Nat.add_mul] at this; omega
      · left; subst h; omega
  simp only [this]

def ulp (n : Nat) (e : Int) : Int := max (e + blen n - 53) (-1074)
def rqi (n : Nat) (k : Int) (more : Bool) : Nat := if k ≤ 0 then n * 2 ^ (-k).toNat else rq n k.toNat more
def near (n : Nat) (e : Int) (more : Bool) : Nat :=
  if n = 0 then 0 else min ((ulp n e + 1074).toNat * 4503599627370496 + rqi n (ulp n e - e) more) 9218868437227405312

theorem rqi_le {n : Nat} {k : Int} (more : Bool) (h : (blen n : Int) ≤ k + 53) : rqi n k more ≤ 2 ^ 53 := by
  have hl := lt_blen n
  unfold rqi
  split
  · rename_i hk
    obtain ⟨j, rfl⟩ : ∃ j : Nat, k = -(j : Int) := ⟨(-k).toNat, by omega⟩
    have e : (-(-(j : Int))).toNat = j := by omega
    rw [e]
    have h1 : n * 2 ^ j ≤ 2 ^ blen n * 2 ^ j := Nat.mul_le_mul_right _ (Nat.le_of_lt hl)
    rw [← Nat.pow_add] at h1
    exact Nat.le_trans h1 (Nat.pow_le_pow_right (by omega) (by omega))
  · rename_i hk
    obtain ⟨j, rfl⟩ : ∃ j : Nat, k = (j : Int) := ⟨k.toNat, by omega⟩
    rw [Int.toNat_natCast]
    have h1 : n / 2 ^ j < 2 ^ 53 := by
      apply (Nat.div_lt_iff_lt_mul (Nat.two_pow_pos j)).2
      rw [← Nat.pow_add]
      exact Nat.lt_of_lt_of_le hl (Nat.pow_le_pow_right (by omega) (by omega))
    have := rq_le n j more
    omega
theorem rqi_ge {n : Nat} {k : Int} (more : Bool) (hn : n ≠ 0) (h : k + 53 ≤ (blen n : Int)) : 2 ^ 52 ≤ rqi n k more := by
  have hl := blen_le hn
  have hp := blen_pos hn
  unfold rqi
  split
  · rename_i hk
    obtain ⟨j, rfl⟩ : ∃ j : Nat, k = -(j : Int) := ⟨(-k).toNat, by omega⟩
    have e : (-(-(j : Int))).toNat = j := by omega
    rw [e]
    have h1 : 2 ^ (blen n - 1) * 2 ^ j ≤ n * 2 ^ j := Nat.mul_le_mul_right _ hl
    rw [← Nat.pow_add] at h1
    exact Nat.le_trans (Nat.pow_le_pow_right (by omega) (by omega)) h1
  · rename_i hk
    obtain ⟨j, rfl⟩ : ∃ j : Nat, k = (j : Int) := ⟨k.toNat, by omega⟩
    rw [Int.toNat_natCast]
    have h1 : 2 ^ 52 ≤ n / 2 ^ j := by
      apply (Nat.le_div_iff_mul_le (Nat.two_pow_pos j)).2
      rw [← Nat.pow_add]
      exact Nat.le_trans (Nat.pow_le_pow_right (by omega) (by omega)) hl
    exact Nat.le_trans h1 (le_rq n j more)

theorem rqi_more (n : Nat) (k : Int) : rqi n k false ≤ rqi n k true := by
  unfold rqi; split
  · exact Nat.le_refl _
  · exact rq_more _ _
theorem rqi_mono {n m : Nat} (k : Int) (h : n ≤ m) : rqi n k false ≤ rqi m k false := by
  unfold rqi; split
  · exact Nat.mul_le_mul_right _ h
  · exact rq_mono _ h
theorem rqi_mono_lt {n m : Nat} (k : Int) (h : n < m) : rqi n k true ≤ rqi m k false := by
  unfold rqi; split
  · exact Nat.mul_le_mul_right _ (Nat.le_of_lt h)
  · exact rq_mono_lt _ h

theorem rqi_le' {n : Nat} {k : Int} (more : Bool) (h : (blen n : Int) ≤ k + 53) : rqi n k more ≤ 9007199254740992 := by
  have := rqi_le more h
  simpa using this
theorem rqi_ge' {n : Nat} {k : Int} (more : Bool) (hn : n ≠ 0) (h : k + 53 ≤ (blen n : Int)) : 4503599627370496 ≤ rqi n k more := by
  have := rqi_ge more hn h
  simpa using this
theorem bits_lt {B T x y : Nat} {u v : Int} (h : u < v) (h0 : -1074 ≤ u) (hx : x ≤ 2 * B) (hy : B ≤ y) :
    min ((u + 1074).toNat * B + x) T ≤ min ((v + 1074).toNat * B + y) T := by
  have h1 : (u + 1074).toNat + 1 ≤ (v + 1074).toNat := by omega
  have h2 := Nat.mul_le_mul_right B h1
  rw [Nat.add_mul] at h2
  omega
theorem bits_top {B a m : Nat} (h : a ≤ 2045) (hm : m < 2 * B) : a * B + m ≤ 2047 * B := by
  have h2 := Nat.mul_le_mul_right B h
  omega

theorem near_le (n : Nat) (e : Int) (more : Bool) : near n e more ≤ 9218868437227405312 := by
  unfold near; split <;> omega

theorem near_mono_of {n m : Nat} {e : Int} {a b : Bool} (h : n ≤ m) (hr : ∀ k, rqi n k a ≤ rqi m k b) : near n e a ≤ near m e b := by
  unfold near
  by_cases hn : n = 0
  · rw [if_pos hn]; omega
  · have hm : m ≠ 0 := by omega
    rw [if_neg hn, if_neg hm]
    have hb := blen_mono h
    by_cases hu : ulp n e = ulp m e
    · rw [hu]; have := hr (ulp m e - e); omega
    · have h1 : ulp n e < ulp m e := by unfold ulp at *; omega
      have h2 : ulp m e = e + blen m - 53 := by unfold ulp at *; omega
      have h3 : -1074 ≤ ulp n e := by unfold ulp; omega
      have h4 : e + blen n - 53 ≤ ulp n e := by unfold ulp; omega
      exact bits_lt h1 h3 (Nat.le_trans (rqi_le' a (by omega)) (by decide)) (rqi_ge' b hm (by omega))
theorem near_mono {n m : Nat} (e : Int) (h : n ≤ m) : near n e false ≤ near m e false := near_mono_of h (fun k => rqi_mono k h)
theorem near_more (n : Nat) (e : Int) : near n e false ≤ near n e true := near_mono_of (Nat.le_refl _) (fun k => rqi_more n k)
theorem near_mono_lt {n m : Nat} (e : Int) (h : n < m) : near n e true ≤ near m e false := near_mono_of (Nat.le_of_lt h) (fun k => rqi_mono_lt k h)

theorem ulp_scale {n j r : Nat} (e : Int) (h : n ≠ 0) (hr : r < 2 ^ j) : ulp (n * 2 ^ j + r) (e - j) = ulp n e := by
  unfold ulp; rw [blen_shift h hr]; omega

theorem rqi_scale (n : Nat) (k : Int) (j : Nat) : rqi (n * 2 ^ j) (k + j) false = rqi n k false := by
  unfold rqi
  by_cases h1 : k + j ≤ 0
  · rw [if_pos h1, if_pos (by omega)]
    have : (-k).toNat = j + (-(k + j)).toNat := by omega
    rw [this, Nat.pow_add, Nat.mul_assoc]
  · rw [if_neg h1]
    by_cases h2 : k ≤ 0
    · rw [if_pos h2]
      have e : j = (-k).toNat + (k + j).toNat := by omega
      have : n * 2 ^ j = (n * 2 ^ (-k).toNat) * 2 ^ (k + j).toNat := by
        rw [Nat.mul_assoc, ← Nat.pow_add, ← e]
      rw [this]
      have := rq_scale (n * 2 ^ (-k).toNat) 0 (k + j).toNat
      rw [Nat.zero_add, rq_zero] at this
      exact this
    · rw [if_neg h2]
      have : (k + j).toNat = k.toNat + j := by omega
      rw [this, rq_scale]

/-- A number written at a lower exponent is rounded alike. -/
theorem near_scale (n : Nat) (e : Int) (j : Nat) : near (n * 2 ^ j) (e - j) false = near n e false := by
  unfold near
  have hp := Nat.two_pow_pos j
  by_cases hn : n = 0
  · subst hn; rw [Nat.zero_mul, if_pos rfl, if_pos rfl]
  · have h2 : n * 2 ^ j ≠ 0 := Nat.mul_ne_zero hn (by omega)
    rw [if_neg hn, if_neg h2]
    have hu : ulp (n * 2 ^ j) (e - j) = ulp n e := by
      have := ulp_scale (r := 0) e hn hp; rw [Nat.add_zero] at this; exact this
    rw [hu]
    have : ulp n e - (e - j) = (ulp n e - e) + j := by omega
    rw [this, rqi_scale]

/-- What is left behind a long number counts as a little more. -/
theorem near_sticky {n : Nat} (e : Int) {j r : Nat} (more : Bool) (hn : 54 ≤ blen n) (h0 : 0 < r) (hr : r < 2 ^ j) : near (n * 2 ^ j + r) (e - j) more = near n e true := by
  have h1 : n ≠ 0 := by rintro rfl; simp [blen] at hn
  unfold near
  rw [if_neg h1, if_neg (by omega), ulp_scale e h1 hr]
  have h2 : e + 1 ≤ ulp n e := by unfold ulp; omega
  have : rqi (n * 2 ^ j + r) (ulp n e - (e - j)) more = rqi n (ulp n e - e) true := by
    obtain ⟨k, hk⟩ : ∃ k : Nat, ulp n e - e = (k : Int) + 1 := ⟨(ulp n e - e - 1).toNat, by omega⟩
    have h3 : ulp n e - (e - j) = ((k + 1 + j : Nat) : Int) := by omega
    have h4 : ulp n e - e = ((k + 1 : Nat) : Int) := by omega
    rw [h3, h4]
    unfold rqi
    rw [if_neg (by omega), if_neg (by omega), Int.toNat_natCast, Int.toNat_natCast]
    exact rq_sticky n k j r h0 hr more
  rw [this]

/-- A finite number's own parts are rounded to itself. -/
theorem near_parts {m : Nat} {e : Int} (hm : m < 9007199254740992) (he : -1074 ≤ e) (h : e = -1074 ∨ 4503599627370496 ≤ m) (htop : e ≤ 971) :
    near m e false = if m = 0 then 0 else (e + 1074).toNat * 4503599627370496 + m := by
  unfold near
  split
  · rfl
  · have hb : blen m ≤ 53 := blen_le_of_lt (by simpa using hm)
    have hu : ulp m e = e := by
      unfold ulp
      rcases h with h | h
      · omega
      · have := lt_blen_of_le (k := 52) (by simpa using h); omega
    rw [hu]
    unfold rqi
    rw [if_pos (by omega)]
    have : (-(e - e)).toNat = 0 := by omega
    rw [this, Nat.pow_zero, Nat.mul_one]
    apply Nat.min_eq_left
    exact bits_top (B := 4503599627370496) (by omega) (by omega)
end Go.Proofs.Ytbejjlecpcphoaa.FM
