/- The plain law of the headings: the first wind along which a way goes farthest lies in the way's own quarter. -/
import Derived.Test.YtikhgdbbbingbaaDoorTrigPure
namespace Go.Proofs.YtikhgdbbbingbaaDoor.Tr
open Go Go.RowKit
set_option linter.unusedVariables false

def S (d : Int) : Int := sinA (256 * d)
def C (d : Int) : Int := cosA (256 * d)
def vel (x y d : Int) : Int := x * C d + y * S d

/-- one try -/
def try1 (x y : Int) (s : Int × Int) (d : Int) : Int × Int := if s.2 < vel x y d then (d, vel x y d) else s

/-- tries, from a wind on, n of them -/
def tries (x y : Int) : Nat → Int → Int × Int → Int × Int
  | 0, _, s => s
  | n + 1, d, s => tries x y n (d + 1) (try1 x y s d)

theorem tries_succ (x y : Int) (n : Nat) : ∀ (d : Int) (s : Int × Int), tries x y (n + 1) d s = try1 x y (tries x y n d s) (d + n) := by
  induction n with
  | zero => intro d s; simp [tries]
  | succ n ih =>
    intro d s
    rw [tries, ih]
    rw [tries]
    congr 1
    push_cast; omega

/-- the winds' table, by the kernel -/
theorem table : ∀ k : Fin 256,
    (k.val ≤ 64 → 0 ≤ C k.val ∧ 0 ≤ S k.val) ∧ (k.val < 64 → 0 < C k.val) ∧ (0 < k.val → k.val < 128 → 0 < S k.val) ∧
    (64 ≤ k.val → k.val ≤ 128 → C k.val ≤ 0 ∧ 0 ≤ S k.val) ∧ (64 < k.val → k.val < 192 → C k.val < 0) ∧
    (128 ≤ k.val → k.val ≤ 192 → C k.val ≤ 0 ∧ S k.val ≤ 0) ∧ (192 ≤ k.val → 0 ≤ C k.val ∧ S k.val ≤ 0) ∧
    (k.val ≤ 128 → C (128 - k.val) = -C k.val ∧ S (128 - k.val) = S k.val) ∧
    (0 < k.val → C (256 - k.val) = C k.val ∧ S (256 - k.val) = -S k.val) ∧
    (128 < k.val → C (k.val - 128) = -C k.val ∧ S (k.val - 128) = -S k.val) ∧
    (129 ≤ k.val → C (384 - k.val) = -C k.val ∧ S (384 - k.val) = S k.val) ∧
    (-65536 ≤ C k.val ∧ C k.val ≤ 65536 ∧ -65536 ≤ S k.val ∧ S k.val ≤ 65536) := by decide +kernel

theorem table_at (d : Int) (h0 : 0 ≤ d) (h1 : d < 256) :
    (d ≤ 64 → 0 ≤ C d ∧ 0 ≤ S d) ∧ (d < 64 → 0 < C d) ∧ (0 < d → d < 128 → 0 < S d) ∧
    (64 ≤ d → d ≤ 128 → C d ≤ 0 ∧ 0 ≤ S d) ∧ (64 < d → d < 192 → C d < 0) ∧
    (128 ≤ d → d ≤ 192 → C d ≤ 0 ∧ S d ≤ 0) ∧ (192 ≤ d → 0 ≤ C d ∧ S d ≤ 0) ∧
    (d ≤ 128 → C (128 - d) = -C d ∧ S (128 - d) = S d) ∧
    (0 < d → C (256 - d) = C d ∧ S (256 - d) = -S d) ∧
    (128 < d → C (d - 128) = -C d ∧ S (d - 128) = -S d) ∧
    (129 ≤ d → C (384 - d) = -C d ∧ S (384 - d) = S d) ∧
    (-65536 ≤ C d ∧ C d ≤ 65536 ∧ -65536 ≤ S d ∧ S d ≤ 65536) := by
  obtain ⟨n, rfl⟩ : ∃ n : Nat, d = n := ⟨d.toNat, by omega⟩
  have t := table ⟨n, by omega⟩
  simp only at t
  obtain ⟨t1, t2, t3, t4, t5, t6, t7, t8, t9, t10, t11, t12⟩ := t
  exact ⟨fun h => t1 (by omega), fun h => t2 (by omega), fun h h' => t3 (by omega) (by omega), fun h h' => t4 (by omega) (by omega), fun h h' => t5 (by omega) (by omega), fun h h' => t6 (by omega) (by omega), fun h => t7 (by omega), fun h => t8 (by omega), fun h => t9 (by omega), fun h => t10 (by omega), fun h => t11 (by omega), t12⟩

/-- b is the first of the winds in P along which one goes farthest -/
def Best (x y : Int) (P : Int → Prop) (b : Int) : Prop := P b ∧ ∀ d, P d → vel x y d ≤ vel x y b ∧ (d < b → vel x y d < vel x y b)

theorem best_unique {x y : Int} {P : Int → Prop} {a b : Int} (ha : Best x y P a) (hb : Best x y P b) : a = b := by
  have h1 := ha.2 b hb.1
  have h2 := hb.2 a ha.1
  rcases Int.lt_trichotomy a b with h | h | h
  · have := h2.2 h; omega
  · exact h
  · have := h1.2 h; omega

theorem best_congr {x y : Int} {P Q : Int → Prop} {b : Int} (h : ∀ d, P d ↔ Q d) (hb : Best x y P b) : Best x y Q b :=
  ⟨(h b).1 hb.1, fun d hd => hb.2 d ((h d).2 hd)⟩

theorem or_step (e d : Int) (n : Nat) (p : Prop) : ((p ∨ e = d) ∨ (d + 1 ≤ e ∧ e < d + 1 + n)) ↔ (p ∨ (d ≤ e ∧ e < d + ((n + 1 : Nat) : Int))) := by
  constructor
  · rintro ((h | h) | h)
    · exact Or.inl h
    · exact Or.inr (by omega)
    · exact Or.inr (by omega)
  · rintro (h | h)
    · exact Or.inl (Or.inl h)
    · by_cases h' : e = d
      · exact Or.inl (Or.inr h')
      · exact Or.inr (by omega)

theorem tries_best (x y : Int) (n : Nat) : ∀ (d b : Int) (P : Int → Prop), Best x y P b → (∀ e, P e → e < d) →
    ∃ b', tries x y n d (b, vel x y b) = (b', vel x y b') ∧ Best x y (fun e => P e ∨ (d ≤ e ∧ e < d + n)) b' := by
  induction n with
  | zero =>
    intro d b P hb _
    exact ⟨b, rfl, best_congr (fun e => ⟨fun h => Or.inl h, fun h => h.elim id (fun h => by omega)⟩) hb⟩
  | succ n ih =>
    intro d b P hb hP
    rw [tries]
    by_cases h : vel x y b < vel x y d
    · rw [show try1 x y (b, vel x y b) d = (d, vel x y d) from if_pos h]
      have hd : Best x y (fun e => P e ∨ e = d) d := ⟨Or.inr rfl, fun e he => he.elim (fun he => by
        have := (hb.2 e he).1
        exact ⟨by omega, fun _ => by omega⟩) (fun he => by subst he; exact ⟨by omega, fun h => by omega⟩)⟩
      obtain ⟨b', e1, e2⟩ := ih (d + 1) d _ hd (fun e he => he.elim (fun he => by have := hP e he; omega) (fun he => by omega))
      exact ⟨b', e1, best_congr (fun e => or_step e d n (P e)) e2⟩
    · rw [show try1 x y (b, vel x y b) d = (b, vel x y b) from if_neg h]
      have hd : Best x y (fun e => P e ∨ e = d) b := ⟨Or.inl hb.1, fun e he => he.elim (hb.2 e) (fun he => by
        subst he; have := hP b hb.1; exact ⟨by omega, fun h => by omega⟩)⟩
      obtain ⟨b', e1, e2⟩ := ih (d + 1) b _ hd (fun e he => he.elim (fun he => by have := hP e he; omega) (fun he => by omega))
      exact ⟨b', e1, best_congr (fun e => or_step e d n (P e)) e2⟩

theorem prod_bound (x c : Int) (hx : -1073741824 ≤ x ∧ x ≤ 1073741824) (hc : -65536 ≤ c ∧ c ≤ 65536) : -70368744177664 ≤ x * c ∧ x * c ≤ 70368744177664 := by
  have a1 : (1073741824 - x) * (65536 + c) ≥ 0 := Int.mul_nonneg (by omega) (by omega)
  have a2 : (1073741824 + x) * (65536 + c) ≥ 0 := Int.mul_nonneg (by omega) (by omega)
  have a3 : (1073741824 - x) * (65536 - c) ≥ 0 := Int.mul_nonneg (by omega) (by omega)
  have a4 : (1073741824 + x) * (65536 - c) ≥ 0 := Int.mul_nonneg (by omega) (by omega)
  simp only [Int.sub_mul, Int.add_mul, Int.mul_add, Int.mul_sub] at a1 a2 a3 a4
  omega

theorem vel_bound (x y d : Int) (hx : -1073741824 ≤ x ∧ x ≤ 1073741824) (hy : -1073741824 ≤ y ∧ y ≤ 1073741824) (h0 : 0 ≤ d) (h1 : d < 256) :
    (-70368744177664 ≤ x * C d ∧ x * C d ≤ 70368744177664) ∧ (-70368744177664 ≤ y * S d ∧ y * S d ≤ 70368744177664) := by
  obtain ⟨_, _, _, _, _, _, _, _, _, _, _, c0, c1, s0, s1⟩ := table_at d h0 h1
  exact ⟨prod_bound _ _ hx ⟨c0, c1⟩, prod_bound _ _ hy ⟨s0, s1⟩⟩

def init : Int × Int := (0, -9223372036854775808)

/-- the program's heading -/
def headP (x y : Int) : Int :=
  if x < 0 ∧ 0 ≤ y then (tries x y 65 64 init).1
  else if x ≤ 0 ∧ y < 0 then (tries x y 65 128 init).1
  else if y < 0 then (tries x y 64 192 (try1 x y init 0)).1
  else (tries x y 65 0 init).1

/-- the document's -/
def headR (x y : Int) : Int := (tries x y 255 1 (0, vel x y 0)).1

theorem headR_best (x y : Int) : Best x y (fun e => 0 ≤ e ∧ e < 256) (headR x y) := by
  have h0 : Best x y (fun e => e = 0) 0 := ⟨rfl, fun e he => by subst he; exact ⟨by omega, fun h => by omega⟩⟩
  obtain ⟨b, e1, e2⟩ := tries_best x y 255 1 0 _ h0 (fun e he => by omega)
  unfold headR
  rw [e1]
  exact best_congr (fun e => by constructor <;> intro h <;> omega) e2

theorem from_best (x y : Int) (hx : -1073741824 ≤ x ∧ x ≤ 1073741824) (hy : -1073741824 ≤ y ∧ y ≤ 1073741824) (d : Int) (h0 : 0 ≤ d) (h1 : d < 256) (n : Nat) :
    Best x y (fun e => d ≤ e ∧ e < d + ((n + 1 : Nat) : Int)) (tries x y (n + 1) d init).1 := by
  have hb := vel_bound x y d hx hy h0 h1
  have h2 : Best x y (fun e => e = d) d := ⟨rfl, fun e he => by subst he; exact ⟨by omega, fun h => by omega⟩⟩
  obtain ⟨b, e1, e2⟩ := tries_best x y n (d + 1) d _ h2 (fun e he => by omega)
  rw [tries, show try1 x y init d = (d, vel x y d) from if_pos (by unfold init vel; simp only; omega), e1]
  exact best_congr (fun e => by constructor <;> intro h <;> omega) e2

/-- the best of some winds is the best of all, if each other wind is no better than an earlier one of them, or worse than one of them -/
theorem best_all {x y b : Int} {P : Int → Prop} (hP : ∀ e, P e → 0 ≤ e ∧ e < 256) (hb : Best x y P b)
    (h : ∀ d, 0 ≤ d → d < 256 → ¬ P d → ∃ e, P e ∧ ((e < d ∧ vel x y d ≤ vel x y e) ∨ vel x y d < vel x y e)) : Best x y (fun e => 0 ≤ e ∧ e < 256) b := by
  refine ⟨hP b hb.1, fun d hd => ?_⟩
  by_cases hp : P d
  · exact hb.2 d hp
  · obtain ⟨e, he, h1⟩ := h d hd.1 hd.2 hp
    have h2 := hb.2 e he
    rcases h1 with ⟨h3, h4⟩ | h3
    · exact ⟨by omega, fun h5 => by have := h2.2 (by omega); omega⟩
    · exact ⟨by omega, fun _ => by omega⟩

theorem mulp {a b : Int} (ha : 0 ≤ a) (hb : 0 ≤ b) : 0 ≤ a * b := Int.mul_nonneg ha hb
theorem mulpp {a b : Int} (ha : 0 < a) (hb : 0 < b) : 0 < a * b := Int.mul_pos ha hb
theorem muln {a b : Int} (ha : a ≤ 0) (hb : b ≤ 0) : 0 ≤ a * b := Int.mul_nonneg_of_nonpos_of_nonpos ha hb
theorem mulnn {a b : Int} (ha : a < 0) (hb : b < 0) : 0 < a * b := Int.mul_pos_of_neg_of_neg ha hb
theorem mulpn {a b : Int} (ha : 0 ≤ a) (hb : b ≤ 0) : a * b ≤ 0 := Int.mul_nonpos_of_nonneg_of_nonpos ha hb
theorem mulnp {a b : Int} (ha : a ≤ 0) (hb : 0 ≤ b) : a * b ≤ 0 := Int.mul_nonpos_of_nonpos_of_nonneg ha hb
theorem mulppn {a b : Int} (ha : 0 < a) (hb : b < 0) : a * b < 0 := Int.mul_neg_of_pos_of_neg ha hb
theorem mulnpp {a b : Int} (ha : a < 0) (hb : 0 < b) : a * b < 0 := Int.mul_neg_of_neg_of_pos ha hb

set_option maxHeartbeats 4000000 in
theorem head_eq (x y : Int) (hx : -1073741824 ≤ x ∧ x ≤ 1073741824) (hy : -1073741824 ≤ y ∧ y ≤ 1073741824) : headP x y = headR x y := by
  refine best_unique ?_ (headR_best x y)
  unfold headP
  by_cases q1 : x < 0 ∧ 0 ≤ y
  · rw [if_pos q1]
    refine best_all (fun e he => by omega) (from_best x y hx hy 64 (by omega) (by omega) 64) fun d h0 h1 hp => ?_
    obtain ⟨t1, t2, t3, t4, t5, t6, t7, t8, t9, t10, t11, t12⟩ := table_at d h0 h1
    by_cases a1 : d < 64
    · refine ⟨128 - d, by omega, Or.inr ?_⟩
      have := mulnpp q1.1 (t2 a1)
      unfold vel; rw [(t8 (by omega)).1, (t8 (by omega)).2, Int.mul_neg]; omega
    · by_cases a2 : d < 192
      · refine ⟨256 - d, by omega, Or.inl ⟨by omega, ?_⟩⟩
        have := mulpn q1.2 (t6 (by omega) (by omega)).2
        unfold vel; rw [(t9 (by omega)).1, (t9 (by omega)).2, Int.mul_neg]; omega
      · refine ⟨d - 128, by omega, Or.inl ⟨by omega, ?_⟩⟩
        have h2 := mulpn q1.2 (t7 (by omega)).2
        have h3 := mulnp (Int.le_of_lt q1.1) (t7 (by omega)).1
        unfold vel; rw [(t10 (by omega)).1, (t10 (by omega)).2, Int.mul_neg, Int.mul_neg]; omega
  · rw [if_neg q1]
    by_cases q2 : x ≤ 0 ∧ y < 0
    · rw [if_pos q2]
      refine best_all (fun e he => by omega) (from_best x y hx hy 128 (by omega) (by omega) 64) fun d h0 h1 hp => ?_
      obtain ⟨t1, t2, t3, t4, t5, t6, t7, t8, t9, t10, t11, t12⟩ := table_at d h0 h1
      by_cases a1 : d ≤ 64
      · refine ⟨192, by omega, Or.inr ?_⟩
        have e1 : C 192 = 0 := by decide +kernel
        have e2 : S 192 = -65536 := by decide +kernel
        have h2 := mulnp q2.1 (t1 a1).1
        have h3 := mulnp (Int.le_of_lt q2.2) (t1 a1).2
        unfold vel; rw [e1, e2]; omega
      · by_cases a2 : d < 128
        · refine ⟨256 - d, by omega, Or.inr ?_⟩
          have := mulnpp q2.2 (t3 (by omega) (by omega))
          unfold vel; rw [(t9 (by omega)).1, (t9 (by omega)).2, Int.mul_neg]; omega
        · refine ⟨384 - d, by omega, Or.inl ⟨by omega, ?_⟩⟩
          have := mulnp q2.1 (t7 (by omega)).1
          unfold vel; rw [(t11 (by omega)).1, (t11 (by omega)).2, Int.mul_neg]; omega
    · rw [if_neg q2]
      by_cases q3 : y < 0
      · rw [if_pos q3]
        have hb := vel_bound x y 0 hx hy (by omega) (by omega)
        have h2 : Best x y (fun e => e = 0) 0 := ⟨rfl, fun e he => by subst he; exact ⟨by omega, fun h => by omega⟩⟩
        obtain ⟨b, e1, e2⟩ := tries_best x y 64 192 0 _ h2 (fun e he => by omega)
        rw [show try1 x y init 0 = (0, vel x y 0) from if_pos (by unfold init vel; simp only; omega), e1]
        refine best_all (fun e he => by omega) e2 fun d h0 h1 hp => ?_
        obtain ⟨t1, t2, t3, t4, t5, t6, t7, t8, t9, t10, t11, t12⟩ := table_at d h0 h1
        by_cases a1 : d ≤ 64
        · refine ⟨256 - d, by omega, Or.inr ?_⟩
          have := mulnpp q3 (t3 (by omega) (by omega))
          unfold vel; rw [(t9 (by omega)).1, (t9 (by omega)).2, Int.mul_neg]; omega
        · by_cases a2 : d ≤ 128
          · refine ⟨0, by omega, Or.inl ⟨by omega, ?_⟩⟩
            have e1 : C 0 = 65536 := by decide +kernel
            have e2 : S 0 = 0 := by decide +kernel
            have h2 := mulpn (show 0 ≤ x by omega) (t4 (by omega) a2).1
            have h3 := mulnp (Int.le_of_lt q3) (t4 (by omega) a2).2
            unfold vel; rw [e1, e2]; omega
          · refine ⟨384 - d, by omega, Or.inr ?_⟩
            have := mulppn (show 0 < x by omega) (t5 (by omega) (by omega))
            unfold vel; rw [(t11 (by omega)).1, (t11 (by omega)).2, Int.mul_neg]; omega
      · rw [if_neg q3]
        refine best_all (fun e he => by omega) (from_best x y hx hy 0 (by omega) (by omega) 64) fun d h0 h1 hp => ?_
        obtain ⟨t1, t2, t3, t4, t5, t6, t7, t8, t9, t10, t11, t12⟩ := table_at d h0 h1
        by_cases a1 : d ≤ 128
        · refine ⟨128 - d, by omega, Or.inl ⟨by omega, ?_⟩⟩
          have := mulpn (show 0 ≤ x by omega) (t4 (by omega) a1).1
          unfold vel; rw [(t8 (by omega)).1, (t8 (by omega)).2, Int.mul_neg]; omega
        · by_cases a2 : d < 192
          · refine ⟨d - 128, by omega, Or.inl ⟨by omega, ?_⟩⟩
            have h2 := mulpn (show 0 ≤ x by omega) (t6 (by omega) (by omega)).1
            have h3 := mulpn (show 0 ≤ y by omega) (t6 (by omega) (by omega)).2
            unfold vel; rw [(t10 (by omega)).1, (t10 (by omega)).2, Int.mul_neg, Int.mul_neg]; omega
          · refine ⟨256 - d, by omega, Or.inl ⟨by omega, ?_⟩⟩
            have := mulpn (show 0 ≤ y by omega) (t7 (by omega)).2
            unfold vel; rw [(t9 (by omega)).1, (t9 (by omega)).2, Int.mul_neg]; omega

end Go.Proofs.YtikhgdbbbingbaaDoor.Tr
