/- Numbers without end in memory: a slice that reads as digits; what at and Trim do. -/
import Derived.Test.YtikhgdbbbingbaaDoorProg
import Derived.WalkKit
import Derived.WalkSpells
import Derived.WalkLawsBesides
import Derived.Deep.QuietTactic
import Derived.BigQuiet
import Derived.Lib.Hide
import Derived.Deep.RegionHeld3
import Derived.Test.YtikhgdbbbingbaaDoorDigits
namespace Go.Proofs.YtikhgdbbbingbaaDoor.Bg
open Go Go.RowKit Go.Proofs.YtikhgdbbbingbaaDoor.Dg
set_option linter.unusedVariables false

/-- the slice v reads as the digits ds -/
def Reads (w : World) (v : Value) (ds : List Int) : Prop :=
  (v = .slice none 0 0 ∧ ds = []) ∨ ∃ b off len cap, v = .slice (some ⟨b, off, none⟩) len cap ∧ ds.length = len ∧ len ≤ cap ∧ b < w.heap.size ∧ ∀ i, i < len → w.cell? ⟨b, off + i, none⟩ = some (.int .i64 (ds.getD i 0))

theorem Reads.below {w w' : World} {v : Value} {ds : List Int} (h : Reads w v ds) (hb : Below w.heap.size w w') : Reads w' v ds := by
  rcases h with h | ⟨b, off, len, cap, e, hl, hc, hs, hr⟩
  · exact Or.inl h
  · refine Or.inr ⟨b, off, len, cap, e, hl, hc, Nat.lt_of_lt_of_le hs hb.size, fun i hi => ?_⟩
    rw [hb.cell (p := ⟨b, off + i, none⟩) hs]; exact hr i hi
theorem Reads.drewN {w : World} {v : Value} {ds : List Int} (h : Reads w v ds) (n : Nat) : Reads (w.drewN n) v ds := h
theorem Reads.len {w : World} {v : Value} {ds : List Int} (h : Reads w v ds) : ∃ a cap, v = .slice a ds.length cap ∧ ds.length ≤ cap := by
  rcases h with ⟨rfl, rfl⟩ | ⟨b, off, len, cap, rfl, rfl, hc, hs, hr⟩
  · exact ⟨none, 0, rfl, Nat.le_refl _⟩
  · exact ⟨_, cap, rfl, hc⟩
theorem reads_nil (w : World) : Reads w (.slice none 0 0) [] := Or.inl ⟨rfl, rfl⟩

theorem reads_own {w : World} {base : Nat} {E : TypeId} {v : Value} {n : Nat} {ds : List Int} (h : w.ownsRow base E 1 v n (ds.map (Value.int .i64))) (hn : ds.length = n) : Reads w v ds := by
  rcases h.2 with ⟨rfl, rfl⟩ | ⟨g, cap, cur, rfl, hb, hg, h1, h2, h3, h4⟩
  · exact Or.inl ⟨rfl, List.length_eq_zero_iff.1 hn⟩
  · refine Or.inr ⟨g, 0, n, cap, rfl, hn, h1, (Array.getElem?_eq_some_iff.1 hg).1, fun i hi => ?_⟩
    rw [Nat.zero_add, h.cellAt i (by omega), List.getElem?_map, List.getElem?_eq_getElem (by omega), List.getD_eq_getElem?_getD, List.getElem?_eq_getElem (by omega)]; rfl

/-- the value v stands for the number z -/
def Is (w : World) (v : Value) (z : Int) : Prop := ∃ s, v = .agg #[.bool (decide (z < 0)), s] ∧ Reads w s (canon z.natAbs)
theorem Is.below {w w' : World} {v : Value} {z : Int} (h : Is w v z) (hb : Below w.heap.size w w') : Is w' v z :=
  h.elim fun s ⟨e, hr⟩ => ⟨s, e, hr.below hb⟩

theorem ret_int {k : IntKind} {a b : Int} (h : a = b) : Ending.returned (.int k a) = .returned (.int k b) := by rw [h]
theorem ret_bool {a b : Bool} (h : a = b) : Ending.returned (.bool a) = .returned (.bool b) := by rw [h]

theorem at_any (v : Value) (ds : List Int) (i : Nat) (w : World) (h : Reads w v ds) (hi : i ≤ 1000000000) :
    Calls Tryd.prog 34 #[v, .int .i64 i] w fun e w' => e = .returned (.int .i64 (ds.getD i 0)) ∧ w = w' := by
  rcases h with ⟨rfl, rfl⟩ | ⟨b, off, len, cap, rfl, hl, hc, hs, hr⟩
  · go_enter Tryd.func34, Tryd.ntmps34
    go_wp2
    go_ret
    exact ⟨rfl, rfl⟩
  · by_cases hlt : i < len
    · have hcell := hr i hlt
      obtain ⟨x, hx⟩ : ∃ x, ds.getD i 0 = x := ⟨_, rfl⟩
      rw [hx] at hcell ⊢
      clear hr hx hl
      go_enter Tryd.func34, Tryd.ntmps34
      go_wp2
      go_ret
      exact ⟨rfl, rfl⟩
    · have hz : ds.getD i 0 = 0 := by rw [List.getD_eq_getElem?_getD, List.getElem?_eq_none (by omega)]; rfl
      rw [hz]
      clear hr hz hl
      go_enter Tryd.func34, Tryd.ntmps34
      go_wp2
      go_ret
      exact ⟨rfl, rfl⟩

def sgn (neg : Bool) (z : Int) : Int := if neg then -z else z

theorem sgn_abs (neg : Bool) (z : Int) (h : 0 ≤ z) : (sgn neg z).natAbs = z.toNat := by
  unfold sgn; cases neg <;> simp <;> omega
theorem sgn_neg (neg : Bool) (z : Int) (h : 0 ≤ z) : decide (sgn neg z < 0) = (neg && decide (0 < z)) := by
  unfold sgn; cases neg
  · simp; omega
  · simp

theorem trim_nil (neg : Bool) (w : World) : Calls Tryd.prog 30 #[.bool neg, .slice none 0 0] w fun e w' => e = .returned (.agg #[.bool false, .slice none 0 0]) ∧ Below w.heap.size w w' := by
  cases neg
  all_goals
    go_enter Tryd.func30, Tryd.ntmps30
    go_wp2
    go_loop [5] (fun n => n = .int .i64 0) (fun _ => 0)
    case atStart => rfl
    case round =>
      obtain rfl := hrel
      go_wp2
      exact bodyPost_ret (v := .agg #[.bool false, .slice none 0 0]) (by simp [results, Tryd.results30, go_sem]) rfl ⟨rfl, (Below.refl _ _).alloc (Nat.le_refl _) _⟩

/-- the first k digits, k no more than there are, the last one of them no nought, stand for what all stand for -/
theorem trim_val {ds : List Int} {k : Nat} (hok : ok ds) (hk : k ≤ ds.length) (hv : val (ds.take k) = val ds) (hz : k = 0 ∨ ds.getD (k - 1) 0 ≠ 0) :
    ds.take k = canon (val ds).toNat ∧ (0 < val ds ↔ 0 < k) := by
  have ht : Dg.trimmed (ds.take k) := by
    rcases hz with rfl | hz
    · left; simp
    · by_cases h0 : k = 0
      · subst h0; left; simp
      · right
        rw [List.length_take, Nat.min_eq_left hk, List.getD_eq_getElem?_getD, List.getElem?_take_of_lt (by omega), ← List.getD_eq_getElem?_getD]
        exact hz
  have e := trimmed_canon (ok_take hok k) ht
  rw [hv] at e
  refine ⟨e, ?_⟩
  constructor
  · intro h
    rcases Nat.eq_zero_or_pos k with h0 | h0
    · subst h0; simp [val] at hv; omega
    · exact h0
  · intro h
    have hl : (ds.take k).length = k := by rw [List.length_take, Nat.min_eq_left hk]
    have hn := val_nonneg hok
    rcases Int.lt_or_le 0 (val ds) with h1 | h1
    · exact h1
    · have h2 : val ds = 0 := by omega
      rw [h2] at e
      rw [e] at hl
      simp [canon_zero] at hl
      omega

set_option maxHeartbeats 2000000 in
theorem trim_row (neg : Bool) (b off len cap : Nat) (ds : List Int) (w : World) (hl : ds.length = len) (hc : len ≤ cap) (hs : b < w.heap.size) (hb : len ≤ 1000000000)
    (hr : ∀ i, i < len → w.cell? ⟨b, off + i, none⟩ = some (.int .i64 (ds.getD i 0))) :
    Calls Tryd.prog 30 #[.bool neg, .slice (some ⟨b, off, none⟩) len cap] w fun e w' =>
      ∃ k, e = .returned (.agg #[.bool (neg && decide (0 < k)), .slice (some ⟨b, off, none⟩) k cap]) ∧ k ≤ len ∧ val (ds.take k) = val ds ∧ (k = 0 ∨ ds.getD (k - 1) 0 ≠ 0) ∧ Below w.heap.size w w' := by
  have HR := Lib.hid hr
  clear hr
  go_enter Tryd.func30, Tryd.ntmps30
  go_wp2
  go_loop [5] (fun n => ∃ k : Nat, n = .int .i64 k ∧ k ≤ len ∧ Hid (val (ds.take k) = val ds)) (fun n => (intOf n).toNat)
  case atStart => exact ⟨len, rfl, Nat.le_refl _, by show _ = _; rw [List.take_of_length_le (by omega)]⟩
  case round =>
    obtain ⟨k, rfl, hk, HV⟩ := hrel
    rcases Nat.eq_zero_or_pos k with rfl | hpos
    · cases neg
      all_goals
        go_wp2
        exact bodyPost_ret (v := .agg #[.bool false, .slice (some ⟨b, off, none⟩) 0 cap]) (by simp [results, Tryd.results30, go_sem]) rfl ⟨0, rfl, by omega, HV.out, Or.inl rfl, (Below.refl _ _).alloc (Nat.le_refl _) _⟩
    · obtain ⟨m, rfl⟩ : ∃ m, k = m + 1 := ⟨k - 1, by omega⟩
      have hcell : (w.alloc (.cells #[.bool false, .slice none 0 0] 38)).cell? ⟨b, off + m, none⟩ = some (.int .i64 (ds.getD m 0)) := by
        rw [World.cell?_alloc_past _ _ _ hs]; exact HR.out m (by omega)
      obtain ⟨x, hx⟩ : ∃ x, ds.getD m 0 = x := ⟨_, rfl⟩
      rw [hx] at hcell
      have HX := Lib.hid hx
      clear hx
      by_cases hz : x = 0
      · have hz1 : ((x : Int) == 0) = true := by simpa using hz
        have HZ := Lib.hid hz
        clear hz
        go_wp2
        go_round
        case rel => exact ⟨m, by go_num, by omega, by show _ = _; rw [← HV.out, val_take_zero ds m (by omega) (by rw [HX.out]; exact HZ.out)]⟩
        case measure => simp [intOf] <;> omega
      · have hz1 : ((x : Int) == 0) = false := by simpa using hz
        have HZ := Lib.hid (show ds.getD (m + 1 - 1) 0 ≠ 0 by rw [Nat.add_sub_cancel, HX.out]; exact hz)
        clear hz
        cases neg
        · go_wp2
          exact bodyPost_ret (v := .agg #[.bool false, .slice (some ⟨b, off, none⟩) (m + 1) cap]) (by simp [results, Tryd.results30, go_sem]) rfl ⟨m + 1, rfl, by omega, HV.out, Or.inr HZ.out, (Below.refl _ _).alloc (Nat.le_refl _) _⟩
        · go_wp2
          exact bodyPost_ret (v := .agg #[.bool true, .slice (some ⟨b, off, none⟩) (m + 1) cap]) (by simp [results, Tryd.results30, go_sem]) rfl ⟨m + 1, by simp, by omega, HV.out, Or.inr HZ.out, (Below.refl _ _).alloc (Nat.le_refl _) _⟩

theorem trim_any (neg : Bool) (v : Value) (ds : List Int) (w : World) (h : Reads w v ds) (hok : ok ds) (hb : ds.length ≤ 1000000000) :
    Calls Tryd.prog 30 #[.bool neg, v] w fun e w' => ∃ r, e = .returned r ∧ Is w' r (sgn neg (val ds)) ∧ Below w.heap.size w w' := by
  have hn := val_nonneg hok
  rcases h with ⟨rfl, rfl⟩ | ⟨b, off, len, cap, rfl, hl, hc, hs, hr⟩
  · refine (trim_nil neg w).mono ?_
    rintro e w' ⟨rfl, hb⟩
    have e0 : sgn neg (val []) = 0 := by cases neg <;> rfl
    exact ⟨_, rfl, ⟨.slice none 0 0, by rw [e0]; rfl, Or.inl ⟨rfl, by rw [e0]; rfl⟩⟩, hb⟩
  · refine (trim_row neg b off len cap ds w hl hc hs (by omega) hr).mono ?_
    rintro e w' ⟨k, rfl, hk, hv, hz, hb⟩
    have ht := trim_val hok (by omega) hv hz
    refine ⟨_, rfl, ⟨.slice (some ⟨b, off, none⟩) k cap, ?_, Or.inr ⟨b, off, k, cap, rfl, ?_, by omega, Nat.lt_of_lt_of_le hs hb.size, fun i hi => ?_⟩⟩, hb⟩
    · rw [sgn_neg neg _ hn]
      have : decide (0 < val ds) = decide (0 < k) := by rw [decide_eq_decide]; exact ht.2
      rw [this]
    · rw [sgn_abs neg _ hn, ← ht.1, List.length_take, Nat.min_eq_left (by omega)]
    · rw [sgn_abs neg _ hn, ← ht.1, hb.cell (p := ⟨b, off + i, none⟩) hs, hr i (by omega), List.getD_eq_getElem?_getD, List.getD_eq_getElem?_getD, List.getElem?_take_of_lt hi]

end Go.Proofs.YtikhgdbbbingbaaDoor.Bg
