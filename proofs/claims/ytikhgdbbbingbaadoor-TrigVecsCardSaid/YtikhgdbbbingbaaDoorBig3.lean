/- What sizes, minus and Of do. -/
import Derived.Test.YtikhgdbbbingbaaDoorBig2
namespace Go.Proofs.YtikhgdbbbingbaaDoor.Bg
open Go Go.RowKit Go.Proofs.YtikhgdbbbingbaaDoor.Dg
set_option linter.unusedVariables false

def cmpI (x y : Int) : Int := if x < y then -1 else if y < x then 1 else 0

theorem val_split (ds : List Int) (k : Nat) (h : k ≤ ds.length) : val ds = val (ds.take k) + pw k * val (ds.drop k) := by
  have e := val_append (ds.take k) (ds.drop k)
  rw [List.take_append_drop, List.length_take, Nat.min_eq_left h] at e
  exact e
theorem val_split_lt {ds : List Int} (hok : ok ds) (k : Nat) : pw k * val (ds.drop k) ≤ val ds ∧ val ds < pw k * (val (ds.drop k) + 1) := by
  by_cases h : k ≤ ds.length
  · have e := val_split ds k h
    have h0 := val_nonneg (ok_take hok k)
    have h1 := val_lt (ok_take hok k)
    rw [List.length_take, Nat.min_eq_left h] at h1
    rw [Int.mul_add, Int.mul_one]; omega
  · rw [List.drop_eq_nil_of_le (by omega)]
    have h0 := val_nonneg hok
    have h1 := val_lt hok
    have h2 : pw ds.length ≤ pw k := by
      obtain ⟨j, rfl⟩ : ∃ j, k = ds.length + j := ⟨k - ds.length, by omega⟩
      rw [pw_add]
      have := pw_pos ds.length
      have h3 := pw_pos j
      have h4 : pw ds.length * 1 ≤ pw ds.length * pw j := Int.mul_le_mul_of_nonneg_left (by omega) (by omega)
      omega
    simp [val]; omega

theorem drop_lt {d1 d2 : List Int} (o1 : ok d1) (o2 : ok d2) (k : Nat) (h : val (d1.drop k) < val (d2.drop k)) : val d1 < val d2 := by
  have a := (val_split_lt o1 k).2
  have b := (val_split_lt o2 k).1
  have c : pw k * (val (d1.drop k) + 1) ≤ pw k * val (d2.drop k) := Int.mul_le_mul_of_nonneg_left (by omega) (Int.le_of_lt (pw_pos k))
  omega

def CmpPost (w : World) (x y : Int) (e : Ending) (w' : World) : Prop := e = .returned (.int .i64 (cmpI x y)) ∧ w = w'

set_option maxRecDepth 100000 in
set_option maxHeartbeats 2000000 in
theorem sizes_any (v1 v2 : Value) (d1 d2 : List Int) (w : World) (h1 : Reads w v1 d1) (h2 : Reads w v2 d2) (o1 : ok d1) (o2 : ok d2) (l1 : d1.length ≤ 1000000) (l2 : d2.length ≤ 1000000) :
    Calls Tryd.prog 40 #[v1, v2] w (CmpPost w (val d1) (val d2)) := by
  have A1 := Lib.hid (fun k hk => at_any v1 d1 k w h1 hk)
  have A2 := Lib.hid (fun k hk => at_any v2 d2 k w h2 hk)
  obtain ⟨a1, c1, rfl, hc1⟩ := h1.len
  obtain ⟨a2, c2, rfl, hc2⟩ := h2.len
  obtain ⟨m1, hm1⟩ : ∃ m, d1.length = m := ⟨_, rfl⟩
  obtain ⟨m2, hm2⟩ : ∃ m, d2.length = m := ⟨_, rfl⟩
  rw [hm1] at l1 hc1 A1 ⊢
  rw [hm2] at l2 hc2 A2 ⊢
  have L1 := Lib.hid hm1
  have L2 := Lib.hid hm2
  clear hm1 hm2 h1 h2
  go_enter Tryd.func40, Tryd.ntmps40
  go_wp2
  go_loop [5] (fun i => ∃ k : Nat, k ≤ m1 + m2 + 1 ∧ i = .int .i64 ((k : Int) - 1) ∧ Hid (val (d1.drop k) = val (d2.drop k))) (fun i => (intOf i + 1).toNat)
  case atStart => exact ⟨m1 + m2 + 1, by omega, by simp, by show _ = _; rw [val_drop_end _ _ (by have := L1.out; omega), val_drop_end _ _ (by have := L2.out; omega)]⟩
  case round =>
    obtain ⟨k, hk, rfl, HV⟩ := hrel
    rcases Nat.eq_zero_or_pos k with rfl | hpos
    · have HF := Lib.hid (show cmpI (val d1) (val d2) = 0 by
        have h : val d1 = val d2 := by simpa using HV.out
        unfold cmpI; rw [if_neg (by omega), if_neg (by omega)])
      go_wp2
      go_ret
      exact ⟨ret_int HF.out.symm, rfl⟩
    · obtain ⟨j, rfl⟩ : ∃ j, k = j + 1 := ⟨k - 1, by omega⟩
      rw [show (((j + 1 : Nat) : Int) - 1) = (j : Int) by omega]
      have B1 := A1.out j (by omega)
      have B2 := A2.out j (by omega)
      have hd1 := val_drop d1 j
      have hd2 := val_drop d2 j
      rw [HV.out] at hd1
      obtain ⟨x, hx⟩ : ∃ x, d1.getD j 0 = x := ⟨_, rfl⟩
      obtain ⟨y, hy⟩ : ∃ x, d2.getD j 0 = x := ⟨_, rfl⟩
      rw [hx] at B1 hd1
      rw [hy] at B2 hd2
      have D1 := Lib.hid hd1
      have D2 := Lib.hid hd2
      have C1 := Lib.hid B1
      have C2 := Lib.hid B2
      clear hd1 hd2 B1 B2 hx hy
      by_cases hlt : x < y
      · have HF := Lib.hid (show cmpI (val d1) (val d2) = -1 by
          have h := drop_lt o1 o2 j (by rw [D1.out, D2.out]; omega)
          unfold cmpI; rw [if_pos h])
        clear o1 o2
        go_wp2_with (go_at_call 34; (first | (with_reducible refine C1.out.mono ?_) | (with_reducible refine C2.out.mono ?_)); rintro e w' ⟨rfl, rfl⟩)
        go_ret
        exact ⟨ret_int HF.out.symm, rfl⟩
      · by_cases hgt : y < x
        · have HF := Lib.hid (show cmpI (val d1) (val d2) = 1 by
            have h := drop_lt o2 o1 j (by rw [D1.out, D2.out]; omega)
            unfold cmpI; rw [if_neg (by omega), if_pos h])
          clear o1 o2
          go_wp2_with (go_at_call 34; (first | (with_reducible refine C1.out.mono ?_) | (with_reducible refine C2.out.mono ?_)); rintro e w' ⟨rfl, rfl⟩)
          go_ret
          exact ⟨ret_int HF.out.symm, rfl⟩
        · have HN := Lib.hid (show val (d1.drop j) = val (d2.drop j) by rw [D1.out, D2.out]; omega)
          go_wp2_with (go_at_call 34; (first | (with_reducible refine C1.out.mono ?_) | (with_reducible refine C2.out.mono ?_)); rintro e w' ⟨rfl, rfl⟩)
          go_round
          case rel => exact ⟨j, by omega, rfl, HN.out⟩
          case measure => simp [intOf] <;> omega

theorem minus_inv {acc d1 d2 : List Int} {k : Nat} {c x y t V c' : Int} (hl : acc.length = k) (hx : d1.getD k 0 = x) (hy : d2.getD k 0 = y) (ht : x - y - c = t - 1000 * c')
    (h : val acc + pw k * (val (d1.drop k) - val (d2.drop k) - c) = V) : val (acc ++ [t]) + pw (k + 1) * (val (d1.drop (k + 1)) - val (d2.drop (k + 1)) - c') = V := by
  rw [val_snoc, hl, ← h, val_drop d1 k, val_drop d2 k, hx, hy]
  have e : x + 1000 * val (d1.drop (k + 1)) - (y + 1000 * val (d2.drop (k + 1))) - c = t + 1000 * (val (d1.drop (k + 1)) - val (d2.drop (k + 1)) - c') := by omega
  rw [e, Int.mul_add, pw, ← Int.mul_assoc]; omega

set_option maxRecDepth 100000 in
set_option maxHeartbeats 4000000 in
theorem minus_row (b off cap1 : Nat) (v2 : Value) (d1 d2 : List Int) (w : World) (hb1 : b < w.heap.size) (hcap : d1.length ≤ cap1) (hr1 : ∀ i, i < d1.length → w.cell? ⟨b, off + i, none⟩ = some (.int .i64 (d1.getD i 0)))
    (h2 : Reads w v2 d2) (o1 : ok d1) (o2 : ok d2) (l1 : d1.length ≤ 1000000) (hlen : d2.length ≤ d1.length) (hle : val d2 ≤ val d1) :
    Calls Tryd.prog 41 #[.slice (some ⟨b, off, none⟩) d1.length cap1, v2] w (Told w (val d1 - val d2) d1.length) := by
  have R1 := Lib.hid hr1
  have R2 := Lib.hid h2
  have O1 := Lib.hid o1
  have O2 := Lib.hid o2
  have HLE := Lib.hid hle
  have HLEN := Lib.hid hlen
  obtain ⟨m1, hm1⟩ : ∃ m, d1.length = m := ⟨_, rfl⟩
  rw [hm1] at l1 hcap R1 HLEN ⊢
  have L1 := Lib.hid hm1
  clear hm1 h2 hr1 o1 o2 hle hlen
  go_enter Tryd.func41, Tryd.ntmps41
  go_wp2
  go_loopw [5, 6, 7] (fun d cy i wr => ∃ (k : Nat) (acc : List Int) (c : Int), i = .int .i64 k ∧ cy = .int .i64 c ∧ 0 ≤ c ∧ c ≤ 1 ∧ k ≤ m1 ∧
      Hid (wr.ownsRow w.heap.size 3 1 d k (acc.map (Value.int .i64))) ∧ Hid (acc.length = k) ∧ Hid (ok acc) ∧ Hid (val acc + pw k * (val (d1.drop k) - val (d2.drop k) - c) = val d1 - val d2) ∧ Hid (Below w.heap.size w wr))
    (fun _ _ i _ => m1 - (intOf i).toNat)
  case atStart => exact ⟨0, [], 0, rfl, rfl, by omega, by omega, by omega, World.ownsRow_nil _ _ _ _, rfl, ok_nil, (by show _ = _; simp [val, pw]), Below.refl _ _⟩
  case round =>
    obtain ⟨k, acc, c, rfl, rfl, c0, cc1, hk, HO, HL, HA, HV, HB⟩ := hrel
    by_cases hlt : k < m1
    · have hcell : wr.cell? ⟨b, off + k, none⟩ = some (.int .i64 (d1.getD k 0)) := by
        rw [HB.out.cell (p := ⟨b, off + k, none⟩) hb1]; exact R1.out k hlt
      have A2 := Lib.hid (fun n => at_any v2 d2 k (wr.drewN n) ((R2.out.below HB.out).drewN n) (by omega))
      have hx := ok_getD O1.out k
      have hy := ok_getD O2.out k
      obtain ⟨x, hxe⟩ : ∃ x, d1.getD k 0 = x := ⟨_, rfl⟩
      obtain ⟨y, hye⟩ : ∃ y, d2.getD k 0 = y := ⟨_, rfl⟩
      rw [hxe] at hcell hx
      rw [hye] at A2 hy
      have X := Lib.hid hxe
      have Y := Lib.hid hye
      clear hxe hye
      by_cases hneg : x - y - c < 0
      · go_wp2
        go_quiet ((go_at_call 34; exact Calls.quiet_of_same ((A2.out _).mono fun _ _ q => ⟨q.1, q.2.symm⟩)))
        go_wp2_with (at_builtin; refine app_int rfl (.tmp 29) (.tmp 31) rfl w.heap.size u5 k acc (x - y - c + 1000) _ rfl (show (wr.drewN nq).ownsRow _ _ _ _ _ _ from HO.out) rfl (by omega) (show w.heap.size ≤ (wr.drewN nq).heap.size from HB.out.size) ?_; intro v' w1 hown hgrow; have O3 := Lib.hid hown; have B1 := Lib.hid (below_app (wr := wr.drewN nq) ⟨HB.out.os, HB.out.tape, HB.out.output, HB.out.size, HB.out.block⟩ HB.out.size HO.out hgrow); clear hown hgrow)
        go_roundw
        case rel => exact ⟨k + 1, acc ++ [x - y - c + 1000], 1, by go_num, rfl, by omega, by omega, by omega, O3.out, (by show _ = _; rw [List.length_append, HL.out]; rfl), ok_snoc HA.out (by omega) (by omega), minus_inv HL.out X.out Y.out (by omega) HV.out, B1.out⟩
        case measure => simp [intOf]; omega
      · go_wp2
        go_quiet ((go_at_call 34; exact Calls.quiet_of_same ((A2.out _).mono fun _ _ q => ⟨q.1, q.2.symm⟩)))
        go_wp2_with (at_builtin; refine app_int rfl (.tmp 29) (.tmp 31) rfl w.heap.size u5 k acc (x - y - c) _ rfl (show (wr.drewN nq).ownsRow _ _ _ _ _ _ from HO.out) rfl (by omega) (show w.heap.size ≤ (wr.drewN nq).heap.size from HB.out.size) ?_; intro v' w1 hown hgrow; have O3 := Lib.hid hown; have B1 := Lib.hid (below_app (wr := wr.drewN nq) ⟨HB.out.os, HB.out.tape, HB.out.output, HB.out.size, HB.out.block⟩ HB.out.size HO.out hgrow); clear hown hgrow)
        go_roundw
        case rel => exact ⟨k + 1, acc ++ [x - y - c], 0, by go_num, rfl, by omega, by omega, by omega, O3.out, (by show _ = _; rw [List.length_append, HL.out]; rfl), ok_snoc HA.out (by omega) (by omega), minus_inv HL.out X.out Y.out (by omega) HV.out, B1.out⟩
        case measure => simp [intOf]; omega
    · obtain rfl : k = m1 := by omega
      have HF := Lib.hid (show val acc = val d1 - val d2 by
        have h := HV.out
        have q1 := L1.out
        have q2 := HLEN.out
        have h1 := HLE.out
        have h3 := val_lt HA.out
        rw [HL.out] at h3
        rw [val_drop_end d1 k (by omega), val_drop_end d2 k (by omega)] at h
        by_cases hc : c = 0
        · rw [hc] at h; simpa using h
        · rw [show (0 : Int) - 0 - c = -1 by omega, Int.mul_neg, Int.mul_one] at h; omega)
      go_wp2
      go_ret
      exact ⟨_, acc, rfl, reads_own HO.out HL.out, HA.out, HF.out, by rw [HL.out]; exact Nat.le_refl _, HB.out⟩
end Go.Proofs.YtikhgdbbbingbaaDoor.Bg
