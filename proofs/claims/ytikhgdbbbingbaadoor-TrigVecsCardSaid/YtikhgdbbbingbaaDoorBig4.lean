/- What Of does. -/
import Derived.Test.YtikhgdbbbingbaaDoorBig3
namespace Go.Proofs.YtikhgdbbbingbaaDoor.Bg
open Go Go.RowKit Go.Proofs.YtikhgdbbbingbaaDoor.Dg
set_option linter.unusedVariables false

/-- every cell that holds a whole number holds it still -/
structure Keeps (w w' : World) : Prop where
  size : w.heap.size ≤ w'.heap.size
  ints : ∀ (a : Addr) (x : Int), w.cell? a = some (.int .i64 x) → w'.cell? a = some (.int .i64 x)
theorem Keeps.refl (w : World) : Keeps w w := ⟨Nat.le_refl _, fun _ _ h => h⟩
theorem Keeps.trans {a b c : World} (h : Keeps a b) (k : Keeps b c) : Keeps a c := ⟨Nat.le_trans h.size k.size, fun x v hx => k.ints x v (h.ints x v hx)⟩
theorem Keeps.of_below {w w' : World} (h : Below w.heap.size w w') : Keeps w w' :=
  ⟨h.size, fun a x hx => by rw [h.cell (p := a) (World.block_lt_of_cell? w a hx)]; exact hx⟩
theorem Keeps.of_setCell {w : World} {p : Addr} {u v : Value} (h : w.cell? p = some u) (hu : ∀ x, u ≠ .int .i64 x) : Keeps w (w.setCell p v) :=
  ⟨by simp, fun a x hx => by
    have hne : p ≠ a := fun e => by subst e; rw [h] at hx; exact hu x (Option.some.inj hx)
    rw [World.cell?_setCell_other _ _ _ _ hne]; exact hx⟩
theorem Reads.keeps {w w' : World} {v : Value} {ds : List Int} (h : Reads w v ds) (hk : Keeps w w') : Reads w' v ds := by
  rcases h with h | ⟨b, off, len, cap, e, hl, hc, hs, hr⟩
  · exact Or.inl h
  · exact Or.inr ⟨b, off, len, cap, e, hl, hc, Nat.lt_of_lt_of_le hs hk.size, fun i hi => hk.ints _ _ (hr i hi)⟩
theorem Is.keeps {w w' : World} {v : Value} {z : Int} (h : Is w v z) (hk : Keeps w w') : Is w' v z := h.elim fun s ⟨e, hr⟩ => ⟨s, e, hr.keeps hk⟩

theorem tdiv_cases (x n : Int) : (0 ≤ x → x.tdiv n = x / n ∧ x.tmod n = x % n) ∧ (x ≤ 0 → x.tdiv n = -((-x) / n) ∧ x.tmod n = -((-x) % n)) := by
  refine ⟨fun h => ⟨Int.tdiv_eq_ediv_of_nonneg h, Int.tmod_eq_emod_of_nonneg h⟩, fun h => ?_⟩
  have h1 := Int.neg_tmod (-x) n
  have h2 := Int.neg_tdiv (-x) n
  rw [Int.neg_neg] at h1 h2
  rw [h1, h2, Int.tmod_eq_emod_of_nonneg (show 0 ≤ -x by omega), Int.tdiv_eq_ediv_of_nonneg (show 0 ≤ -x by omega)]
  exact ⟨rfl, rfl⟩

theorem canon_len7 (n : Nat) (h : n ≤ 9223372036854775808) : (canon n).length ≤ 7 := canon_len n 7 (by
  have : pw 7 = 1000000000000000000000 := by decide
  omega)

/-- a value told: it stands for z, and only new memory was made -/
def TellsBig (w : World) (z : Int) (e : Ending) (w' : World) : Prop := ∃ r, e = .returned r ∧ Is w' r z ∧ Below w.heap.size w w'

/-- one digit more -/
theorem of_step {acc : List Int} {x : Int} {n : Nat} (h : acc ++ canon x.natAbs = canon n) (hx : x ≠ 0) : (acc ++ [((x.natAbs % 1000 : Nat) : Int)]) ++ canon (x.natAbs / 1000) = canon n := by
  rw [← h, List.append_assoc, List.singleton_append, ← canon_pos x.natAbs (by omega)]

/-- the struct of the result, laid first: as it was laid, behind all that came -/
theorem box_at {w wr w2 : World} (h1 : Below (w.heap.size + 1) (w.alloc (.cells #[.bool false, .slice none 0 0] 38)) wr) (h2 : Below wr.heap.size wr w2) :
    w2.cell? ⟨w.heap.size, 0, none⟩ = some (.bool false) ∧ w2.cell? ⟨w.heap.size, 1, none⟩ = some (.slice none 0 0) ∧ w2.frozen? ⟨w.heap.size, 0, none⟩ = false ∧ w2.frozen? ⟨w.heap.size, 1, none⟩ = false := by
  have hs : w.heap.size < wr.heap.size := by have := h1.size; simp at this; omega
  refine ⟨?_, ?_, ?_, ?_⟩
  · rw [h2.cell hs, h1.cell (show w.heap.size < w.heap.size + 1 by omega), World.cell?_alloc_at _ _ _ _ rfl]; rfl
  · rw [h2.cell hs, h1.cell (show w.heap.size < w.heap.size + 1 by omega), World.cell?_alloc_at _ _ _ _ rfl]; rfl
  · rw [h2.frozen hs, h1.frozen (show w.heap.size < w.heap.size + 1 by omega), World.frozen?_alloc_at _ _ _ _ rfl]
  · rw [h2.frozen hs, h1.frozen (show w.heap.size < w.heap.size + 1 by omega), World.frozen?_alloc_at _ _ _ _ rfl]

/-- the result stored in its struct -/
def put2 (w : World) (B : Nat) (x y : Value) : World := (w.setCell ⟨B, 0, none⟩ x).setCell ⟨B, 1, none⟩ y
theorem put2_cells {w : World} {B : Nat} {x y u v : Value} (h0 : w.cell? ⟨B, 0, none⟩ = some u) (h1 : w.cell? ⟨B, 1, none⟩ = some v) :
    (put2 w B x y).cell? ⟨B, 0, none⟩ = some x ∧ (put2 w B x y).cell? ⟨B, 1, none⟩ = some y := by
  unfold put2
  refine ⟨?_, ?_⟩
  · rw [World.cell?_setCell_other _ _ _ _ (by simp)]; exact World.cell?_setCell_same _ _ _ h0
  · refine World.cell?_setCell_same _ _ _ (u := v) ?_
    rw [World.cell?_setCell_other _ _ _ _ (by simp)]; exact h1
theorem put2_keeps {w : World} {B : Nat} {x y u v : Value} (h0 : w.cell? ⟨B, 0, none⟩ = some u) (h1 : w.cell? ⟨B, 1, none⟩ = some v) (hu : ∀ z, u ≠ .int .i64 z) (hv : ∀ z, v ≠ .int .i64 z) : Keeps w (put2 w B x y) := by
  unfold put2
  refine (Keeps.of_setCell h0 hu).trans (Keeps.of_setCell (u := v) ?_ hv)
  rw [World.cell?_setCell_other _ _ _ _ (by simp)]; exact h1
theorem put2_below {w w2 : World} {B : Nat} {x y : Value} (h : Below w.heap.size w w2) (hB : w.heap.size ≤ B) : Below w.heap.size w (put2 w2 B x y) := (h.setCell (p := ⟨B, 0, none⟩) hB x).setCell (p := ⟨B, 1, none⟩) hB y

set_option maxRecDepth 100000 in
set_option maxHeartbeats 4000000 in
theorem of_any (a : Int) (w : World) (ha0 : -9223372036854775808 ≤ a) (ha1 : a ≤ 9223372036854775807) :
    Calls Tryd.prog 24 #[.int .i64 a] w (TellsBig w a) := by
  have HN := Lib.hid (canon_len7 a.natAbs (by omega))
  obtain ⟨neg, hneg⟩ : ∃ b, decide (a < 0) = b := ⟨_, rfl⟩
  have NEG := Lib.hid hneg
  go_enter Tryd.func24, Tryd.ntmps24
  go_wp2
  go_loopw [0, 3, 5] (fun x d k5 wr => ∃ (k : Nat) (acc : List Int) (z : Int), x = .int .i64 z ∧ -9223372036854775808 ≤ z ∧ z ≤ 9223372036854775807 ∧ Hid (a < 0 → z ≤ 0) ∧ Hid (0 ≤ a → 0 ≤ z) ∧ k ≤ 7 ∧
      Hid (wr.ownsRow (w.heap.size + 1) 3 1 d k (acc.map (Value.int .i64))) ∧ Hid (acc.length = k) ∧ Hid (acc ++ canon z.natAbs = canon a.natAbs) ∧ Hid (Below (w.heap.size + 1) (w.alloc (.cells #[.bool false, .slice none 0 0] 38)) wr))
    (fun x _ _ _ => (intOf x).natAbs)
  case atStart => exact ⟨0, [], a, rfl, ha0, ha1, (by show _ → _; omega), (by show _ → _; omega), by omega, World.ownsRow_nil _ _ _ _, rfl, rfl, Below.refl _ _⟩
  case round =>
    obtain ⟨k, acc, z, rfl, z0, z1, HS1, HS2, hk, HO, HL, HC, HB⟩ := hrel
    by_cases hz : z = 0
    · have hacc : acc = canon a.natAbs := by
        have h := HC.out
        rw [hz] at h; simpa [canon_zero] using h
      have HT := Lib.hid (trim_any neg u3 acc wr (reads_own HO.out HL.out) (by rw [hacc]; exact canon_ok _) (by rw [HL.out]; omega))
      have HE := Lib.hid (show sgn neg (val acc) = a by
        rw [hacc, val_canon, ← NEG.out]; unfold sgn
        by_cases h : a < 0
        · rw [decide_eq_true h]; simp; omega
        · rw [decide_eq_false h]; simp; omega)
      have hz1 : ((z : Int) != 0) = false := by simp [hz]
      have hsz := HB.out.size
      clear hacc hz
      go_wp2_with (go_at_call 30; refine HT.out.mono ?_; rintro e w2 ⟨r, rfl, ⟨sv, rfl, hrd⟩, hbl⟩; obtain ⟨sc0, sc1, sf0, sf1⟩ := box_at HB.out hbl; obtain ⟨sa, scp, rfl, _⟩ := hrd.len; have RD := Lib.hid hrd; have BL := Lib.hid hbl; clear hrd hbl)
      have hp := put2_cells (x := .bool (decide (sgn neg (val acc) < 0))) (y := .slice sa (canon (sgn neg (val acc)).natAbs).length scp) sc0 sc1
      refine bodyPost_ret (v := .agg #[.bool (decide (sgn neg (val acc) < 0)), .slice sa (canon (sgn neg (val acc)).natAbs).length scp]) ?_ rfl ⟨_, rfl, ?_, ?_⟩
      · change (results _ _).run _ (put2 w2 w.heap.size _ _) = _
        simp [results, Tryd.results24, go_sem, hp.1, hp.2]; rfl
      · have hi : Is w2 (.agg #[.bool (decide (sgn neg (val acc) < 0)), .slice sa (canon (sgn neg (val acc)).natAbs).length scp]) a := by
          have h := HE.out
          have r := RD.out
          rw [h] at r ⊢
          exact ⟨_, rfl, r⟩
        exact hi.keeps (put2_keeps sc0 sc1 (fun z => by simp) (fun z => by simp))
      · have hb : Below w.heap.size w wr := ((Below.refl _ _).alloc (Nat.le_refl _) _).trans (HB.out.mono (by omega))
        exact put2_below (hb.trans (BL.out.mono hb.size)) (Nat.le_refl _)
    · have hz1 : ((z : Int) != 0) = true := by simpa using hz
      have HST := Lib.hid (of_step HC.out hz)
      have hc1 := canon_len7 z.natAbs (by omega)
      have hk6 : k ≤ 6 := by
        have h1 : (acc ++ canon z.natAbs).length ≤ 7 := by rw [HC.out]; exact HN.out
        rw [List.length_append, HL.out, canon_pos z.natAbs (by omega), List.length_cons] at h1
        omega
      clear hc1
      obtain ⟨t1, t2⟩ := tdiv_cases z 1000
      obtain ⟨q, hq⟩ : ∃ q, z.tdiv 1000 = q := ⟨_, rfl⟩
      obtain ⟨r, hr⟩ : ∃ r, z.tmod 1000 = r := ⟨_, rfl⟩
      rw [hq, hr] at t1 t2
      by_cases hneg2 : z < 0
      · have tt := t2 (by omega)
        have hr0 : -1000 < r ∧ r ≤ 0 := by omega
        have hq0 : -9223372036854775808 ≤ q ∧ q ≤ 0 := by omega
        have T := Lib.hid tt
        clear t1 t2 tt
        by_cases hr1 : r < 0
        · go_wp2_with (at_builtin; refine app_int rfl (.tmp 16) (.tmp 18) rfl (w.heap.size + 1) u3 k acc (-r) wr rfl HO.out rfl (by omega) (by have := HB.out.size; simp at this; omega) ?_; intro v' w1 hown hgrow; have O1 := Lib.hid hown; have B1 := Lib.hid (below_app HB.out (by have := HB.out.size; simp at this; omega) HO.out hgrow); clear hown hgrow)
          go_roundw
          case rel => exact ⟨k + 1, acc ++ [-r], q, rfl, by omega, by omega, (by show _ → _; intro h; have := T.out; have := HS1.out; omega), (by show _ → _; intro h; have := T.out; have := HS2.out; omega), by omega, O1.out, (by show _ = _; rw [List.length_append, HL.out]; rfl), (by
            have h := HST.out
            have t := T.out
            rw [show ((z.natAbs % 1000 : Nat) : Int) = -r by omega, show z.natAbs / 1000 = q.natAbs by omega] at h
            exact h), B1.out⟩
          case measure => have t := T.out; simp [intOf]; omega
        · obtain rfl : r = 0 := by omega
          go_wp2_with (at_builtin; refine app_int rfl (.tmp 16) (.tmp 18) rfl (w.heap.size + 1) u3 k acc (0) wr rfl HO.out rfl (by omega) (by have := HB.out.size; simp at this; omega) ?_; intro v' w1 hown hgrow; have O1 := Lib.hid hown; have B1 := Lib.hid (below_app HB.out (by have := HB.out.size; simp at this; omega) HO.out hgrow); clear hown hgrow)
          go_roundw
          case rel => exact ⟨k + 1, acc ++ [0], q, rfl, by omega, by omega, (by show _ → _; intro h; have := T.out; have := HS1.out; omega), (by show _ → _; intro h; have := T.out; have := HS2.out; omega), by omega, O1.out, (by show _ = _; rw [List.length_append, HL.out]; rfl), (by
            have h := HST.out
            have t := T.out
            rw [show ((z.natAbs % 1000 : Nat) : Int) = 0 by omega, show z.natAbs / 1000 = q.natAbs by omega] at h
            exact h), B1.out⟩
          case measure => have t := T.out; simp [intOf]; omega
      · have tt := t1 (by omega)
        have hr0 : 0 ≤ r ∧ r < 1000 := by omega
        have hq0 : 0 ≤ q ∧ q ≤ 9223372036854775807 := by omega
        have T := Lib.hid tt
        clear t1 t2 tt
        go_wp2_with (at_builtin; refine app_int rfl (.tmp 16) (.tmp 18) rfl (w.heap.size + 1) u3 k acc (r) wr rfl HO.out rfl (by omega) (by have := HB.out.size; simp at this; omega) ?_; intro v' w1 hown hgrow; have O1 := Lib.hid hown; have B1 := Lib.hid (below_app HB.out (by have := HB.out.size; simp at this; omega) HO.out hgrow); clear hown hgrow)
        go_roundw
        case rel => exact ⟨k + 1, acc ++ [r], q, rfl, by omega, by omega, (by show _ → _; intro h; have := T.out; have := HS1.out; omega), (by show _ → _; intro h; have := T.out; have := HS2.out; omega), by omega, O1.out, (by show _ = _; rw [List.length_append, HL.out]; rfl), (by
          have h := HST.out
          have t := T.out
          rw [show ((z.natAbs % 1000 : Nat) : Int) = r by omega, show z.natAbs / 1000 = q.natAbs by omega] at h
          exact h), B1.out⟩
        case measure => have t := T.out; simp [intOf]; omega
end Go.Proofs.YtikhgdbbbingbaaDoor.Bg
