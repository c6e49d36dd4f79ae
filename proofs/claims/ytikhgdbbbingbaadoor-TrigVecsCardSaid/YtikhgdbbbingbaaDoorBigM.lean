/- What Mul does. -/
import Derived.Test.YtikhgdbbbingbaaDoorBig9
namespace Go.Proofs.YtikhgdbbbingbaaDoor.Bg
open Go Go.RowKit Go.Proofs.YtikhgdbbbingbaaDoor.Dg
set_option linter.unusedVariables false

theorem mul_left_step (y x c D s : Int) (hs : s = x * y + c) : c + y * (x + 1000 * D) = s % 1000 + 1000 * (s / 1000 + y * D) := by
  have e : c + y * (x + 1000 * D) = (x * y + c) + 1000 * (y * D) := by
    rw [Int.mul_add, Int.mul_comm y x, Int.mul_left_comm y 1000 D]; omega
  rw [e, ← hs]; omega

theorem mul_inv {acc d1 : List Int} {k j : Nat} {c x y s V : Int} (hl : acc.length = k + j) (hx : d1.getD j 0 = x) (hs : s = x * y + c)
    (h : val acc + pw (k + j) * (c + y * val (d1.drop j)) = V) : val (acc ++ [s % 1000]) + pw (k + (j + 1)) * (s / 1000 + y * val (d1.drop (j + 1))) = V := by
  have ep : pw (k + (j + 1)) = pw (k + j) * 1000 := rfl
  rw [val_snoc, hl, ← h, val_drop d1 j, hx, mul_left_step y x c _ s hs, ep, Int.mul_add (pw (k + j)) (s % 1000), Int.mul_assoc, Int.add_assoc]

/-- what Mul holds between two rounds -/
structure MulAt (w wr : World) (b0 : Bool) (s0 : Value) (b1 : Bool) (s1 : Value) (ss : Value) (z : Int) : Prop where
  x : Box w.heap.size b0 s0 wr
  y : Box (w.heap.size + 1) b1 s1 wr
  r : Box (w.heap.size + 2) false (.slice none 0 0) wr
  s : Box (w.heap.size + 3) false ss wr
  f0 : wr.frozen? ⟨w.heap.size + 2, 0, none⟩ = false
  f1 : wr.frozen? ⟨w.heap.size + 2, 1, none⟩ = false
  g0 : wr.frozen? ⟨w.heap.size + 3, 0, none⟩ = false
  g1 : wr.frozen? ⟨w.heap.size + 3, 1, none⟩ = false
  sz : w.heap.size + 4 ≤ wr.heap.size
  num : Is wr (.agg #[.bool false, ss]) z
  bel : Below w.heap.size w wr
theorem MulAt.below {w wr w2 : World} {b0 : Bool} {s0 : Value} {b1 : Bool} {s1 ss : Value} {z : Int} (h : MulAt w wr b0 s0 b1 s1 ss z) (hb : Below wr.heap.size wr w2) : MulAt w w2 b0 s0 b1 s1 ss z := by
  have hs := h.sz
  refine ⟨h.x.below (by omega) hb, h.y.below (by omega) hb, h.r.below (by omega) hb, h.s.below (by omega) hb, ?_, ?_, ?_, ?_, Nat.le_trans hs hb.size, h.num.below hb, h.bel.trans (hb.mono h.bel.size)⟩
  all_goals first
    | (rw [hb.frozen (show _ < wr.heap.size by show _ < _; simp only; omega)]; first | exact h.f0 | exact h.f1 | exact h.g0 | exact h.g1)

theorem MulAt.put {w w2 : World} {b0 : Bool} {s0 : Value} {b1 : Bool} {s1 ss ss' : Value} {z z' : Int} (h : MulAt w w2 b0 s0 b1 s1 ss z) (hss : ∀ x, ss ≠ .int .i64 x) (hn : Is w2 (.agg #[.bool false, ss']) z') :
    MulAt w (put2 w2 (w.heap.size + 3) (.bool false) ss') b0 s0 b1 s1 ss' z' := by
  have hk : Keeps w2 (put2 w2 (w.heap.size + 3) (.bool false) ss') := put2_keeps h.s.1 h.s.2 (nb _) hss
  refine ⟨⟨put2_other (by omega) h.x.1, put2_other (by omega) h.x.2⟩, ⟨put2_other (by omega) h.y.1, put2_other (by omega) h.y.2⟩, ⟨put2_other (by omega) h.r.1, put2_other (by omega) h.r.2⟩, put2_cells h.s.1 h.s.2, ?_, ?_, ?_, ?_, ?_, hn.keeps hk, put2_below h.bel (by omega)⟩
  · unfold put2; rw [World.frozen?_setCell, World.frozen?_setCell]; exact h.f0
  · unfold put2; rw [World.frozen?_setCell, World.frozen?_setCell]; exact h.f1
  · unfold put2; rw [World.frozen?_setCell, World.frozen?_setCell]; exact h.g0
  · unfold put2; rw [World.frozen?_setCell, World.frozen?_setCell]; exact h.g1
  · exact Nat.le_trans h.sz hk.size

theorem val_zeros (k : Nat) : val (List.replicate k 0) = 0 := by
  induction k with
  | zero => rfl
  | succ k ih => simp only [List.replicate_succ, val, ih]; rfl
theorem ok_zeros (k : Nat) : ok (List.replicate k 0) := fun d h => by
  obtain ⟨_, rfl⟩ := List.mem_replicate.1 h
  omega

/-- the whole of the three boxes and the sum's one -/
def mulW (w : World) (b0 : Bool) (s0 : Value) (b1 : Bool) (s1 : Value) : World :=
  (boxes w b0 s0 b1 s1).alloc (.cells #[.bool false, .slice none 0 0] 38)
theorem mulW_at (w : World) (b0 : Bool) (s0 : Value) (b1 : Bool) (s1 : Value) : MulAt w (mulW w b0 s0 b1 s1) b0 s0 b1 s1 (.slice none 0 0) 0 := by
  have hB := boxes_at w b0 s0 b1 s1
  have hS := boxes_size w b0 s0 b1 s1
  have hb : Below (boxes w b0 s0 b1 s1).heap.size (boxes w b0 s0 b1 s1) (mulW w b0 s0 b1 s1) := (Below.refl _ _).alloc (Nat.le_refl _) _
  have h2 := hB.below (by omega) hb
  have z := zero_at (boxes w b0 s0 b1 s1) (w.heap.size + 3) (by omega)
  refine ⟨⟨h2.x0, h2.x1⟩, ⟨h2.y0, h2.y1⟩, ⟨h2.z0, h2.z1⟩, z, h2.f0, h2.f1, ?_, ?_, ?_, ⟨_, rfl, reads_nil _⟩, (boxes_below _ _ _ _ _).trans (hb.mono (boxes_below _ _ _ _ _).size)⟩
  · unfold mulW; rw [World.frozen?_alloc_at _ _ _ _ (by omega)]
  · unfold mulW; rw [World.frozen?_alloc_at _ _ _ _ (by omega)]
  · unfold mulW; simp; omega

theorem MulAt.slice {w wr : World} {b0 : Bool} {s0 : Value} {b1 : Bool} {s1 ss : Value} {z : Int} (h : MulAt w wr b0 s0 b1 s1 ss z) : ∃ a cap, ss = .slice a (canon z.natAbs).length cap ∧ Reads wr ss (canon z.natAbs) := by
  obtain ⟨s, e, hr⟩ := h.num
  obtain ⟨a, cap, rfl, _⟩ := hr.len
  simp at e
  obtain ⟨e1, e2⟩ := e
  subst e2
  exact ⟨a, cap, rfl, hr⟩
theorem Reads.at {w : World} {a : Option Addr} {l c : Nat} {ds : List Int} (h : Reads w (.slice a l c) ds) (k : Nat) (hk : k < l) : ∃ b off, a = some ⟨b, off, none⟩ ∧ l ≤ c ∧ w.cell? ⟨b, off + k, none⟩ = some (.int .i64 (ds.getD k 0)) := by
  rcases h with ⟨e, _⟩ | ⟨b, off, len, cap, e, hl, hc, hs, hr⟩
  · cases e; omega
  · cases e; exact ⟨b, off, rfl, hc, hr k hk⟩

theorem val_take_succ (ds : List Int) (k : Nat) (h : k < ds.length) : val (ds.take (k + 1)) = val (ds.take k) + pw k * ds.getD k 0 := by
  rw [List.take_succ_eq_append_getElem h, val_snoc, List.length_take, Nat.min_eq_left (by omega), List.getD_eq_getElem?_getD, List.getElem?_eq_getElem h]; rfl

theorem mul_sm {x y : Int} {d1 d2 : List Int} (o1 : ok d1) (o2 : ok d2) (h1 : val d1 = x.natAbs) (h2 : val d2 = y.natAbs) (hs : Sm (x * y)) (k : Nat) (hk : k < d2.length) {yy : Int} (hy : d2.getD k 0 = yy) :
    Sm (val d1 * val (d2.take k)) ∧ Sm (pw k * (yy * val d1)) ∧ val d1 * val (d2.take k) + pw k * (yy * val d1) = val d1 * val (d2.take (k + 1)) ∧ 0 ≤ val d1 * val (d2.take (k + 1)) := by
  have e := val_take_succ d2 k hk
  rw [hy] at e
  have e2 : val d1 * val (d2.take k) + pw k * (yy * val d1) = val d1 * val (d2.take (k + 1)) := by
    rw [e, Int.mul_add, ← Int.mul_assoc (pw k), Int.mul_comm (pw k * yy)]
  have p1 := val_nonneg o1
  have p2 := val_nonneg (ok_take o2 k)
  have p3 := val_nonneg (ok_take o2 (k + 1))
  have q1 : 0 ≤ val d1 * val (d2.take k) := Int.mul_nonneg p1 p2
  have q3 : 0 ≤ val d1 * val (d2.take (k + 1)) := Int.mul_nonneg p1 p3
  have hyy := ok_getD o2 k
  rw [hy] at hyy
  have q2 : 0 ≤ pw k * (yy * val d1) := Int.mul_nonneg (Int.le_of_lt (pw_pos k)) (Int.mul_nonneg hyy.1 p1)
  have hv := val_split d2 (k + 1) (by omega)
  have hd := val_nonneg (ok_drop o2 (k + 1))
  have hle : val (d2.take (k + 1)) ≤ val d2 := by
    have := Int.mul_nonneg (Int.le_of_lt (pw_pos (k + 1))) hd
    omega
  have q4 : val d1 * val (d2.take (k + 1)) ≤ val d1 * val d2 := Int.mul_le_mul_of_nonneg_left hle p1
  rw [h1, h2] at q4
  have q5 : ((x.natAbs : Int) * (y.natAbs : Int)) = ((x * y).natAbs : Int) := by rw [Int.natAbs_mul]; rfl
  rw [q5, ← h1] at q4
  obtain ⟨s1, s2⟩ := hs
  refine ⟨⟨by omega, by omega⟩, ⟨by omega, by omega⟩, e2, q3⟩

theorem mul_sgn {x y : Int} {b1 b2 : Bool} (e1 : decide (x < 0) = b1) (e2 : decide (y < 0) = b2) : sgn (b1 != b2) ((x.natAbs : Int) * y.natAbs) = x * y := by
  subst e1 e2
  unfold sgn
  by_cases hx : x < 0 <;> by_cases hy : y < 0
  · rw [decide_eq_true hx, decide_eq_true hy, show (x.natAbs : Int) = -x by omega, show (y.natAbs : Int) = -y by omega]; simp [Int.neg_mul, Int.mul_neg]
  · rw [decide_eq_true hx, decide_eq_false hy, show (x.natAbs : Int) = -x by omega, show (y.natAbs : Int) = y by omega]; simp [Int.neg_mul]
  · rw [decide_eq_false hx, decide_eq_true hy, show (x.natAbs : Int) = x by omega, show (y.natAbs : Int) = -y by omega]; simp [Int.mul_neg]
  · rw [decide_eq_false hx, decide_eq_false hy, show (x.natAbs : Int) = x by omega, show (y.natAbs : Int) = y by omega]; simp

set_option maxRecDepth 100000 in
set_option maxHeartbeats 4000000 in
theorem mulB_any (v1 v2 : Value) (x y : Int) (w : World) (h1 : Is w v1 x) (h2 : Is w v2 y) (s1 : Sm x) (s2 : Sm y) (s12 : Sm (x * y)) : Calls Tryd.prog 25 #[v1, v2] w (TellsBig w (x * y)) := by
  obtain ⟨a1, c1, rfl, r1⟩ := h1.form
  obtain ⟨a2, c2, rfl, r2⟩ := h2.form
  obtain ⟨b1, e1⟩ : ∃ b, decide (x < 0) = b := ⟨_, rfl⟩
  obtain ⟨b2, e2⟩ : ∃ b, decide (y < 0) = b := ⟨_, rfl⟩
  have hl1 := s1.len
  have hl2 := s2.len
  have HX := Lib.hid (val_canon x.natAbs)
  have HY := Lib.hid (val_canon y.natAbs)
  have O1 := Lib.hid (canon_ok x.natAbs)
  have O2 := Lib.hid (canon_ok y.natAbs)
  obtain ⟨d1, e5⟩ : ∃ b, canon x.natAbs = b := ⟨_, rfl⟩
  obtain ⟨d2, e6⟩ : ∃ b, canon y.natAbs = b := ⟨_, rfl⟩
  rw [e5] at HX O1 r1 hl1
  rw [e6] at HY O2 r2 hl2
  rw [e1, e2, e5, e6]
  obtain ⟨l1, e3⟩ : ∃ b, d1.length = b := ⟨_, rfl⟩
  obtain ⟨l2, e4⟩ : ∃ b, d2.length = b := ⟨_, rfl⟩
  rw [e3] at hl1 r1 ⊢
  rw [e4] at hl2 r2 ⊢
  have R1 := Lib.hid (fun w1 hb => r1.below (w' := w1) hb)
  have R2 := Lib.hid (fun w1 hb => r2.below (w' := w1) hb)
  have L1 := Lib.hid e3
  have L2 := Lib.hid e4
  have MW := Lib.hid (mulW_at w b1 (.slice a1 l1 c1) b2 (.slice a2 l2 c2))
  clear h1 h2 r1 r2 e5 e6 e3 e4
  have S1 := Lib.hid s1
  have S2 := Lib.hid s2
  have S12 := Lib.hid s12
  have E1 := Lib.hid e1
  have E2 := Lib.hid e2
  clear s1 s2 s12 e1 e2
  go_enter Tryd.func25, Tryd.ntmps25
  go_wp2
  go_loopw [6] (fun i wr => ∃ (k : Nat) (ss : Value), i = .int .i64 k ∧ k ≤ l2 ∧ Hid (MulAt w wr b1 (.slice a1 l1 c1) b2 (.slice a2 l2 c2) ss (val d1 * val (d2.take k)))) (fun i _ => l2 - (intOf i).toNat)
  case atStart => exact ⟨0, _, rfl, by omega, by have h := MW.out; rw [List.take_zero, val, Int.mul_zero]; exact h⟩
  case round =>
    obtain ⟨k, ss, rfl, hk, HM⟩ := hrel
    obtain ⟨x0, x1⟩ := HM.out.x
    obtain ⟨y0, y1⟩ := HM.out.y
    by_cases hlt : k < l2
    · obtain ⟨V, hV⟩ : ∃ V, V = wr := ⟨_, rfl⟩
      subst hV
      obtain ⟨p2, off2, rfl, hlc, hcell⟩ := (R2.out V HM.out.bel).at k hlt
      have hp2 := World.block_lt_of_cell? _ _ hcell
      have hyy := ok_getD O2.out k
      obtain ⟨yy, hye⟩ : ∃ x, d2.getD k 0 = x := ⟨_, rfl⟩
      rw [hye] at hcell hyy
      have HSM := Lib.hid (mul_sm O1.out O2.out HX.out HY.out S12.out k (by rw [L2.out]; exact hlt) hye)
      have CELL := Lib.hid hcell
      clear hye
      go_wp2
      go_loopw [7, 8] (fun d i2 w2 => ∃ j : Nat, i2 = .int .i64 j ∧ j ≤ k ∧ Hid (w2.ownsRow V.heap.size 3 1 d j ((List.replicate j (0 : Int)).map (Value.int .i64))) ∧ Hid (Below V.heap.size V w2)) (fun _ i2 _ => k - (intOf i2).toNat)
      case atStart => exact ⟨0, rfl, by omega, World.ownsRow_nil _ _ _ _, Below.refl _ _⟩
      case round =>
        obtain ⟨j, rfl, hj, HO, HB⟩ := hrel
        by_cases hjk : j < k
        · go_wp2_with (at_builtin; refine app_int rfl (.tmp 25) (.tmp 26) rfl V.heap.size u7 j (List.replicate j 0) 0 wr rfl HO.out rfl (by omega) HB.out.size ?_; intro v' w1 hown hgrow; have O3 := Lib.hid hown; have B3 := Lib.hid (below_app HB.out HB.out.size HO.out hgrow); clear hown hgrow)
          go_roundw
          case rel => exact ⟨j + 1, by go_num, by omega, (by show World.ownsRow _ _ _ _ _ _ _; rw [List.replicate_succ']; exact O3.out), B3.out⟩
          case measure => simp [intOf]; omega
        · obtain rfl : j = k := by omega
          clear hjk
          have B2 := Lib.hid HB.out
          have O2' := Lib.hid HO.out
          go_wp2
          go_loopw [7, 9, 10] (fun d cy i3 w3 => ∃ (i : Nat) (acc : List Int) (c : Int), i3 = .int .i64 i ∧ cy = .int .i64 c ∧ 0 ≤ c ∧ c ≤ 999 ∧ i ≤ l1 + 1 ∧ Hid (l1 + 1 ≤ i → c = 0) ∧
              Hid (w3.ownsRow V.heap.size 3 1 d (j + i) (acc.map (Value.int .i64))) ∧ Hid (acc.length = j + i) ∧ Hid (ok acc) ∧ Hid (val acc + pw (j + i) * (c + yy * val (d1.drop i)) = pw j * (yy * val d1)) ∧ Hid (Below V.heap.size V w3)) (fun _ _ i3 _ => l1 + 2 - (intOf i3).toNat)
          case atStart => exact ⟨0, List.replicate j 0, 0, rfl, rfl, by omega, by omega, by omega, (by show _ → _; omega), O2'.out, (by show _ = _; simp), ok_zeros _, (by show _ = _; rw [val_zeros, Nat.add_zero, List.drop_zero, Int.zero_add, Int.zero_add]), B2.out⟩
          case round =>
            obtain ⟨i, acc, c, rfl, rfl, c0, cc1, hi, HC, HO, HL, HA, HV, HB⟩ := hrel
            have hM3 := HM.out.below HB.out
            obtain ⟨x0, x1⟩ := hM3.x
            obtain ⟨y0, y1⟩ := hM3.y
            by_cases hgo : i < l1 ∨ 0 < c
            · have hcell : wr.cell? ⟨p2, off2 + j, none⟩ = some (.int .i64 yy) := by rw [HB.out.cell (p := ⟨p2, off2 + j, none⟩) hp2]; exact CELL.out
              have A1 := Lib.hid (fun n => at_any _ d1 i (wr.drewN n) ((R1.out wr hM3.bel).drewN n) (by omega))
              have hx := ok_getD O1.out i
              have hlast : Hid (l1 ≤ i → d1.getD i 0 = 0) := fun h => by
                have q1 := L1.out
                rw [List.getD_eq_getElem?_getD, List.getElem?_eq_none (by omega)]; rfl
              obtain ⟨xx, hxe⟩ : ∃ x, d1.getD i 0 = x := ⟨_, rfl⟩
              rw [hxe] at A1 hx hlast
              have X := Lib.hid hxe
              have hp1 : 0 ≤ xx * yy := Int.mul_nonneg hx.1 hyy.1
              have hp3 : xx * yy ≤ 999 * 999 := Int.mul_le_mul hx.2 hyy.2 hyy.1 (by omega)
              have hzz : Hid (l1 ≤ i → xx * yy = 0) := fun h => by rw [hlast.out h, Int.zero_mul]
              obtain ⟨pp, hpp⟩ : ∃ z, xx * yy = z := ⟨_, rfl⟩
              have PP := Lib.hid hpp
              rw [hpp] at hp1 hp3 hzz
              have hi1 : i ≤ l1 := by
                by_cases h : i = l1 + 1
                · have := HC.out (by omega); omega
                · omega
              have M3 := Lib.hid hM3
              have HW0 := (show wrap64 (wrap64 (xx * yy) + c) = pp + c by rw [PP.out]; unfold wrap64; omega)
              obtain ⟨sm, hsm⟩ : ∃ z, pp + c = z := ⟨_, rfl⟩
              have SMV := Lib.hid hsm
              have sm0 : 0 ≤ sm ∧ sm ≤ 999000 := by omega
              rw [hsm] at HW0
              have HW := Lib.hid HW0
              clear hxe hpp hM3 HW0 hsm
              by_cases t1 : i < l1
              all_goals
                try have t3 : 0 < c := by omega
                clear hgo
                go_wp2
                go_quiet ((go_at_call 34; exact Calls.quiet_of_same ((A1.out _).mono fun _ _ q => ⟨q.1, q.2.symm⟩)))
                rw [HW.out]
                go_wp2_with (at_builtin; refine app_int rfl (.tmp 51) (.tmp 54) rfl V.heap.size u7 (j + i) acc (sm % 1000) (wr.drewN nq) rfl (show (wr.drewN nq).ownsRow _ _ _ _ _ _ from HO.out) rfl (by omega) (show V.heap.size ≤ (wr.drewN nq).heap.size from HB.out.size) ?_; intro v' w1 hown hgrow; have O3 := Lib.hid hown; have B3 := Lib.hid (below_app (wr := wr.drewN nq) ⟨HB.out.os, HB.out.tape, HB.out.output, HB.out.size, HB.out.block⟩ HB.out.size HO.out hgrow); clear hown hgrow)
                go_roundw
                case rel => exact ⟨i + 1, acc ++ [sm % 1000], sm / 1000, by go_num, rfl, by omega, by omega, by omega, (by show _ → _; intro h; have := hzz.out; have := SMV.out; omega), O3.out, (by show _ = _; rw [List.length_append, HL.out]; rfl), ok_snoc HA.out (by omega) (by omega), mul_inv HL.out X.out (by rw [PP.out]; exact SMV.out.symm) HV.out, B3.out⟩
                case measure => simp [intOf]; omega
            · have t1 : ¬ i < l1 := by omega
              have hc0 : c = 0 := by omega
              subst hc0
              have HF := Lib.hid (show val acc = pw j * (yy * val d1) by
                have h := HV.out
                rw [val_drop_end d1 i (by have := L1.out; omega)] at h
                simpa using h)
              obtain ⟨sa, scp, rfl, hrd⟩ := hM3.slice
              have M3 := Lib.hid hM3
              obtain ⟨z0, z1⟩ := hM3.s
              obtain ⟨m1, m2, m3, m4⟩ := HSM.out
              have HADD := Lib.hid (fun w1 v1 v2 (h1 : Is w1 v1 (val d1 * val (d2.take j))) (h2 : Is w1 v2 (pw j * (yy * val d1))) => (addB_any v1 v2 _ _ w1 h1 h2 m1 m2))
              rw [m3] at HADD
              have hzn : decide (val d1 * val (d2.take (j + 1)) < 0) = false := decide_eq_false (by omega)
              have HT := Lib.hid (fun w1 hb => trim_any false _ acc w1 ((reads_own HO.out HL.out).below (w' := w1) hb) HA.out (by rw [HL.out]; omega))
              have ES := Lib.hid (show sgn false (val acc) = pw j * (yy * val d1) from HF.out)
              rw [ES.out] at HT
              have hc00 : decide ((0 : Int) > 0) = false := by decide
              clear hgo hM3 hrd m1 m2 m3 m4
              obtain ⟨ns, hns⟩ : ∃ n, (canon (val d1 * val (d2.take j)).natAbs).length = n := ⟨_, rfl⟩
              rw [hns] at M3 z1
              go_wp2
              go_region_with (first
                | (go_at_call 30; refine (HT.out _ (by first | exact Below.refl _ _ | exact (Below.refl _ _).drew)).mono ?_; rintro e w4 ⟨r, rfl, hIs, hbl⟩; have hbl2 : Below wr.heap.size wr w4 := (by first | exact hbl | exact below_undrew hbl); have hM4 := M3.out.below hbl2; obtain ⟨z0', z1'⟩ := hM4.s; have M4 := Lib.hid hM4; have R4 := Lib.hid hIs; have B4 := Lib.hid hbl2; clear hIs hbl hbl2 hM4)
                | (go_at_call 35; refine (HADD.out _ _ _ M4.out.num R4.out).mono ?_; rintro e w5 ⟨r5, rfl, hIs, hbl⟩; have hM5 := M4.out.below hbl; obtain ⟨z0'', z1''⟩ := hM5.s; have zg0 := hM5.g0; have zg1 := hM5.g1; obtain ⟨ra, rcp, rfl, hrd⟩ := hIs.form; have M5 := Lib.hid hM5; have R5 := Lib.hid hIs; clear hIs hbl hM5 hrd))
              all_goals
                go_wp2
                go_roundw
                case rel => exact ⟨j + 1, _, by go_num, by omega, (M5.out.put (fun x h => by cases h) (by have h := R5.out; rw [hzn] at h; exact h))⟩
                case measure => simp [intOf]; omega
    · obtain rfl : k = l2 := by omega
      obtain ⟨sa, scp, rfl, hrd⟩ := HM.out.slice
      have HT := Lib.hid (fun neg => trim_any neg _ _ wr hrd (canon_ok _) (by
        have h := S12.out.len
        have e : (val d1 * val (d2.take k)).natAbs = (x * y).natAbs := by rw [List.take_of_length_le (by have := L2.out; omega), HX.out, HY.out, Int.natAbs_mul, Int.natAbs_mul]; simp
        rw [e]; omega))
      have HE := Lib.hid (show sgn (b1 != b2) (val (canon (val d1 * val (d2.take k)).natAbs)) = x * y by
        have e : (val d1 * val (d2.take k)).natAbs = (x * y).natAbs := by rw [List.take_of_length_le (by have := L2.out; omega), HX.out, HY.out, Int.natAbs_mul, Int.natAbs_mul]; simp
        rw [val_canon, e, Int.natAbs_mul, ← mul_sgn E1.out E2.out]; rfl)
      obtain ⟨z0, z1⟩ := HM.out.s
      go_wp2_with (go_at_call 30; refine (HT.out _).mono ?_; rintro e w4 ⟨r, rfl, hIs, hbl⟩; have hM4 := HM.out.below hbl; have hI2 : Is w4 r (x * y) := (by rw [← HE.out]; exact hIs); obtain ⟨ra, rcp, rfl, hrd2⟩ := hI2.form; have RD := Lib.hid hrd2; have M4 := Lib.hid hM4; obtain ⟨k0, k1⟩ := hM4.r; have kf0 := hM4.f0; have kf1 := hM4.f1; clear hIs hI2 hbl hM4 hrd2)
      exact bodyPost_ret (res_big Tryd.results25 rfl (put2_cells k0 k1)) rfl (tells_put2 RD.out k0 k1 (nb _) (ns _ _ _) M4.out.bel (by omega))
end Go.Proofs.YtikhgdbbbingbaaDoor.Bg
