/- What Int does, and the second chapter's Floor. -/
import Derived.Test.YtikhgdbbbingbaaDoorFixQuo
import Derived.Deep.OwnRows
namespace Go.Proofs.YtikhgdbbbingbaaDoor.Bg
open Go Go.RowKit Go.Proofs.YtikhgdbbbingbaaDoor.Dg
set_option linter.unusedVariables false

theorem drop_le {ds : List Int} (h : ok ds) (k : Nat) : 0 ≤ val (ds.drop k) ∧ val (ds.drop k) ≤ val ds := by
  have h0 := val_nonneg (ok_drop h k)
  refine ⟨h0, ?_⟩
  have h1 := (val_split_lt h k).1
  have h2 := pw_pos k
  have h3 : 1 * val (ds.drop k) ≤ pw k * val (ds.drop k) := Int.mul_le_mul_of_nonneg_right (by omega) h0
  omega

set_option maxRecDepth 100000 in
set_option maxHeartbeats 2000000 in
theorem int_any (v : Value) (z : Int) (w : World) (h : Is w v z) (hz : I64 z) : Calls Tryd.prog 33 #[v] w (TellsInt w z) := by
  have I1 := Lib.hid (fun w1 hb => h.below (w' := w1) hb)
  obtain ⟨a, cap, rfl, hr⟩ := h.form
  have hok := canon_ok z.natAbs
  have hval := val_canon z.natAbs
  have hz0 : z.natAbs ≤ 9223372036854775808 := by unfold I64 at hz; omega
  have HZ := Lib.hid hz
  obtain ⟨b0, hb0⟩ : ∃ b, decide (z < 0) = b := ⟨_, rfl⟩
  obtain ⟨ds, hds⟩ : ∃ ds, canon z.natAbs = ds := ⟨_, rfl⟩
  have hl7 : ds.length ≤ 7 := by rw [← hds]; exact canon_len7 _ hz0
  rw [hds] at hr hok hval
  rw [hb0, hds]
  have RD := Lib.hid (fun w1 hb => hr.below (w' := w1) hb)
  obtain ⟨n, hn⟩ : ∃ n, ds.length = n := ⟨_, rfl⟩
  rw [hn] at hl7 RD ⊢
  have BX := Lib.hid (box_new w b0 (.slice a n cap))
  have BW := Lib.hid (show Below w.heap.size w (w.alloc (.cells #[.bool b0, .slice a n cap] 38)) from (Below.refl _ _).alloc (Nat.le_refl _) _)
  have HN := Lib.hid hn
  have HOK := Lib.hid hok
  have HV := Lib.hid (show val ds = (z.natAbs : Int) from hval)
  have HB := Lib.hid hb0
  clear h hr hn hok hval hb0 hz hds I1
  go_enter Tryd.func33, Tryd.ntmps33
  go_upto_region 1 with fail
  obtain ⟨V, hV⟩ : ∃ V, w.alloc (.cells #[.bool b0, .slice a n cap] 38) = V := ⟨_, rfl⟩
  rw [hV] at BX BW ⊢
  clear hV
  obtain ⟨p, hp⟩ : ∃ p, w.heap.size = p := ⟨_, rfl⟩
  rw [hp] at BX ⊢
  clear hp
  obtain ⟨x0, x1⟩ := BX.out
  have RV := Lib.hid (RD.out _ BW.out)
  go_wp2
  go_loop [3, 4] (fun v i => ∃ (k : Nat), k ≤ n ∧ i = .int .i64 ((k : Int) - 1) ∧ v = .int .i64 (-(val (ds.drop k)))) (fun _ i => (intOf i + 1).toNat)
  case atStart => exact ⟨n, Nat.le_refl _, rfl, by rw [val_drop_end _ _ (by rw [HN.out]; exact Nat.le_refl _)]; rfl⟩
  case round =>
    obtain ⟨k, hk, rfl, rfl⟩ := hrel
    rcases Nat.eq_zero_or_pos k with rfl | hpos
    · have HF := Lib.hid (show val (ds.drop 0) = (z.natAbs : Int) by simpa using HV.out)
      obtain ⟨y, hy⟩ : ∃ y, val (ds.drop 0) = y := ⟨_, rfl⟩
      rw [hy] at HF ⊢
      have y0 : 0 ≤ y := by have := HF.out; omega
      have y1 : y ≤ 9223372036854775808 := by have := HF.out; omega
      clear hy
      cases b0
      · have hz1 : y ≤ 9223372036854775807 := by have := HF.out; have := HB.out; have := HZ.out; simp at *; unfold I64 at *; omega
        go_wp2
        go_ret
        exact ⟨ret_int (by have := HF.out; have := HB.out; simp at *; omega), BW.out⟩
      · go_wp2
        go_ret
        exact ⟨ret_int (by have := HF.out; have := HB.out; simp at *; omega), BW.out⟩
    · obtain ⟨j, rfl⟩ : ∃ j, k = j + 1 := ⟨k - 1, by omega⟩
      rw [show (((j + 1 : Nat) : Int) - 1) = (j : Int) by omega]
      obtain ⟨b, off, rfl, hcap, hcell⟩ := RV.out.at j (by omega)
      have hd := val_drop ds j
      have hle := drop_le HOK.out j
      have hle2 := drop_le HOK.out (j + 1)
      have hdig := ok_getD HOK.out j
      have hvb : val ds ≤ 9223372036854775808 := by rw [HV.out]; omega
      obtain ⟨x, hx⟩ : ∃ x, ds.getD j 0 = x := ⟨_, rfl⟩
      obtain ⟨y, hy⟩ : ∃ x, val (ds.drop (j + 1)) = x := ⟨_, rfl⟩
      obtain ⟨t, ht⟩ : ∃ x, val (ds.drop j) = x := ⟨_, rfl⟩
      rw [hx] at hcell hd hdig
      rw [hy] at hd hle2 ⊢
      rw [ht] at hd hle
      have T := Lib.hid ht
      obtain ⟨t0, t1⟩ := hle
      obtain ⟨y0, y1⟩ := hle2
      obtain ⟨d0, d1⟩ := hdig
      have u0 : x + 1000 * y ≤ 9223372036854775808 := by omega
      have HD := Lib.hid hd
      clear hx hy ht hd hvb t0 t1 y1
      go_wp2
      go_round
      case rel => exact ⟨j, by omega, rfl, i64_eq (by rw [T.out]; have := HD.out; omega)⟩
      case measure => simp [intOf] <;> omega

/-- a row that was made is read as digits -/
theorem reads_row {w : World} {g : Nat} {ds : List Int} (n : Nat) (hn : ds.length = n) (h : w.rowIs g 3 n (fun i => .int .i64 (ds.getD i 0))) (hg : g < w.heap.size) : Reads w (.slice (some ⟨g, 0, none⟩) n n) ds :=
  Or.inr ⟨g, 0, n, n, rfl, hn, Nat.le_refl _, hg, fun i hi => by rw [Nat.zero_add]; exact h.cell hi⟩

/-- digit by digit from above: what has been divided, and what is left -/
theorem divided {ds qs : List Int} {k : Nat} {rest x : Int} (hx : ds.getD k 0 = x) (h : val (qs.drop (k + 1)) * 65536 + rest = val (ds.drop (k + 1))) (hq : qs.length = ds.length) (hk : k < ds.length) :
    val ((qs.set k ((rest * 1000 + x) / 65536)).drop k) * 65536 + (rest * 1000 + x) % 65536 = val (ds.drop k) := by
  rw [val_drop ds k, val_drop (qs.set k _) k, hx, ← h]
  have e1 : (qs.set k ((rest * 1000 + x) / 65536)).getD k 0 = (rest * 1000 + x) / 65536 := by
    rw [List.getD_eq_getElem?_getD, List.getElem?_set_self (by omega)]; rfl
  have e2 : (qs.set k ((rest * 1000 + x) / 65536)).drop (k + 1) = qs.drop (k + 1) := by
    apply List.ext_getElem? ; intro i; rw [List.getElem?_drop, List.getElem?_drop, List.getElem?_set_ne (by omega)]
  rw [e1, e2, Int.add_mul, Int.mul_add]
  have e3 : 1000 * val (qs.drop (k + 1)) * 65536 = 1000 * (val (qs.drop (k + 1)) * 65536) := by rw [Int.mul_assoc]
  rw [e3]
  omega

theorem ok_set {qs : List Int} (h : ok qs) (k : Nat) {x : Int} (h0 : 0 ≤ x) (h1 : x ≤ 999) : ok (qs.set k x) := fun d hd => by
  rcases List.mem_or_eq_of_mem_set hd with hd | rfl
  · exact h d hd
  · exact ⟨h0, h1⟩
theorem ok_replicate (n : Nat) : ok (List.replicate n 0) := fun d hd => by
  obtain ⟨_, rfl⟩ := List.mem_replicate.1 hd; omega

/-- what Floor tells -/
def floorS (z : Int) : Int × Bool := if I64 (z / 65536) then (z / 65536, true) else (0, false)

def FloorPost (w : World) (z : Int) (e : Ending) (w' : World) : Prop := e = .returned (.tuple #[.int .i64 (floorS z).1, .bool (floorS z).2]) ∧ Below w.heap.size w w'

theorem make_ints (n : Nat) (hn : n ≤ 1000000) : ∀ w : World, (Instr.makeSlice 36 (.int .i64 (n : Int)) (.int .i64 (n : Int))).run Tryd.prog w = .ok (.slice (some ⟨w.heap.size, 0, none⟩) n n) (w.alloc (.cells (madeCells #[.int .i64 0] n) 3)) :=
  fun w => run_make_row' 36 3 (.int .i64 0) 8 Tryd.underlying36 info3 rfl .i64 .i64 n (by omega) (by omega) w

set_option maxRecDepth 100000 in
set_option maxHeartbeats 4000000 in
theorem floor2_any (v : Value) (z : Int) (w : World) (h : Is w v z) (hs : Sm z) : Calls Tryd.prog 23 #[v] w (FloorPost w z) := by
  obtain ⟨a, cap, rfl, hr⟩ := h.form
  have hok := canon_ok z.natAbs
  have hval := val_canon z.natAbs
  have hl20 := hs.len
  obtain ⟨b0, hb0⟩ : ∃ b, decide (z < 0) = b := ⟨_, rfl⟩
  obtain ⟨ds, hds⟩ : ∃ ds, canon z.natAbs = ds := ⟨_, rfl⟩
  rw [hds] at hr hok hval hl20
  rw [hb0, hds]
  have RD := Lib.hid (fun w1 hb => hr.below (w' := w1) hb)
  obtain ⟨n, hn⟩ : ∃ n, ds.length = n := ⟨_, rfl⟩
  rw [hn] at hl20 RD ⊢
  have BX := Lib.hid (box_new w b0 (.slice a n cap))
  have BW := Lib.hid (show Below w.heap.size w (w.alloc (.cells #[.bool b0, .slice a n cap] 38)) from (Below.refl _ _).alloc (Nat.le_refl _) _)
  have BS := Lib.hid (show (w.alloc (.cells #[.bool b0, .slice a n cap] 38)).heap.size = w.heap.size + 1 by simp)
  have HN := Lib.hid hn
  have HOK := Lib.hid hok
  have HV := Lib.hid (show val ds = (z.natAbs : Int) from hval)
  have HB := Lib.hid hb0
  have HS := Lib.hid hs
  have hmk := make_ints n (by omega)
  clear h hr hn hok hval hb0 hds hs
  go_enter Tryd.func23, Tryd.ntmps23
  go_upto_region 1 with fail
  obtain ⟨V, hV⟩ : ∃ V, w.alloc (.cells #[.bool b0, .slice a n cap] 38) = V := ⟨_, rfl⟩
  rw [hV] at BX BW BS ⊢
  clear hV
  obtain ⟨p, hp⟩ : ∃ p, w.heap.size = p := ⟨_, rfl⟩
  rw [hp] at BX BS
  simp only [hp]
  have HP := Lib.hid hp
  clear hp
  obtain ⟨x0, x1⟩ := BX.out
  have RV := Lib.hid (RD.out _ BW.out)
  go_upto_region 2 with fail
  obtain ⟨U, hU⟩ : ∃ U, V.alloc (.cells (madeCells #[.int .i64 0] n) 3) = U := ⟨_, rfl⟩
  have hg : V.heap.size = p + 1 := BS.out
  have UR : U.rowIs (p + 1) 3 n (fun _ => .int .i64 0) := by rw [← hU, ← hg]; exact World.rowIs_made _ _ _ _
  have UB : Below V.heap.size V U := by rw [← hU]; exact (Below.refl _ _).alloc (Nat.le_refl _) _
  have UX := Lib.hid (BX.out.below (show p < V.heap.size by omega) UB)
  rw [hU, hg]
  have UR' := Lib.hid UR
  have UB' := Lib.hid UB
  clear hU UR UB hmk hg
  obtain ⟨y0, y1⟩ := UX.out
  clear x0 x1
  go_wp2
  go_loopw [5, 6] (fun r i wr => ∃ (k : Nat) (qs : List Int) (rest : Int), k ≤ n ∧ i = .int .i64 ((k : Int) - 1) ∧ r = .int .i64 rest ∧ 0 ≤ rest ∧ rest < 65536 ∧ Hid (qs.length = n) ∧ Hid (ok qs) ∧
      Hid (val (qs.drop k) * 65536 + rest = val (ds.drop k)) ∧ Hid (wr.rowIs (p + 1) 3 n (fun i => .int .i64 (qs.getD i 0))) ∧ Hid (Below V.heap.size V wr)) (fun _ i _ => (intOf i + 1).toNat)
  case atStart => exact ⟨n, List.replicate n 0, 0, Nat.le_refl _, rfl, rfl, by omega, by omega, (by show _ = _; simp), ok_replicate n, (by show _ = _; rw [val_drop_end _ _ (by simp), val_drop_end _ _ (by rw [HN.out]; exact Nat.le_refl _)]; rfl), UR'.out.congr (fun i hi => by rw [List.getD_eq_getElem?_getD, List.getElem?_replicate, if_pos hi]; rfl), UB'.out⟩
  case round =>
    obtain ⟨k, qs, rest, hk, rfl, rfl, r0, r1, HL, HQ, HD, HR, HW⟩ := hrel
    obtain ⟨z0, z1⟩ := BX.out.below (show p < V.heap.size by have := BS.out; omega) HW.out
    rcases Nat.eq_zero_or_pos k with rfl | hpos
    · have HT := Lib.hid (trim_any b0 (.slice (some ⟨p + 1, 0, none⟩) n n) qs wr (reads_row n HL.out HR.out HR.out.lt) HQ.out (by rw [HL.out]; omega))
      have hD : val qs * 65536 + rest = z.natAbs := by have h := HD.out; rw [List.drop_zero, List.drop_zero, HV.out] at h; exact h
      have hq0 := val_nonneg HQ.out
      have hsz := HS.out
      obtain ⟨m, hm⟩ : ∃ m, val qs = m := ⟨_, rfl⟩
      rw [hm] at hD HT hq0
      have hbb := HB.out
      obtain ⟨q, hq⟩ : ∃ q, z / 65536 = q := ⟨_, rfl⟩
      have hfs : floorS z = if I64 q then (q, true) else (0, false) := by unfold floorS; rw [hq]
      have hqs : Sm q := by unfold Sm at hsz ⊢; omega
      have HOF := Lib.hid (fun w1 => of_any 1 w1 (by omega) (by omega))
      have HFT := Lib.hid (fun v w1 (h : Is w1 v q) => fitsB_any v q w1 h hqs)
      have HIN := Lib.hid (fun v w1 (h : Is w1 v q) (hi : I64 q) => int_any v q w1 h hi)
      have HFS := Lib.hid hfs
      by_cases hsub : b0 = true ∧ 0 < rest
      · obtain ⟨rfl, hr0⟩ := hsub
        have hz0 : z < 0 := of_decide_eq_true hbb
        have hqe : sgn true m - 1 = q := by show -m - 1 = q; omega
        have HSU := Lib.hid (fun w1 u v (hu : Is w1 u (sgn true m)) (hv : Is w1 v 1) => subB_any u v (sgn true m) 1 w1 hu hv (by show Sm (-m); unfold Sm at hsz ⊢; omega) (by unfold Sm; omega))
        rw [hqe] at HSU
        obtain ⟨y, hy⟩ : ∃ y, sgn true m = y := ⟨_, rfl⟩
        rw [hy] at HT HSU
        obtain ⟨bd, hbd⟩ : ∃ b, decide (y < 0) = b := ⟨_, rfl⟩
        obtain ⟨ld, hld⟩ : ∃ b, (canon y.natAbs).length = b := ⟨_, rfl⟩
        clear hqe hz0 hD hq0 hsz hbb hq hfs hqs hm hy
        go_upto_region 10 with (go_at_call 30; refine HT.out.mono ?_; rintro e w1 ⟨r1, rfl, hi, hbl⟩; obtain ⟨sa, scp, rfl, -⟩ := hi.form; rw [hbd, hld] at hi ⊢; have I1 := Lib.hid hi; have B1 := Lib.hid (show Below w.heap.size w w1 from (BW.out.trans (HW.out.mono BW.out.size)).trans (hbl.mono (BW.out.trans (HW.out.mono BW.out.size)).size)); have T1 := Lib.hid (HW.out.trans (hbl.mono HW.out.size)); clear hi hbl)
        clear z0 z1 hbd hld
        have QX := Lib.hid (box_new w1 bd (.slice sa ld scp))
        have QB := Lib.hid (B1.out.alloc B1.out.size (.cells #[.bool bd, .slice sa ld scp] 38))
        have QT := Lib.hid (T1.out.alloc T1.out.size (.cells #[.bool bd, .slice sa ld scp] 38))
        have hQF : (w1.alloc (.cells #[.bool bd, .slice sa ld scp] 38)).frozen? ⟨w1.heap.size, 0, none⟩ = false ∧ (w1.alloc (.cells #[.bool bd, .slice sa ld scp] 38)).frozen? ⟨w1.heap.size, 1, none⟩ = false := ⟨World.frozen?_alloc_at _ _ _ _ rfl, World.frozen?_alloc_at _ _ _ _ rfl⟩
        obtain ⟨Q, hQ⟩ : ∃ V, w1.alloc (.cells #[.bool bd, .slice sa ld scp] 38) = V := ⟨_, rfl⟩
        have QI := Lib.hid (I1.out.below (show Below w1.heap.size w1 Q by rw [← hQ]; exact (Below.refl _ _).alloc (Nat.le_refl _) _))
        have QS := Lib.hid (show w1.heap.size < Q.heap.size by rw [← hQ]; simp)
        rw [hQ] at QX QB QT hQF ⊢
        clear hQ
        obtain ⟨g, hg⟩ : ∃ p, w1.heap.size = p := ⟨_, rfl⟩
        have HGW := Lib.hid (show w.heap.size ≤ g by rw [← hg]; exact B1.out.size)
        rw [hg] at QX QS hQF ⊢
        clear hg
        obtain ⟨v0, v1⟩ := QX.out
        obtain ⟨u0, u1⟩ := BX.out.below (show p < V.heap.size by have := BS.out; omega) QT.out
        go_upto_region 11 with fail
        have QF := Lib.hid (show Q.frozen? ⟨g, 0, none⟩ = false ∧ Q.frozen? ⟨g, 1, none⟩ = false from hQF)
        clear hQF
        obtain ⟨b9, hb9⟩ : ∃ b, decide (q < 0) = b := ⟨_, rfl⟩
        obtain ⟨l9, hl9⟩ : ∃ b, (canon q.natAbs).length = b := ⟨_, rfl⟩
        go_region_with (first
          | (go_at_call 24; refine (HOF.out _).mono ?_; rintro e w2 ⟨r2, rfl, hi, hbl⟩; have hbl2 : Below Q.heap.size Q w2 := (by first | exact hbl | exact below_undrew hbl); have I2 := Lib.hid hi; have QI2 := Lib.hid (QI.out.below hbl2); have T2 := Lib.hid hbl2; obtain ⟨c2, c3⟩ := QX.out.below QS.out hbl2; clear hi hbl hbl2)
          | (go_at_call 31; refine (HSU.out _ _ _ QI2.out I2.out).mono ?_; rintro e w3 ⟨r3, rfl, hi, hbl⟩; obtain ⟨sa3, scp3, rfl, -⟩ := hi.form; rw [hb9, hl9] at hi ⊢; have I3 := Lib.hid hi; have T3 := Lib.hid (T2.out.trans (hbl.mono T2.out.size)); obtain ⟨c4, c5⟩ := QX.out.below QS.out T3.out; have f4 := (T3.out.frozen (p := ⟨g, 0, none⟩) QS.out).trans QF.out.1; have f5 := (T3.out.frozen (p := ⟨g, 1, none⟩) QS.out).trans QF.out.2; clear hi hbl))
        all_goals
          clear hb9 hl9
          go_upto_region 12 with fail
          change Code.wp _ _ _ _ (put2 w3 g (.bool b9) (.slice sa3 l9 scp3))
          have hZ := put2_cells (x := Value.bool b9) (y := Value.slice sa3 l9 scp3) c4 c5
          have hZI := I3.out.keeps (put2_keeps (x := Value.bool b9) (y := Value.slice sa3 l9 scp3) c4 c5 (nb _) (ns _ _ _))
          have hgw : w.heap.size ≤ g := HGW.out
          have hZB : Below w.heap.size w (put2 w3 g (.bool b9) (.slice sa3 l9 scp3)) := put2_below (QB.out.trans (T3.out.mono QB.out.size)) hgw
          have hZS : g < (put2 w3 g (.bool b9) (.slice sa3 l9 scp3)).heap.size := by have h1 := QS.out; have h2 := T3.out.size; unfold put2; simp [World.setCell]; omega
          obtain ⟨Z, hZe⟩ : ∃ Z, put2 w3 g (.bool b9) (.slice sa3 l9 scp3) = Z := ⟨_, rfl⟩
          rw [hZe] at hZ hZI hZB hZS ⊢
          have QX := Lib.hid (show Box g b9 (.slice sa3 l9 scp3) Z from hZ)
          have QI := Lib.hid hZI
          have QB := Lib.hid hZB
          have QS := Lib.hid hZS
          clear hZe hZ hZI hZB hZS v0 v1 c2 c3 c4 c5 f4 f5
          obtain ⟨v0, v1⟩ := QX.out
          by_cases hf : I64 q
          · have HF0 := Lib.hid hf
            have HF := Lib.hid (HFT.out _ _ QI.out)
            rw [decide_eq_true hf] at HF
            have HN := Lib.hid (fun w1 (h : Is w1 (.agg #[.bool b9, .slice sa3 l9 scp3]) q) => HIN.out (.agg #[.bool b9, .slice sa3 l9 scp3]) w1 h hf)
            clear hf
            go_wp2_with fail
            refine HF.out.mono ?_
            rintro e w8 ⟨rfl, hbl⟩
            have B8 := Lib.hid (show Below w.heap.size w w8 from QB.out.trans (hbl.mono QB.out.size))
            obtain ⟨k0, k1⟩ := QX.out.below (by have := QS.out; omega) hbl
            have I8 := Lib.hid (QI.out.below hbl)
            clear hbl
            go_wp2_with fail
            refine (HN.out _ I8.out).mono ?_
            rintro e w9 ⟨rfl, hbl⟩
            have B9 := Lib.hid (show Below w.heap.size w w9 from B8.out.trans (hbl.mono B8.out.size))
            clear hbl
            go_wp2
            go_ret2
            exact ⟨by rw [HFS.out, if_pos HF0.out]; rfl, B9.out⟩
          · have HF0 := Lib.hid hf
            have HF := Lib.hid (HFT.out _ _ QI.out)
            rw [decide_eq_false hf] at HF
            clear hf
            go_wp2_with fail
            refine HF.out.mono ?_
            rintro e w8 ⟨rfl, hbl⟩
            have B8 := Lib.hid (show Below w.heap.size w w8 from QB.out.trans (hbl.mono QB.out.size))
            clear hbl
            go_wp2
            go_ret2
            exact ⟨by rw [HFS.out, if_neg HF0.out]; rfl, B8.out⟩
      · have hqe : sgn b0 m = q := by
          cases b0
          · show m = q
            have : ¬ z < 0 := of_decide_eq_false hbb
            omega
          · show -m = q
            have : z < 0 := of_decide_eq_true hbb
            have : ¬ 0 < rest := fun h => hsub ⟨rfl, h⟩
            omega
        rw [hqe] at HT
        have hc : b0 = false ∨ b0 = true ∧ rest ≤ 0 := by
          cases b0
          · exact .inl rfl
          · exact .inr ⟨rfl, by have : ¬ 0 < rest := fun h => hsub ⟨rfl, h⟩; omega⟩
        obtain ⟨bd, hbd⟩ : ∃ b, decide (q < 0) = b := ⟨_, rfl⟩
        obtain ⟨ld, hld⟩ : ∃ b, (canon q.natAbs).length = b := ⟨_, rfl⟩
        clear hqe hsub hD hq0 hsz hbb hq hfs hqs hm
        rcases hc with rfl | ⟨rfl, hr0⟩
        all_goals
          go_upto_region 10 with (go_at_call 30; refine HT.out.mono ?_; rintro e w1 ⟨r1, rfl, hi, hbl⟩; obtain ⟨sa, scp, rfl, -⟩ := hi.form; rw [hbd, hld] at hi ⊢; have I1 := Lib.hid hi; have B1 := Lib.hid (show Below w.heap.size w w1 from (BW.out.trans (HW.out.mono BW.out.size)).trans (hbl.mono (BW.out.trans (HW.out.mono BW.out.size)).size)); have T1 := Lib.hid (HW.out.trans (hbl.mono HW.out.size)); clear hi hbl)
          clear z0 z1 hbd hld
          have QX := Lib.hid (box_new w1 bd (.slice sa ld scp))
          have QB := Lib.hid (B1.out.alloc B1.out.size (.cells #[.bool bd, .slice sa ld scp] 38))
          have QT := Lib.hid (T1.out.alloc T1.out.size (.cells #[.bool bd, .slice sa ld scp] 38))
          obtain ⟨Q, hQ⟩ : ∃ V, w1.alloc (.cells #[.bool bd, .slice sa ld scp] 38) = V := ⟨_, rfl⟩
          have QI := Lib.hid (I1.out.below (show Below w1.heap.size w1 Q by rw [← hQ]; exact (Below.refl _ _).alloc (Nat.le_refl _) _))
          have QS := Lib.hid (show w1.heap.size < Q.heap.size by rw [← hQ]; simp)
          rw [hQ] at QX QB QT ⊢
          clear hQ
          obtain ⟨g, hg⟩ : ∃ p, w1.heap.size = p := ⟨_, rfl⟩
          rw [hg] at QX QS ⊢
          clear hg
          obtain ⟨v0, v1⟩ := QX.out
          obtain ⟨u0, u1⟩ := BX.out.below (show p < V.heap.size by have := BS.out; omega) QT.out
          go_upto_region 12 with fail
          by_cases hf : I64 q
          · have HF0 := Lib.hid hf
            have HF := Lib.hid (HFT.out _ _ QI.out)
            rw [decide_eq_true hf] at HF
            have HN := Lib.hid (fun w1 (h : Is w1 (.agg #[.bool bd, .slice sa ld scp]) q) => HIN.out (.agg #[.bool bd, .slice sa ld scp]) w1 h hf)
            clear hf
            go_wp2_with fail
            refine HF.out.mono ?_
            rintro e w8 ⟨rfl, hbl⟩
            have B8 := Lib.hid (show Below w.heap.size w w8 from QB.out.trans (hbl.mono QB.out.size))
            obtain ⟨k0, k1⟩ := QX.out.below (by have := QS.out; omega) hbl
            have I8 := Lib.hid (QI.out.below hbl)
            clear hbl
            go_wp2_with fail
            refine (HN.out _ I8.out).mono ?_
            rintro e w9 ⟨rfl, hbl⟩
            have B9 := Lib.hid (show Below w.heap.size w w9 from B8.out.trans (hbl.mono B8.out.size))
            clear hbl
            go_wp2
            go_ret2
            exact ⟨by rw [HFS.out, if_pos HF0.out]; rfl, B9.out⟩
          · have HF0 := Lib.hid hf
            have HF := Lib.hid (HFT.out _ _ QI.out)
            rw [decide_eq_false hf] at HF
            clear hf
            go_wp2_with fail
            refine HF.out.mono ?_
            rintro e w8 ⟨rfl, hbl⟩
            have B8 := Lib.hid (show Below w.heap.size w w8 from QB.out.trans (hbl.mono QB.out.size))
            clear hbl
            go_wp2
            go_ret2
            exact ⟨by rw [HFS.out, if_neg HF0.out]; rfl, B8.out⟩
    · obtain ⟨j, rfl⟩ : ∃ j, k = j + 1 := ⟨k - 1, by omega⟩
      rw [show (((j + 1 : Nat) : Int) - 1) = (j : Int) by omega]
      obtain ⟨b, off, rfl, hcap, hcell⟩ := (RV.out.below HW.out).at j (by omega)
      have hdig := ok_getD HOK.out j
      have hrc := HR.out.cell (i := j) (by omega)
      have hrf := HR.out.frozen j
      obtain ⟨x, hx⟩ : ∃ x, ds.getD j 0 = x := ⟨_, rfl⟩
      rw [hx] at hcell hdig
      obtain ⟨d0, d1⟩ := hdig
      obtain ⟨o, ho⟩ : ∃ x, qs.getD j 0 = x := ⟨_, rfl⟩
      rw [ho] at hrc
      have q0 : 0 ≤ (rest * 1000 + x) / 65536 := by omega
      have q1 : (rest * 1000 + x) / 65536 ≤ 999 := by omega
      have X := Lib.hid hx
      have N1 := Lib.hid (divided hx HD.out (by rw [HL.out, HN.out]) (by rw [HN.out]; omega))
      clear hx ho
      go_wp2
      go_roundw
      case rel => exact ⟨j, qs.set j ((rest * 1000 + x) / 65536), (rest * 1000 + x) % 65536, by omega, rfl, rfl, by omega, by omega, (by show _ = _; rw [List.length_set]; exact HL.out), ok_set HQ.out j q0 q1, N1.out,
          (HR.out.set j _).congr (fun i hi => by
            have := HL.out
            by_cases e : i = j
            · subst e; simp only [if_true]; rw [List.getD_eq_getElem?_getD, List.getElem?_set_self (by omega)]; rfl
            · simp only [if_neg e]; rw [List.getD_eq_getElem?_getD, List.getD_eq_getElem?_getD, List.getElem?_set_ne (fun h => e h.symm)]),
          HW.out.setCell (by have := BS.out; show V.heap.size ≤ p + 1; omega) _⟩
      case measure => simp [intOf] <;> omega
end Go.Proofs.YtikhgdbbbingbaaDoor.Bg
