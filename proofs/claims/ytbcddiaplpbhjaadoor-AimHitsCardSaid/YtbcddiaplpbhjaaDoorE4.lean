/- What the claim's proof leans on: texts of this claim, laid together. -/
import Derived.Test.YtbcddiaplpbhjaaDoorE3
import Derived.Lib.Hide
import Derived.Test.YtbcddiaplpbhjaaDoorProg
import Derived.Below
import Derived.Deep.Draws
import Derived.Deep.AppendLies
import Derived.Maps.AppendAt
import Derived.OwnWalk
import Derived.Laws.BytesArg
import Derived.Laws.MakeOwn
import Derived.Laws.OwnMore
import Derived.Deep.OwnRows
import Derived.Tactics
import Derived.Lib.ConvBytes
import Derived.Laws.Slices
import Derived.WalkKit
import Derived.KernelRfl
import Derived.RowKit3
import Derived.Deep.LoopGhost
import Derived.Deep.QuietTactic
import Derived.BigQuiet
import Derived.WideLaws
import Derived.Deep.DeepCutAuto
import Derived.Deep.CutBlock
import Derived.Deep.RegionHeld3
import Derived.Laws.Rows
import Derived.Lib.AppendStr
import Derived.ArgAppend
import Derived.Laws.IdiomCopy
import Derived.OrdersHeld
import Derived.Laws.BitsLemmas
import Derived.RowKit
namespace Go.Proofs.YtbcddiaplpbhjaaDoor.MAi
open Go Go.RowKit Go.Proofs.YtbcddiaplpbhjaaDoorW.PrintWords Go.Proofs.YtbcddiaplpbhjaaDoorW.PrintLast Go.Proofs.YtbcddiaplpbhjaaDoorW.PrintMore
set_option linter.unusedVariables false
set_option linter.unusedSimpArgs false
noncomputable def aim_try (K : Nat) (W H Wa : Int) (l : List Int) (s0 s1 s2 s3 s4 s5 x y sp n : Int) : Option Bool :=
  (aim_Shot.f K s0 s1 s2 s3 s4 s5 x y sp n).bind fun t => (shot_Fly.f K W H Wa l t.1 t.2.1 t.2.2.1 t.2.2.2.1 t.2.2.2.2.1 t.2.2.2.2.2.1 1024).bind fun e =>
    some ((decide (e.2.1 = 1) || decide (e.2.1 = 2)) && (decide (e.2.2.1 / 65536 = x / 65536) && decide (e.2.2.2.1 / 65536 = y / 65536)))
set_option maxHeartbeats 4000000 in
set_option maxRecDepth 100000 in
theorem try_any (K : Nat) (W H Wa : Int) (A : Option Addr) (c : Nat) (l : List Int) (s0 s1 s2 s3 s4 s5 x y sp n : Int) (b : Bool) (w : World) (g1 g2 g3 g4 g5 : Nat) (hT : Tg.Tab w)
    (b1 : w.heap[g1]? = some (.cells #[.int .i64 s0, .int .i64 s1, .int .i64 s2, .int .i64 s3, .int .i64 s4, .int .i64 s5] 47 (0, 0)))
    (b2 : w.heap[g2]? = some (.cells #[.int .i64 x] 2 (0, 0))) (b3 : w.heap[g3]? = some (.cells #[.int .i64 y] 2 (0, 0))) (b4 : w.heap[g4]? = some (.cells #[.int .i64 sp] 2 (0, 0)))
    (b5 : w.heap[g5]? = some (.cells #[.int .i64 W, .int .i64 H, .int .i64 Wa, .slice A l.length c] 45 (0, 0)))
    (hr : Kd.C (Kd.int .u8) w A l.length l) (hc : l.length ≤ c) (h : aim_try K W H Wa l s0 s1 s2 s3 s4 s5 x y sp n = some b) :
    Calls Tryd.prog 57 #[.int .i64 n, .pointer (some ⟨g1, 0, none⟩), .pointer (some ⟨g2, 0, none⟩), .pointer (some ⟨g3, 0, none⟩), .pointer (some ⟨g4, 0, none⟩), .pointer (some ⟨g5, 0, none⟩)] w fun e w' => e = .returned (.bool b) ∧ Below w.heap.size w w' := by
  unfold aim_try at h
  obtain ⟨⟨t1, t2, t3, t4, t5, t6, te⟩, h1, h⟩ := Option.bind_eq_some_iff.mp h
  obtain ⟨⟨r1, r2, r3, r4, r5, r6, r7, r8, r9⟩, h2, h⟩ := Option.bind_eq_some_iff.mp h
  simp only [Option.some.injEq] at h
  have H1 := Lib.hid h1
  have H2 := Lib.hid h2
  have HR := Lib.hid hr
  have HC := Lib.hid hc
  have HT := Lib.hid hT
  have B1 := Lib.hid b1
  have B2 := Lib.hid b2
  have B3 := Lib.hid b3
  have B4 := Lib.hid b4
  have B5 := Lib.hid b5
  clear h1 h2 hr hc hT b1 b2 b3 b4 b5
  have hu := Tryd.underlying45
  have hu2 := Tryd.underlying47
  have hu3 := Tryd.underlying62
  have x0 := blk_cell B1.out 0
  have x1 := blk_cell B1.out 1
  have x2 := blk_cell B1.out 2
  have x3 := blk_cell B1.out 3
  have x4 := blk_cell B1.out 4
  have x5 := blk_cell B1.out 5
  have y2 := blk_cell B2.out 0
  have y3 := blk_cell B3.out 0
  have y4 := blk_cell B4.out 0
  simp only [List.getElem?_toArray, List.getElem?_cons_succ, List.getElem?_cons_zero] at x0 x1 x2 x3 x4 x5 y2 y3 y4
  have HH := Lib.hid h
  clear h
  go_enter Tryd.func57, Tryd.ntmps57
  go_wp2_with fail
  refine (aim_Shot.calls K s0 s1 s2 s3 s4 s5 x y sp n t1 t2 t3 t4 t5 t6 te _ HT.out H1.out).mono ?_
  rintro e w1 ⟨rfl, hb1⟩
  have D5 := Lib.hid (blk_below B5.out hb1)
  have z0 := blk_cell D5.out 0
  have z1 := blk_cell D5.out 1
  have z2 := blk_cell D5.out 2
  have z3 := blk_cell D5.out 3
  have D2 := Lib.hid (blk_below B2.out hb1)
  have D3 := Lib.hid (blk_below B3.out hb1)
  have HB1 := Lib.hid hb1
  simp only [List.getElem?_toArray, List.getElem?_cons_succ, List.getElem?_cons_zero] at z0 z1 z2 z3
  clear x0 x1 x2 x3 x4 x5 y2 y3 y4 hb1
  have L5 : g5 < w1.heap.size := blk_lt D5.out
  go_wp2_with fail
  refine (shot_Fly.calls K W H Wa A c l t1 t2 t3 t4 t5 t6 1024 r1 r2 r3 r4 r5 r6 r7 r8 r9 _ ?_ HC.out H2.out).mono ?_
  · exact Kd.C_below HR.out (below_alloc HB1.out _)
  · rintro e w2 ⟨rfl, hb2⟩
    have HB2 := Lib.hid (below_then (below_alloc HB1.out _) (below_alloc HB1.out _).size hb2)
    have E2 := Lib.hid (blk_below (blk_alloc D2.out _) hb2)
    have E3 := Lib.hid (blk_below (blk_alloc D3.out _) hb2)
    have v2 := blk_cell E2.out 0
    have v3 := blk_cell E3.out 0
    simp only [List.getElem?_toArray, List.getElem?_cons_succ, List.getElem?_cons_zero] at v2 v3
    clear z0 z1 z2 z3 hb2
    have L2 : g2 < w2.heap.size := blk_lt E2.out
    have L3 : g3 < w2.heap.size := blk_lt E3.out
    have HW : ∀ a q, a / 65536 = q → ∀ w', Calls Tryd.prog 58 #[.int .i64 a] w' fun e w'' => e = .returned (.int .i64 q) ∧ ∃ m, w'' = w'.drewN m := fun a q hq w' => (fix_Whole.calls a q w' (by rw [← hq]; rfl)).mono fun _ _ ⟨h1, h2⟩ => ⟨h1, h2.out⟩
    obtain ⟨q3, hq3⟩ : ∃ q, r3 / 65536 = q := ⟨_, rfl⟩
    obtain ⟨q4, hq4⟩ : ∃ q, r4 / 65536 = q := ⟨_, rfl⟩
    obtain ⟨qx, hqx⟩ : ∃ q, x / 65536 = q := ⟨_, rfl⟩
    obtain ⟨qy, hqy⟩ : ∃ q, y / 65536 = q := ⟨_, rfl⟩
    have C3 := Lib.hid (HW r3 q3 hq3)
    have C4 := Lib.hid (HW r4 q4 hq4)
    have CX := Lib.hid (HW x qx hqx)
    have CY := Lib.hid (HW y qy hqy)
    have HE := HH.out
    simp only [hq3, hq4, hqx, hqy] at HE
    clear HW hq3 hq4 hqx hqy HH
    have ends : ∀ (V : World), Below w2.heap.size w2 V → Below w.heap.size w V := fun V hV => below_then HB2.out HB2.out.size hV
    have HN := Lib.hid ends
    clear ends
    by_cases c1 : r2 = 1
    · subst c1
      by_cases d1 : q3 = qx
      · have d1' : (q3 == qx) = true := by simp [d1]
        by_cases d2 : q4 = qy
        · have d2' : (q4 == qy) = true := by simp [d2]
          obtain rfl : b = true := by rw [← HE]; simp [d1, d2]
          clear HE d1 d2
          go_wp2_with fail
          have N := blk_new w2 (Obj.cells #[Value.int IntKind.i64 r1, Value.int IntKind.i64 1, Value.int IntKind.i64 r3, Value.int IntKind.i64 r4, Value.int IntKind.i64 r5, Value.int IntKind.i64 r6, Value.int IntKind.i64 r7, Value.int IntKind.i64 r8] 62)
          have M := HN.out _ (below_alloc (Below.refl _ w2) (Obj.cells #[Value.int IntKind.i64 r1, Value.int IntKind.i64 1, Value.int IntKind.i64 r3, Value.int IntKind.i64 r4, Value.int IntKind.i64 r5, Value.int IntKind.i64 r6, Value.int IntKind.i64 r7, Value.int IntKind.i64 r8] 62))
          go_quiet ((first | exact Calls.quiet_of (C3.out _) | exact Calls.quiet_of (C4.out _) | exact Calls.quiet_of (CX.out _) | exact Calls.quiet_of (CY.out _)))
          go_wp2
          go_ret
          exact ⟨rfl, pw_below_drewN M nq⟩
        · have d2' : (q4 == qy) = false := by simp [d2]
          obtain rfl : b = false := by rw [← HE]; simp [d1, d2]
          clear HE d1 d2
          go_wp2_with fail
          have N := blk_new w2 (Obj.cells #[Value.int IntKind.i64 r1, Value.int IntKind.i64 1, Value.int IntKind.i64 r3, Value.int IntKind.i64 r4, Value.int IntKind.i64 r5, Value.int IntKind.i64 r6, Value.int IntKind.i64 r7, Value.int IntKind.i64 r8] 62)
          have M := HN.out _ (below_alloc (Below.refl _ w2) (Obj.cells #[Value.int IntKind.i64 r1, Value.int IntKind.i64 1, Value.int IntKind.i64 r3, Value.int IntKind.i64 r4, Value.int IntKind.i64 r5, Value.int IntKind.i64 r6, Value.int IntKind.i64 r7, Value.int IntKind.i64 r8] 62))
          go_quiet ((first | exact Calls.quiet_of (C3.out _) | exact Calls.quiet_of (C4.out _) | exact Calls.quiet_of (CX.out _) | exact Calls.quiet_of (CY.out _)))
          go_wp2
          go_ret
          exact ⟨rfl, pw_below_drewN M nq⟩
      · have d1' : (q3 == qx) = false := by simp [d1]
        obtain rfl : b = false := by rw [← HE]; simp [d1]
        clear HE d1
        go_wp2_with fail
        have N := blk_new w2 (Obj.cells #[Value.int IntKind.i64 r1, Value.int IntKind.i64 1, Value.int IntKind.i64 r3, Value.int IntKind.i64 r4, Value.int IntKind.i64 r5, Value.int IntKind.i64 r6, Value.int IntKind.i64 r7, Value.int IntKind.i64 r8] 62)
        have M := HN.out _ (below_alloc (Below.refl _ w2) (Obj.cells #[Value.int IntKind.i64 r1, Value.int IntKind.i64 1, Value.int IntKind.i64 r3, Value.int IntKind.i64 r4, Value.int IntKind.i64 r5, Value.int IntKind.i64 r6, Value.int IntKind.i64 r7, Value.int IntKind.i64 r8] 62))
        go_quiet ((first | exact Calls.quiet_of (C3.out _) | exact Calls.quiet_of (C4.out _) | exact Calls.quiet_of (CX.out _) | exact Calls.quiet_of (CY.out _)))
        go_wp2
        go_ret
        exact ⟨rfl, pw_below_drewN M nq⟩
    · by_cases c2 : r2 = 2
      · subst c2
        by_cases d1 : q3 = qx
        · have d1' : (q3 == qx) = true := by simp [d1]
          by_cases d2 : q4 = qy
          · have d2' : (q4 == qy) = true := by simp [d2]
            obtain rfl : b = true := by rw [← HE]; simp [d1, d2]
            clear HE d1 d2
            go_wp2_with fail
            have N := blk_new w2 (Obj.cells #[Value.int IntKind.i64 r1, Value.int IntKind.i64 2, Value.int IntKind.i64 r3, Value.int IntKind.i64 r4, Value.int IntKind.i64 r5, Value.int IntKind.i64 r6, Value.int IntKind.i64 r7, Value.int IntKind.i64 r8] 62)
            have M := HN.out _ (below_alloc (Below.refl _ w2) (Obj.cells #[Value.int IntKind.i64 r1, Value.int IntKind.i64 2, Value.int IntKind.i64 r3, Value.int IntKind.i64 r4, Value.int IntKind.i64 r5, Value.int IntKind.i64 r6, Value.int IntKind.i64 r7, Value.int IntKind.i64 r8] 62))
            go_quiet ((first | exact Calls.quiet_of (C3.out _) | exact Calls.quiet_of (C4.out _) | exact Calls.quiet_of (CX.out _) | exact Calls.quiet_of (CY.out _)))
            go_wp2
            go_ret
            exact ⟨rfl, pw_below_drewN M nq⟩
          · have d2' : (q4 == qy) = false := by simp [d2]
            obtain rfl : b = false := by rw [← HE]; simp [d1, d2]
            clear HE d1 d2
            go_wp2_with fail
            have N := blk_new w2 (Obj.cells #[Value.int IntKind.i64 r1, Value.int IntKind.i64 2, Value.int IntKind.i64 r3, Value.int IntKind.i64 r4, Value.int IntKind.i64 r5, Value.int IntKind.i64 r6, Value.int IntKind.i64 r7, Value.int IntKind.i64 r8] 62)
            have M := HN.out _ (below_alloc (Below.refl _ w2) (Obj.cells #[Value.int IntKind.i64 r1, Value.int IntKind.i64 2, Value.int IntKind.i64 r3, Value.int IntKind.i64 r4, Value.int IntKind.i64 r5, Value.int IntKind.i64 r6, Value.int IntKind.i64 r7, Value.int IntKind.i64 r8] 62))
            go_quiet ((first | exact Calls.quiet_of (C3.out _) | exact Calls.quiet_of (C4.out _) | exact Calls.quiet_of (CX.out _) | exact Calls.quiet_of (CY.out _)))
            go_wp2
            go_ret
            exact ⟨rfl, pw_below_drewN M nq⟩
        · have d1' : (q3 == qx) = false := by simp [d1]
          obtain rfl : b = false := by rw [← HE]; simp [d1]
          clear HE d1
          go_wp2_with fail
          have N := blk_new w2 (Obj.cells #[Value.int IntKind.i64 r1, Value.int IntKind.i64 2, Value.int IntKind.i64 r3, Value.int IntKind.i64 r4, Value.int IntKind.i64 r5, Value.int IntKind.i64 r6, Value.int IntKind.i64 r7, Value.int IntKind.i64 r8] 62)
          have M := HN.out _ (below_alloc (Below.refl _ w2) (Obj.cells #[Value.int IntKind.i64 r1, Value.int IntKind.i64 2, Value.int IntKind.i64 r3, Value.int IntKind.i64 r4, Value.int IntKind.i64 r5, Value.int IntKind.i64 r6, Value.int IntKind.i64 r7, Value.int IntKind.i64 r8] 62))
          go_quiet ((first | exact Calls.quiet_of (C3.out _) | exact Calls.quiet_of (C4.out _) | exact Calls.quiet_of (CX.out _) | exact Calls.quiet_of (CY.out _)))
          go_wp2
          go_ret
          exact ⟨rfl, pw_below_drewN M nq⟩
      · have c1' : (r2 == 1) = false := by simp [c1]
        have c2' : (r2 == 2) = false := by simp [c2]
        obtain rfl : b = false := by rw [← HE]; simp [c1, c2]
        clear HE c1 c2
        go_wp2_with fail
        have N := blk_new w2 (Obj.cells #[Value.int IntKind.i64 r1, Value.int IntKind.i64 r2, Value.int IntKind.i64 r3, Value.int IntKind.i64 r4, Value.int IntKind.i64 r5, Value.int IntKind.i64 r6, Value.int IntKind.i64 r7, Value.int IntKind.i64 r8] 62)
        have M := HN.out _ (below_alloc (Below.refl _ w2) (Obj.cells #[Value.int IntKind.i64 r1, Value.int IntKind.i64 r2, Value.int IntKind.i64 r3, Value.int IntKind.i64 r4, Value.int IntKind.i64 r5, Value.int IntKind.i64 r6, Value.int IntKind.i64 r7, Value.int IntKind.i64 r8] 62))
        go_quiet ((first | exact Calls.quiet_of (C3.out _) | exact Calls.quiet_of (C4.out _) | exact Calls.quiet_of (CX.out _) | exact Calls.quiet_of (CY.out _)))
        go_wp2
        go_ret
        exact ⟨rfl, pw_below_drewN M nq⟩
noncomputable def firstO (f : Int → Option Bool) (n : Int) : Nat → Int → Option (Int × Bool)
  | 0, _ => none
  | k + 1, j => if j < n then (f j).bind fun b => if b = true then some (j, true) else firstO f n k (j + 1) else some (0, false)
set_option maxHeartbeats 4000000 in
set_option maxRecDepth 100000 in
theorem first_any (f : Int → Option Bool) (p1 p2 p3 p4 p5 : Value) (r1 : Int) (r2 : Bool) (K : Nat) (w : World)
    (HC : ∀ j b w', Below w.heap.size w w' → f j = some b → Calls Tryd.prog 57 #[.int .i64 j, p1, p2, p3, p4, p5] w' fun e w'' => e = .returned (.bool b) ∧ Below w'.heap.size w' w'')
    (h : firstO f 65 K 0 = some (r1, r2)) :
    Calls Tryd.prog 56 #[.int .i64 65, .func (.func 57) #[] #[p1, p2, p3, p4, p5]] w fun e w' => e = .returned (.tuple #[.int .i64 r1, .bool r2]) ∧ Below w.heap.size w w' := by
  have H := Lib.hid h
  have HCC := Lib.hid HC
  clear h HC
  go_enter Tryd.func56, Tryd.ntmps56
  go_wp2
  go_loopw [8] (fun i wr => ∃ (j : Nat) (k : Nat), i = .int .i64 j ∧ j ≤ 65 ∧ Hid (firstO f 65 k j = some (r1, r2)) ∧ Hid (Below w.heap.size w wr)) (fun i _ => 65 - (intOf i).toNat)
  case atStart => exact ⟨0, K, rfl, by omega, H, Lib.hid (Below.refl _ _)⟩
  case round =>
    obtain ⟨j, k, rfl, hj, hk, hb⟩ := hrel
    have h1 := hk.out
    cases k with
    | zero => cases h1
    | succ k =>
      unfold firstO at h1
      by_cases hlt : j < 65
      · rw [if_pos (by omega)] at h1
        obtain ⟨b, h2, h3⟩ := Option.bind_eq_some_iff.mp h1
        have H2 := Lib.hid h2
        have H3 := Lib.hid h3
        clear h1 h2 h3 hk
        go_wp2_with fail
        refine (HCC.out _ b _ hb.out H2.out).mono ?_
        rintro e w1 ⟨rfl, hb1⟩
        have HB := Lib.hid (below_then hb.out hb.out.size hb1)
        have h3 := H3.out
        clear hb1 H3 H2
        cases b with
        | true =>
          obtain ⟨rfl, rfl⟩ : (j : Int) = r1 ∧ true = r2 := by simpa using h3
          clear h3
          go_wp2
          go_ret2
          exact ⟨rfl, HB.out⟩
        | false =>
          have H3 : Hid (firstO f 65 k (j + 1) = some (r1, r2)) := Lib.hid (by simpa using h3)
          clear h3
          go_wp2
          go_roundw
          case rel => exact ⟨j + 1, k, by go_num, by omega, H3, HB⟩
          case measure => simp [intOf]; omega
      · rw [if_neg (by omega)] at h1
        obtain ⟨rfl, rfl⟩ : 0 = r1 ∧ false = r2 := by simpa using h1
        clear h1 hk
        go_wp2
        go_ret2
        exact ⟨rfl, hb.out⟩
end Go.Proofs.YtbcddiaplpbhjaaDoor.MAi
namespace Go.Proofs.YtbcddiaplpbhjaaDoor.MAi
open Go Go.RowKit Go.Proofs.YtbcddiaplpbhjaaDoorW.PrintWords Go.Proofs.YtbcddiaplpbhjaaDoorW.PrintLast Go.Proofs.YtbcddiaplpbhjaaDoorW.PrintMore
set_option linter.unusedVariables false
set_option linter.unusedSimpArgs false
noncomputable def aim_Solve.f (K : Nat) (W H Wa : Int) (l : List Int) (s0 s1 s2 s3 s4 s5 x y sp : Int) : Option (Int × Int × Int × Int × Int × Int × Int × Int) :=
  (relief_On.f K W H Wa l s0 s1).bind fun o1 => if o1 = true then ((relief_On.f K W H Wa l x y).bind fun o2 => if o2 = true then (if s2 < 0 then some (0, 0, 0, 0, 0, 0, 0, 1) else (if s2 > 1073741824 then some (0, 0, 0, 0, 0, 0, 0, 1) else
    ((aim_fast.f sp).bind fun fa => if fa = true then ((firstO (aim_try K W H Wa l s0 s1 s2 s3 s4 s5 x y sp) 65 K 0).bind fun q => if q.2 = true then
      ((aim_Shot.f K s0 s1 s2 s3 s4 s5 x y sp q.1).bind fun t => some (t.1, t.2.1, t.2.2.1, t.2.2.2.1, t.2.2.2.2.1, t.2.2.2.2.2.1, q.1, 0)) else some (0, 0, 0, 0, 0, 0, 0, 6)) else some (0, 0, 0, 0, 0, 0, 0, 1)))) else some (0, 0, 0, 0, 0, 0, 0, 1)) else some (0, 0, 0, 0, 0, 0, 0, 1)
theorem aim_try.mono (W H Wa : Int) (l : List Int) (s0 s1 s2 s3 s4 s5 x y sp n : Int) (k : Nat) : LeO (aim_try k W H Wa l s0 s1 s2 s3 s4 s5 x y sp n) (aim_try (k + 1) W H Wa l s0 s1 s2 s3 s4 s5 x y sp n) := by
  unfold aim_try
  exact LeO.bind (aim_Shot.mono _ _ _ _ _ _ _ _ _ _ _) fun t => LeO.bind (shot_Fly.mono _ _ _ _ _ _ _ _ _ _ _ _) fun e => LeO.refl _
theorem firstO.mono {f g : Int → Option Bool} (h : ∀ j, LeO (f j) (g j)) (n : Int) : ∀ (k : Nat) (j : Int), LeO (firstO f n k j) (firstO g n (k + 1) j)
  | 0, j => LeO.none _
  | k + 1, j => by
    rw [firstO, firstO]
    exact LeO.ite (LeO.bind (h j) fun b => LeO.ite (LeO.refl _) (firstO.mono h n k (j + 1))) (LeO.refl _)
theorem aim_Solve.mono (W H Wa : Int) (l : List Int) (s0 s1 s2 s3 s4 s5 x y sp : Int) (k : Nat) : LeO (aim_Solve.f k W H Wa l s0 s1 s2 s3 s4 s5 x y sp) (aim_Solve.f (k + 1) W H Wa l s0 s1 s2 s3 s4 s5 x y sp) := by
  unfold aim_Solve.f
  exact LeO.bind (relief_On.mono _ _ _ _ _ _ _) fun o1 => LeO.ite (LeO.bind (relief_On.mono _ _ _ _ _ _ _) fun o2 => LeO.ite (LeO.ite (LeO.refl _) (LeO.ite (LeO.refl _) (LeO.bind (LeO.refl _) fun fa => LeO.ite
    (LeO.bind (firstO.mono (fun j => aim_try.mono _ _ _ _ _ _ _ _ _ _ _ _ _ j k) 65 k 0) fun q => LeO.ite (LeO.bind (aim_Shot.mono _ _ _ _ _ _ _ _ _ _ _) fun t => LeO.refl _) (LeO.refl _)) (LeO.refl _)))) (LeO.refl _)) (LeO.refl _)
set_option maxHeartbeats 8000000 in
set_option maxRecDepth 100000 in
theorem aim_Solve.calls (K : Nat) (W H Wa : Int) (A : Option Addr) (c : Nat) (l : List Int) (s0 s1 s2 s3 s4 s5 x y sp r1 r2 r3 r4 r5 r6 r7 r8 : Int) (w : World) (hr : Kd.C (Kd.int .u8) w A l.length l) (hc : l.length ≤ c) (hT : Tg.Tab w)
    (h : aim_Solve.f K W H Wa l s0 s1 s2 s3 s4 s5 x y sp = some (r1, r2, r3, r4, r5, r6, r7, r8)) :
    Calls Tryd.prog 25 #[.agg #[.int .i64 W, .int .i64 H, .int .i64 Wa, .slice A l.length c], .agg #[.int .i64 s0, .int .i64 s1, .int .i64 s2, .int .i64 s3, .int .i64 s4, .int .i64 s5], .int .i64 x, .int .i64 y, .int .i64 sp] w fun e w' =>
      e = .returned (.tuple #[.agg #[.int .i64 r1, .int .i64 r2, .int .i64 r3, .int .i64 r4, .int .i64 r5, .int .i64 r6], .int .i64 r7, .int .i64 r8]) ∧ Below w.heap.size w w' := by
  unfold aim_Solve.f at h
  obtain ⟨o1, h1, h⟩ := Option.bind_eq_some_iff.mp h
  have H1 := Lib.hid h1
  have HC := Lib.hid hc
  have HR := Lib.hid hr
  have HT := Lib.hid hT
  have HH := Lib.hid h
  clear h1 hc hr hT h
  have hu := Tryd.underlying45
  have hu2 := Tryd.underlying47
  have hmf : ∀ (fn : Fn) (first cap : Array Value) (w : World), (Instr.makeFunc fn first cap).run Tryd.prog w = .ok (.func fn first cap) w := fun _ _ _ _ => rfl
  go_enter Tryd.func25, Tryd.ntmps25
  go_wp2_with fail
  obtain ⟨V, hV⟩ : ∃ V_, ((((((w.alloc (Obj.cells #[Value.int IntKind.i64 W, Value.int IntKind.i64 H, Value.int IntKind.i64 Wa, Value.slice A l.length c] 45)).alloc (Obj.cells #[Value.int IntKind.i64 s0, Value.int IntKind.i64 s1, Value.int IntKind.i64 s2, Value.int IntKind.i64 s3, Value.int IntKind.i64 s4, Value.int IntKind.i64 s5] 47)).alloc (Obj.cells #[Value.int IntKind.i64 x] 2)).alloc (Obj.cells #[Value.int IntKind.i64 y] 2)).alloc (Obj.cells #[Value.int IntKind.i64 sp] 2)).alloc (Obj.cells #[Value.int IntKind.i64 0, Value.int IntKind.i64 0, Value.int IntKind.i64 0, Value.int IntKind.i64 0, Value.int IntKind.i64 0, Value.int IntKind.i64 0] 47)) = V_ := ⟨_, rfl⟩
  have hB : Below w.heap.size w V := by rw [← hV]; exact below_alloc (below_alloc (below_alloc (below_alloc (below_alloc (below_alloc (Below.refl _ _) _) _) _) _) _) _
  have b0 := blk_alloc (blk_alloc (blk_alloc (blk_alloc (blk_alloc (blk_new w (Obj.cells #[Value.int IntKind.i64 W, Value.int IntKind.i64 H, Value.int IntKind.i64 Wa, Value.slice A l.length c] 45)) (Obj.cells #[Value.int IntKind.i64 s0, Value.int IntKind.i64 s1, Value.int IntKind.i64 s2, Value.int IntKind.i64 s3, Value.int IntKind.i64 s4, Value.int IntKind.i64 s5] 47)) (Obj.cells #[Value.int IntKind.i64 x] 2)) (Obj.cells #[Value.int IntKind.i64 y] 2)) (Obj.cells #[Value.int IntKind.i64 sp] 2)) (Obj.cells #[Value.int IntKind.i64 0, Value.int IntKind.i64 0, Value.int IntKind.i64 0, Value.int IntKind.i64 0, Value.int IntKind.i64 0, Value.int IntKind.i64 0] 47)
  rw [hV] at b0
  have b1 := blk_alloc (blk_alloc (blk_alloc (blk_alloc (blk_new (w.alloc (Obj.cells #[Value.int IntKind.i64 W, Value.int IntKind.i64 H, Value.int IntKind.i64 Wa, Value.slice A l.length c] 45)) (Obj.cells #[Value.int IntKind.i64 s0, Value.int IntKind.i64 s1, Value.int IntKind.i64 s2, Value.int IntKind.i64 s3, Value.int IntKind.i64 s4, Value.int IntKind.i64 s5] 47)) (Obj.cells #[Value.int IntKind.i64 x] 2)) (Obj.cells #[Value.int IntKind.i64 y] 2)) (Obj.cells #[Value.int IntKind.i64 sp] 2)) (Obj.cells #[Value.int IntKind.i64 0, Value.int IntKind.i64 0, Value.int IntKind.i64 0, Value.int IntKind.i64 0, Value.int IntKind.i64 0, Value.int IntKind.i64 0] 47)
  rw [hV] at b1
  have zb1 : (w.alloc (Obj.cells #[Value.int IntKind.i64 W, Value.int IntKind.i64 H, Value.int IntKind.i64 Wa, Value.slice A l.length c] 45)).heap.size = w.heap.size + 1 := by simp
  rw [zb1] at b1
  clear zb1
  have b2 := blk_alloc (blk_alloc (blk_alloc (blk_new ((w.alloc (Obj.cells #[Value.int IntKind.i64 W, Value.int IntKind.i64 H, Value.int IntKind.i64 Wa, Value.slice A l.length c] 45)).alloc (Obj.cells #[Value.int IntKind.i64 s0, Value.int IntKind.i64 s1, Value.int IntKind.i64 s2, Value.int IntKind.i64 s3, Value.int IntKind.i64 s4, Value.int IntKind.i64 s5] 47)) (Obj.cells #[Value.int IntKind.i64 x] 2)) (Obj.cells #[Value.int IntKind.i64 y] 2)) (Obj.cells #[Value.int IntKind.i64 sp] 2)) (Obj.cells #[Value.int IntKind.i64 0, Value.int IntKind.i64 0, Value.int IntKind.i64 0, Value.int IntKind.i64 0, Value.int IntKind.i64 0, Value.int IntKind.i64 0] 47)
  rw [hV] at b2
  have zb2 : ((w.alloc (Obj.cells #[Value.int IntKind.i64 W, Value.int IntKind.i64 H, Value.int IntKind.i64 Wa, Value.slice A l.length c] 45)).alloc (Obj.cells #[Value.int IntKind.i64 s0, Value.int IntKind.i64 s1, Value.int IntKind.i64 s2, Value.int IntKind.i64 s3, Value.int IntKind.i64 s4, Value.int IntKind.i64 s5] 47)).heap.size = w.heap.size + 2 := by simp
  rw [zb2] at b2
  clear zb2
  have b3 := blk_alloc (blk_alloc (blk_new (((w.alloc (Obj.cells #[Value.int IntKind.i64 W, Value.int IntKind.i64 H, Value.int IntKind.i64 Wa, Value.slice A l.length c] 45)).alloc (Obj.cells #[Value.int IntKind.i64 s0, Value.int IntKind.i64 s1, Value.int IntKind.i64 s2, Value.int IntKind.i64 s3, Value.int IntKind.i64 s4, Value.int IntKind.i64 s5] 47)).alloc (Obj.cells #[Value.int IntKind.i64 x] 2)) (Obj.cells #[Value.int IntKind.i64 y] 2)) (Obj.cells #[Value.int IntKind.i64 sp] 2)) (Obj.cells #[Value.int IntKind.i64 0, Value.int IntKind.i64 0, Value.int IntKind.i64 0, Value.int IntKind.i64 0, Value.int IntKind.i64 0, Value.int IntKind.i64 0] 47)
  rw [hV] at b3
  have zb3 : (((w.alloc (Obj.cells #[Value.int IntKind.i64 W, Value.int IntKind.i64 H, Value.int IntKind.i64 Wa, Value.slice A l.length c] 45)).alloc (Obj.cells #[Value.int IntKind.i64 s0, Value.int IntKind.i64 s1, Value.int IntKind.i64 s2, Value.int IntKind.i64 s3, Value.int IntKind.i64 s4, Value.int IntKind.i64 s5] 47)).alloc (Obj.cells #[Value.int IntKind.i64 x] 2)).heap.size = w.heap.size + 3 := by simp
  rw [zb3] at b3
  clear zb3
  have b4 := blk_alloc (blk_new ((((w.alloc (Obj.cells #[Value.int IntKind.i64 W, Value.int IntKind.i64 H, Value.int IntKind.i64 Wa, Value.slice A l.length c] 45)).alloc (Obj.cells #[Value.int IntKind.i64 s0, Value.int IntKind.i64 s1, Value.int IntKind.i64 s2, Value.int IntKind.i64 s3, Value.int IntKind.i64 s4, Value.int IntKind.i64 s5] 47)).alloc (Obj.cells #[Value.int IntKind.i64 x] 2)).alloc (Obj.cells #[Value.int IntKind.i64 y] 2)) (Obj.cells #[Value.int IntKind.i64 sp] 2)) (Obj.cells #[Value.int IntKind.i64 0, Value.int IntKind.i64 0, Value.int IntKind.i64 0, Value.int IntKind.i64 0, Value.int IntKind.i64 0, Value.int IntKind.i64 0] 47)
  rw [hV] at b4
  have zb4 : ((((w.alloc (Obj.cells #[Value.int IntKind.i64 W, Value.int IntKind.i64 H, Value.int IntKind.i64 Wa, Value.slice A l.length c] 45)).alloc (Obj.cells #[Value.int IntKind.i64 s0, Value.int IntKind.i64 s1, Value.int IntKind.i64 s2, Value.int IntKind.i64 s3, Value.int IntKind.i64 s4, Value.int IntKind.i64 s5] 47)).alloc (Obj.cells #[Value.int IntKind.i64 x] 2)).alloc (Obj.cells #[Value.int IntKind.i64 y] 2)).heap.size = w.heap.size + 4 := by simp
  rw [zb4] at b4
  clear zb4
  have b5 := blk_new (((((w.alloc (Obj.cells #[Value.int IntKind.i64 W, Value.int IntKind.i64 H, Value.int IntKind.i64 Wa, Value.slice A l.length c] 45)).alloc (Obj.cells #[Value.int IntKind.i64 s0, Value.int IntKind.i64 s1, Value.int IntKind.i64 s2, Value.int IntKind.i64 s3, Value.int IntKind.i64 s4, Value.int IntKind.i64 s5] 47)).alloc (Obj.cells #[Value.int IntKind.i64 x] 2)).alloc (Obj.cells #[Value.int IntKind.i64 y] 2)).alloc (Obj.cells #[Value.int IntKind.i64 sp] 2)) (Obj.cells #[Value.int IntKind.i64 0, Value.int IntKind.i64 0, Value.int IntKind.i64 0, Value.int IntKind.i64 0, Value.int IntKind.i64 0, Value.int IntKind.i64 0] 47)
  rw [hV] at b5
  have zb5 : (((((w.alloc (Obj.cells #[Value.int IntKind.i64 W, Value.int IntKind.i64 H, Value.int IntKind.i64 Wa, Value.slice A l.length c] 45)).alloc (Obj.cells #[Value.int IntKind.i64 s0, Value.int IntKind.i64 s1, Value.int IntKind.i64 s2, Value.int IntKind.i64 s3, Value.int IntKind.i64 s4, Value.int IntKind.i64 s5] 47)).alloc (Obj.cells #[Value.int IntKind.i64 x] 2)).alloc (Obj.cells #[Value.int IntKind.i64 y] 2)).alloc (Obj.cells #[Value.int IntKind.i64 sp] 2)).heap.size = w.heap.size + 5 := by simp
  rw [zb5] at b5
  clear zb5
  rw [hV]
  clear hV
  have m0 := blk_cell b0 0
  have m1 := blk_cell b0 1
  have m2 := blk_cell b0 2
  have m3 := blk_cell b0 3
  simp only [List.getElem?_toArray, List.getElem?_cons_succ, List.getElem?_cons_zero] at m0 m1 m2 m3
  have t0 := blk_cell b1 0
  have t1 := blk_cell b1 1
  have t2 := blk_cell b1 2
  have t3 := blk_cell b1 3
  have t4 := blk_cell b1 4
  have t5 := blk_cell b1 5
  simp only [List.getElem?_toArray, List.getElem?_cons_succ, List.getElem?_cons_zero] at t0 t1 t2 t3 t4 t5
  refine (relief_On.calls K W H Wa A c l s0 s1 o1 V (Kd.C_below HR.out hB) HC.out H1.out).mono ?_
  rintro e w1 ⟨rfl, hb1⟩
  have HB1 := Lib.hid (below_then hB hB.size hb1)
  have LW : w.heap.size ≤ w1.heap.size := HB1.out.size
  have HH' := HH.out
  clear HH
  cases o1 with
  | false =>
    obtain ⟨rfl, rfl, rfl, rfl, rfl, rfl, rfl, rfl⟩ : 0 = r1 ∧ 0 = r2 ∧ 0 = r3 ∧ 0 = r4 ∧ 0 = r5 ∧ 0 = r6 ∧ 0 = r7 ∧ 1 = r8 := by simpa using HH'
    clear HH'
    have f5 := blk_frozen (blk_below b5 hb1)
    have Z5 := blk_below b5 hb1
    have hBB := HB1.out
    have q0 := blk_cell Z5 0
    have q1 := blk_cell Z5 1
    have q2 := blk_cell Z5 2
    have q3 := blk_cell Z5 3
    have q4 := blk_cell Z5 4
    have q5 := blk_cell Z5 5
    simp only [List.getElem?_toArray, List.getElem?_cons_succ, List.getElem?_cons_zero] at q0 q1 q2 q3 q4 q5
    go_wp2
    have e := blk_set (blk_set (blk_set (blk_set (blk_set (blk_set (Z5) 0 (.int .i64 0)) 1 (.int .i64 0)) 2 (.int .i64 0)) 3 (.int .i64 0)) 4 (.int .i64 0)) 5 (.int .i64 0)
    have hB3 := below_set (g := w.heap.size + 5) (j := 5) (v := .int .i64 0) (below_set (g := w.heap.size + 5) (j := 4) (v := .int .i64 0) (below_set (g := w.heap.size + 5) (j := 3) (v := .int .i64 0) (below_set (g := w.heap.size + 5) (j := 2) (v := .int .i64 0) (below_set (g := w.heap.size + 5) (j := 1) (v := .int .i64 0) (below_set (g := w.heap.size + 5) (j := 0) (v := .int .i64 0) (hBB) (by omega)) (by omega)) (by omega)) (by omega)) (by omega)) (by omega)
    generalize ((((((w1.setCell ⟨w.heap.size + 5, 0, none⟩ (.int .i64 0)).setCell ⟨w.heap.size + 5, 1, none⟩ (.int .i64 0)).setCell ⟨w.heap.size + 5, 2, none⟩ (.int .i64 0)).setCell ⟨w.heap.size + 5, 3, none⟩ (.int .i64 0)).setCell ⟨w.heap.size + 5, 4, none⟩ (.int .i64 0)).setCell ⟨w.heap.size + 5, 5, none⟩ (.int .i64 0)) = V3 at e hB3 ⊢
    have e0 := blk_cell e 0
    have e1 := blk_cell e 1
    have e2 := blk_cell e 2
    have e3 := blk_cell e 3
    have e4 := blk_cell e 4
    have e5 := blk_cell e 5
    simp only [List.setIfInBounds_toArray, List.set_cons_zero, List.set_cons_succ, List.getElem?_toArray, List.getElem?_cons_succ, List.getElem?_cons_zero] at e0 e1 e2 e3 e4 e5
    exact bodyPost_ret (v := .tuple #[.agg #[.int .i64 0, .int .i64 0, .int .i64 0, .int .i64 0, .int .i64 0, .int .i64 0], .int .i64 0, .int .i64 1]) (by simp [results, Tryd.results25, go_sem, e0, e1, e2, e3, e4, e5]) rfl ⟨rfl, hB3⟩
  | true =>
    obtain ⟨o2, h2, HH2⟩ := Option.bind_eq_some_iff.mp (show ((relief_On.f K W H Wa l x y).bind _) = some _ by simpa only [if_true] using HH')
    have H2 := Lib.hid h2
    clear HH' h2
    have C0 := blk_below b0 hb1
    have C1 := blk_below b1 hb1
    have C2 := blk_below b2 hb1
    have C3 := blk_below b3 hb1
    have C4 := blk_below b4 hb1
    have C5 := blk_below b5 hb1
    clear b0 b1 b2 b3 b4 b5 m0 m1 m2 m3 t0 t1 t2 t3 t4 t5 hb1 hB H1
    have m0 := blk_cell C0 0
    have m1 := blk_cell C0 1
    have m2 := blk_cell C0 2
    have m3 := blk_cell C0 3
    simp only [List.getElem?_toArray, List.getElem?_cons_succ, List.getElem?_cons_zero] at m0 m1 m2 m3
    have x0 := blk_cell C2 0
    simp only [List.getElem?_toArray, List.getElem?_cons_succ, List.getElem?_cons_zero] at x0
    have y0 := blk_cell C3 0
    simp only [List.getElem?_toArray, List.getElem?_cons_succ, List.getElem?_cons_zero] at y0
    go_wp2_with fail
    refine (relief_On.calls K W H Wa A c l x y o2 w1 (Kd.C_below HR.out HB1.out) HC.out H2.out).mono ?_
    rintro e w2 ⟨rfl, hb2⟩
    have HB2 := Lib.hid (below_then HB1.out HB1.out.size hb2)
    have LW2 : w.heap.size ≤ w2.heap.size := HB2.out.size
    clear m0 m1 m2 m3 x0 y0
    have D0 := blk_below C0 hb2
    have D1 := blk_below C1 hb2
    have D2 := blk_below C2 hb2
    have D3 := blk_below C3 hb2
    have D4 := blk_below C4 hb2
    have D5 := blk_below C5 hb2
    clear C0 C1 C2 C3 C4 C5 hb2 H2 HB1 LW
    cases o2 with
    | false =>
      obtain ⟨rfl, rfl, rfl, rfl, rfl, rfl, rfl, rfl⟩ : 0 = r1 ∧ 0 = r2 ∧ 0 = r3 ∧ 0 = r4 ∧ 0 = r5 ∧ 0 = r6 ∧ 0 = r7 ∧ 1 = r8 := by simpa using HH2
      clear HH2
      have f5 := blk_frozen (D5)
      have Z5 := D5
      have hBB := HB2.out
      have q0 := blk_cell Z5 0
      have q1 := blk_cell Z5 1
      have q2 := blk_cell Z5 2
      have q3 := blk_cell Z5 3
      have q4 := blk_cell Z5 4
      have q5 := blk_cell Z5 5
      simp only [List.getElem?_toArray, List.getElem?_cons_succ, List.getElem?_cons_zero] at q0 q1 q2 q3 q4 q5
      go_wp2
      have e := blk_set (blk_set (blk_set (blk_set (blk_set (blk_set (Z5) 0 (.int .i64 0)) 1 (.int .i64 0)) 2 (.int .i64 0)) 3 (.int .i64 0)) 4 (.int .i64 0)) 5 (.int .i64 0)
      have hB3 := below_set (g := w.heap.size + 5) (j := 5) (v := .int .i64 0) (below_set (g := w.heap.size + 5) (j := 4) (v := .int .i64 0) (below_set (g := w.heap.size + 5) (j := 3) (v := .int .i64 0) (below_set (g := w.heap.size + 5) (j := 2) (v := .int .i64 0) (below_set (g := w.heap.size + 5) (j := 1) (v := .int .i64 0) (below_set (g := w.heap.size + 5) (j := 0) (v := .int .i64 0) (hBB) (by omega)) (by omega)) (by omega)) (by omega)) (by omega)) (by omega)
      generalize ((((((w2.setCell ⟨w.heap.size + 5, 0, none⟩ (.int .i64 0)).setCell ⟨w.heap.size + 5, 1, none⟩ (.int .i64 0)).setCell ⟨w.heap.size + 5, 2, none⟩ (.int .i64 0)).setCell ⟨w.heap.size + 5, 3, none⟩ (.int .i64 0)).setCell ⟨w.heap.size + 5, 4, none⟩ (.int .i64 0)).setCell ⟨w.heap.size + 5, 5, none⟩ (.int .i64 0)) = V3 at e hB3 ⊢
      have e0 := blk_cell e 0
      have e1 := blk_cell e 1
      have e2 := blk_cell e 2
      have e3 := blk_cell e 3
      have e4 := blk_cell e 4
      have e5 := blk_cell e 5
      simp only [List.setIfInBounds_toArray, List.set_cons_zero, List.set_cons_succ, List.getElem?_toArray, List.getElem?_cons_succ, List.getElem?_cons_zero] at e0 e1 e2 e3 e4 e5
      exact bodyPost_ret (v := .tuple #[.agg #[.int .i64 0, .int .i64 0, .int .i64 0, .int .i64 0, .int .i64 0, .int .i64 0], .int .i64 0, .int .i64 1]) (by simp [results, Tryd.results25, go_sem, e0, e1, e2, e3, e4, e5]) rfl ⟨rfl, hB3⟩
    | true =>
      simp only [if_true] at HH2
      have t0 := blk_cell D1 0
      have t1 := blk_cell D1 1
      have t2 := blk_cell D1 2
      have t3 := blk_cell D1 3
      have t4 := blk_cell D1 4
      have t5 := blk_cell D1 5
      simp only [List.getElem?_toArray, List.getElem?_cons_succ, List.getElem?_cons_zero] at t0 t1 t2 t3 t4 t5
      have p0 := blk_cell D4 0
      simp only [List.getElem?_toArray, List.getElem?_cons_succ, List.getElem?_cons_zero] at p0
      by_cases c1 : s2 < 0
      · rw [if_pos c1] at HH2
        obtain ⟨rfl, rfl, rfl, rfl, rfl, rfl, rfl, rfl⟩ : 0 = r1 ∧ 0 = r2 ∧ 0 = r3 ∧ 0 = r4 ∧ 0 = r5 ∧ 0 = r6 ∧ 0 = r7 ∧ 1 = r8 := by simpa using HH2
        clear HH2
        have f5 := blk_frozen (D5)
        have Z5 := D5
        have hBB := HB2.out
        have q0 := blk_cell Z5 0
        have q1 := blk_cell Z5 1
        have q2 := blk_cell Z5 2
        have q3 := blk_cell Z5 3
        have q4 := blk_cell Z5 4
        have q5 := blk_cell Z5 5
        simp only [List.getElem?_toArray, List.getElem?_cons_succ, List.getElem?_cons_zero] at q0 q1 q2 q3 q4 q5
        go_wp2
        have e := blk_set (blk_set (blk_set (blk_set (blk_set (blk_set (Z5) 0 (.int .i64 0)) 1 (.int .i64 0)) 2 (.int .i64 0)) 3 (.int .i64 0)) 4 (.int .i64 0)) 5 (.int .i64 0)
        have hB3 := below_set (g := w.heap.size + 5) (j := 5) (v := .int .i64 0) (below_set (g := w.heap.size + 5) (j := 4) (v := .int .i64 0) (below_set (g := w.heap.size + 5) (j := 3) (v := .int .i64 0) (below_set (g := w.heap.size + 5) (j := 2) (v := .int .i64 0) (below_set (g := w.heap.size + 5) (j := 1) (v := .int .i64 0) (below_set (g := w.heap.size + 5) (j := 0) (v := .int .i64 0) (hBB) (by omega)) (by omega)) (by omega)) (by omega)) (by omega)) (by omega)
        generalize ((((((w2.setCell ⟨w.heap.size + 5, 0, none⟩ (.int .i64 0)).setCell ⟨w.heap.size + 5, 1, none⟩ (.int .i64 0)).setCell ⟨w.heap.size + 5, 2, none⟩ (.int .i64 0)).setCell ⟨w.heap.size + 5, 3, none⟩ (.int .i64 0)).setCell ⟨w.heap.size + 5, 4, none⟩ (.int .i64 0)).setCell ⟨w.heap.size + 5, 5, none⟩ (.int .i64 0)) = V3 at e hB3 ⊢
        have e0 := blk_cell e 0
        have e1 := blk_cell e 1
        have e2 := blk_cell e 2
        have e3 := blk_cell e 3
        have e4 := blk_cell e 4
        have e5 := blk_cell e 5
        simp only [List.setIfInBounds_toArray, List.set_cons_zero, List.set_cons_succ, List.getElem?_toArray, List.getElem?_cons_succ, List.getElem?_cons_zero] at e0 e1 e2 e3 e4 e5
        exact bodyPost_ret (v := .tuple #[.agg #[.int .i64 0, .int .i64 0, .int .i64 0, .int .i64 0, .int .i64 0, .int .i64 0], .int .i64 0, .int .i64 1]) (by simp [results, Tryd.results25, go_sem, e0, e1, e2, e3, e4, e5]) rfl ⟨rfl, hB3⟩
      rw [if_neg c1] at HH2
      by_cases c2 : s2 > 1073741824
      · rw [if_pos c2] at HH2
        obtain ⟨rfl, rfl, rfl, rfl, rfl, rfl, rfl, rfl⟩ : 0 = r1 ∧ 0 = r2 ∧ 0 = r3 ∧ 0 = r4 ∧ 0 = r5 ∧ 0 = r6 ∧ 0 = r7 ∧ 1 = r8 := by simpa using HH2
        clear HH2
        have c2' : 1073741824 < s2 := c2
        have f5 := blk_frozen (D5)
        have Z5 := D5
        have hBB := HB2.out
        have q0 := blk_cell Z5 0
        have q1 := blk_cell Z5 1
        have q2 := blk_cell Z5 2
        have q3 := blk_cell Z5 3
        have q4 := blk_cell Z5 4
        have q5 := blk_cell Z5 5
        simp only [List.getElem?_toArray, List.getElem?_cons_succ, List.getElem?_cons_zero] at q0 q1 q2 q3 q4 q5
        go_wp2
        have e := blk_set (blk_set (blk_set (blk_set (blk_set (blk_set (Z5) 0 (.int .i64 0)) 1 (.int .i64 0)) 2 (.int .i64 0)) 3 (.int .i64 0)) 4 (.int .i64 0)) 5 (.int .i64 0)
        have hB3 := below_set (g := w.heap.size + 5) (j := 5) (v := .int .i64 0) (below_set (g := w.heap.size + 5) (j := 4) (v := .int .i64 0) (below_set (g := w.heap.size + 5) (j := 3) (v := .int .i64 0) (below_set (g := w.heap.size + 5) (j := 2) (v := .int .i64 0) (below_set (g := w.heap.size + 5) (j := 1) (v := .int .i64 0) (below_set (g := w.heap.size + 5) (j := 0) (v := .int .i64 0) (hBB) (by omega)) (by omega)) (by omega)) (by omega)) (by omega)) (by omega)
        generalize ((((((w2.setCell ⟨w.heap.size + 5, 0, none⟩ (.int .i64 0)).setCell ⟨w.heap.size + 5, 1, none⟩ (.int .i64 0)).setCell ⟨w.heap.size + 5, 2, none⟩ (.int .i64 0)).setCell ⟨w.heap.size + 5, 3, none⟩ (.int .i64 0)).setCell ⟨w.heap.size + 5, 4, none⟩ (.int .i64 0)).setCell ⟨w.heap.size + 5, 5, none⟩ (.int .i64 0)) = V3 at e hB3 ⊢
        have e0 := blk_cell e 0
        have e1 := blk_cell e 1
        have e2 := blk_cell e 2
        have e3 := blk_cell e 3
        have e4 := blk_cell e 4
        have e5 := blk_cell e 5
        simp only [List.setIfInBounds_toArray, List.set_cons_zero, List.set_cons_succ, List.getElem?_toArray, List.getElem?_cons_succ, List.getElem?_cons_zero] at e0 e1 e2 e3 e4 e5
        exact bodyPost_ret (v := .tuple #[.agg #[.int .i64 0, .int .i64 0, .int .i64 0, .int .i64 0, .int .i64 0, .int .i64 0], .int .i64 0, .int .i64 1]) (by simp [results, Tryd.results25, go_sem, e0, e1, e2, e3, e4, e5]) rfl ⟨rfl, hB3⟩
      rw [if_neg c2] at HH2
      obtain ⟨fa, h3, HH3⟩ := Option.bind_eq_some_iff.mp HH2
      have H3 := Lib.hid h3
      have HH4 := Lib.hid HH3
      clear HH2 h3 HH3
      have c2' : s2 ≤ 1073741824 := by omega
      go_wp2_with fail
      refine (aim_fast.calls sp fa _ H3.out).mono ?_
      rintro e w3 ⟨rfl, hd⟩
      have hb3 := hd.below
      have HB3 := Lib.hid (below_then HB2.out HB2.out.size hb3)
      have LW3 : w.heap.size ≤ w3.heap.size := HB3.out.size
      have E0 := Lib.hid (blk_below D0 hb3)
      have E1 := Lib.hid (blk_below D1 hb3)
      have E2 := Lib.hid (blk_below D2 hb3)
      have E3 := Lib.hid (blk_below D3 hb3)
      have E4 := Lib.hid (blk_below D4 hb3)
      have E5 := Lib.hid (blk_below D5 hb3)
      clear D0 D1 D2 D3 D4 D5 hb3 hd H3 HB2 LW2 t0 t1 t2 t3 t4 t5 p0
      have HH5 := HH4.out
      clear HH4
      cases fa with
      | false =>
        obtain ⟨rfl, rfl, rfl, rfl, rfl, rfl, rfl, rfl⟩ : 0 = r1 ∧ 0 = r2 ∧ 0 = r3 ∧ 0 = r4 ∧ 0 = r5 ∧ 0 = r6 ∧ 0 = r7 ∧ 1 = r8 := by simpa using HH5
        clear HH5
        have f5 := blk_frozen (E5.out)
        have Z5 := E5.out
        have hBB := HB3.out
        have q0 := blk_cell Z5 0
        have q1 := blk_cell Z5 1
        have q2 := blk_cell Z5 2
        have q3 := blk_cell Z5 3
        have q4 := blk_cell Z5 4
        have q5 := blk_cell Z5 5
        simp only [List.getElem?_toArray, List.getElem?_cons_succ, List.getElem?_cons_zero] at q0 q1 q2 q3 q4 q5
        go_wp2
        have e := blk_set (blk_set (blk_set (blk_set (blk_set (blk_set (Z5) 0 (.int .i64 0)) 1 (.int .i64 0)) 2 (.int .i64 0)) 3 (.int .i64 0)) 4 (.int .i64 0)) 5 (.int .i64 0)
        have hB3 := below_set (g := w.heap.size + 5) (j := 5) (v := .int .i64 0) (below_set (g := w.heap.size + 5) (j := 4) (v := .int .i64 0) (below_set (g := w.heap.size + 5) (j := 3) (v := .int .i64 0) (below_set (g := w.heap.size + 5) (j := 2) (v := .int .i64 0) (below_set (g := w.heap.size + 5) (j := 1) (v := .int .i64 0) (below_set (g := w.heap.size + 5) (j := 0) (v := .int .i64 0) (hBB) (by omega)) (by omega)) (by omega)) (by omega)) (by omega)) (by omega)
        generalize ((((((w3.setCell ⟨w.heap.size + 5, 0, none⟩ (.int .i64 0)).setCell ⟨w.heap.size + 5, 1, none⟩ (.int .i64 0)).setCell ⟨w.heap.size + 5, 2, none⟩ (.int .i64 0)).setCell ⟨w.heap.size + 5, 3, none⟩ (.int .i64 0)).setCell ⟨w.heap.size + 5, 4, none⟩ (.int .i64 0)).setCell ⟨w.heap.size + 5, 5, none⟩ (.int .i64 0)) = V3 at e hB3 ⊢
        have e0 := blk_cell e 0
        have e1 := blk_cell e 1
        have e2 := blk_cell e 2
        have e3 := blk_cell e 3
        have e4 := blk_cell e 4
        have e5 := blk_cell e 5
        simp only [List.setIfInBounds_toArray, List.set_cons_zero, List.set_cons_succ, List.getElem?_toArray, List.getElem?_cons_succ, List.getElem?_cons_zero] at e0 e1 e2 e3 e4 e5
        exact bodyPost_ret (v := .tuple #[.agg #[.int .i64 0, .int .i64 0, .int .i64 0, .int .i64 0, .int .i64 0, .int .i64 0], .int .i64 0, .int .i64 1]) (by simp [results, Tryd.results25, go_sem, e0, e1, e2, e3, e4, e5]) rfl ⟨rfl, hB3⟩
      | true =>
        obtain ⟨⟨q1, q2⟩, h4, HH6⟩ := Option.bind_eq_some_iff.mp (show ((firstO (aim_try K W H Wa l s0 s1 s2 s3 s4 s5 x y sp) 65 K 0).bind _) = some _ by simpa only [if_true] using HH5)
        have H4 := Lib.hid h4
        have HH7 := Lib.hid HH6
        clear HH5 h4 HH6
        go_wp2_with fail
        refine (first_any (aim_try K W H Wa l s0 s1 s2 s3 s4 s5 x y sp) (.pointer (some ⟨w.heap.size + 1, 0, none⟩)) (.pointer (some ⟨w.heap.size + 2, 0, none⟩)) (.pointer (some ⟨w.heap.size + 3, 0, none⟩)) (.pointer (some ⟨w.heap.size + 4, 0, none⟩)) (.pointer (some ⟨w.heap.size, 0, none⟩)) q1 q2 K w3
          (fun j b w4 hbw hj => try_any K W H Wa A c l s0 s1 s2 s3 s4 s5 x y sp j b w4 _ _ _ _ _ (HT.out.below (below_then HB3.out HB3.out.size hbw)) (blk_below E1.out hbw) (blk_below E2.out hbw) (blk_below E3.out hbw) (blk_below E4.out hbw) (blk_below E0.out hbw) (Kd.C_below HR.out (below_then HB3.out HB3.out.size hbw)) HC.out hj) H4.out).mono ?_
        rintro e w4 ⟨rfl, hb4⟩
        have HB4 := Lib.hid (below_then HB3.out HB3.out.size hb4)
        have LW4 : w.heap.size ≤ w4.heap.size := HB4.out.size
        have F1 := blk_below E1.out hb4
        have F2 := blk_below E2.out hb4
        have F3 := blk_below E3.out hb4
        have F4 := blk_below E4.out hb4
        have F5 := Lib.hid (blk_below E5.out hb4)
        clear E0 E1 E2 E3 E4 E5 hb4 H4 HB3 LW3
        have HH8 := HH7.out
        clear HH7
        cases q2 with
        | false =>
          obtain ⟨rfl, rfl, rfl, rfl, rfl, rfl, rfl, rfl⟩ : 0 = r1 ∧ 0 = r2 ∧ 0 = r3 ∧ 0 = r4 ∧ 0 = r5 ∧ 0 = r6 ∧ 0 = r7 ∧ 6 = r8 := by simpa using HH8
          clear HH8
          have f5 := blk_frozen (F5.out)
          have Z5 := F5.out
          have hBB := HB4.out
          have q0 := blk_cell Z5 0
          have q1 := blk_cell Z5 1
          have q2 := blk_cell Z5 2
          have q3 := blk_cell Z5 3
          have q4 := blk_cell Z5 4
          have q5 := blk_cell Z5 5
          simp only [List.getElem?_toArray, List.getElem?_cons_succ, List.getElem?_cons_zero] at q0 q1 q2 q3 q4 q5
          go_wp2
          have e := blk_set (blk_set (blk_set (blk_set (blk_set (blk_set (Z5) 0 (.int .i64 0)) 1 (.int .i64 0)) 2 (.int .i64 0)) 3 (.int .i64 0)) 4 (.int .i64 0)) 5 (.int .i64 0)
          have hB3 := below_set (g := w.heap.size + 5) (j := 5) (v := .int .i64 0) (below_set (g := w.heap.size + 5) (j := 4) (v := .int .i64 0) (below_set (g := w.heap.size + 5) (j := 3) (v := .int .i64 0) (below_set (g := w.heap.size + 5) (j := 2) (v := .int .i64 0) (below_set (g := w.heap.size + 5) (j := 1) (v := .int .i64 0) (below_set (g := w.heap.size + 5) (j := 0) (v := .int .i64 0) (hBB) (by omega)) (by omega)) (by omega)) (by omega)) (by omega)) (by omega)
          generalize ((((((w4.setCell ⟨w.heap.size + 5, 0, none⟩ (.int .i64 0)).setCell ⟨w.heap.size + 5, 1, none⟩ (.int .i64 0)).setCell ⟨w.heap.size + 5, 2, none⟩ (.int .i64 0)).setCell ⟨w.heap.size + 5, 3, none⟩ (.int .i64 0)).setCell ⟨w.heap.size + 5, 4, none⟩ (.int .i64 0)).setCell ⟨w.heap.size + 5, 5, none⟩ (.int .i64 0)) = V3 at e hB3 ⊢
          have e0 := blk_cell e 0
          have e1 := blk_cell e 1
          have e2 := blk_cell e 2
          have e3 := blk_cell e 3
          have e4 := blk_cell e 4
          have e5 := blk_cell e 5
          simp only [List.setIfInBounds_toArray, List.set_cons_zero, List.set_cons_succ, List.getElem?_toArray, List.getElem?_cons_succ, List.getElem?_cons_zero] at e0 e1 e2 e3 e4 e5
          exact bodyPost_ret (v := .tuple #[.agg #[.int .i64 0, .int .i64 0, .int .i64 0, .int .i64 0, .int .i64 0, .int .i64 0], .int .i64 0, .int .i64 6]) (by simp [results, Tryd.results25, go_sem, e0, e1, e2, e3, e4, e5]) rfl ⟨rfl, hB3⟩
        | true =>
          obtain ⟨⟨t1, t2, t3, t4, t5, t6, te⟩, h5, HH9⟩ := Option.bind_eq_some_iff.mp (show ((aim_Shot.f K s0 s1 s2 s3 s4 s5 x y sp q1).bind _) = some _ by simpa only [if_true] using HH8)
          obtain ⟨rfl, rfl, rfl, rfl, rfl, rfl, rfl, rfl⟩ : t1 = r1 ∧ t2 = r2 ∧ t3 = r3 ∧ t4 = r4 ∧ t5 = r5 ∧ t6 = r6 ∧ q1 = r7 ∧ 0 = r8 := by simpa using HH9
          have H5 := Lib.hid h5
          clear HH8 HH9 h5
          have m0 := blk_cell F1 0
          have m1 := blk_cell F1 1
          have m2 := blk_cell F1 2
          have m3 := blk_cell F1 3
          have m4 := blk_cell F1 4
          have m5 := blk_cell F1 5
          simp only [List.getElem?_toArray, List.getElem?_cons_succ, List.getElem?_cons_zero] at m0 m1 m2 m3 m4 m5
          have x0 := blk_cell F2 0
          simp only [List.getElem?_toArray, List.getElem?_cons_succ, List.getElem?_cons_zero] at x0
          have y0 := blk_cell F3 0
          simp only [List.getElem?_toArray, List.getElem?_cons_succ, List.getElem?_cons_zero] at y0
          have p0 := blk_cell F4 0
          simp only [List.getElem?_toArray, List.getElem?_cons_succ, List.getElem?_cons_zero] at p0
          go_wp2_with fail
          refine (aim_Shot.calls K s0 s1 s2 s3 s4 s5 x y sp q1 t1 t2 t3 t4 t5 t6 te w4 (HT.out.below HB4.out) H5.out).mono ?_
          rintro e w5 ⟨rfl, hb5⟩
          have HB5 := Lib.hid (below_then HB4.out HB4.out.size hb5)
          have LW5 : w.heap.size ≤ w5.heap.size := HB5.out.size
          have LL5 : w.heap.size + 5 < w5.heap.size := blk_lt (blk_below F5.out hb5)
          have Z5 := blk_below F5.out hb5
          have f5 := blk_frozen Z5
          clear F1 F2 F3 F4 F5 hb5 H5 HB4 LW4 m0 m1 m2 m3 m4 m5 x0 y0 p0
          have hBB := HB5.out
          have qz0 := blk_cell Z5 0
          have qz1 := blk_cell Z5 1
          have qz2 := blk_cell Z5 2
          have qz3 := blk_cell Z5 3
          have qz4 := blk_cell Z5 4
          have qz5 := blk_cell Z5 5
          simp only [List.getElem?_toArray, List.getElem?_cons_succ, List.getElem?_cons_zero] at qz0 qz1 qz2 qz3 qz4 qz5
          go_wp2
          have e := blk_set (blk_set (blk_set (blk_set (blk_set (blk_set (Z5) 0 (.int .i64 t1)) 1 (.int .i64 t2)) 2 (.int .i64 t3)) 3 (.int .i64 t4)) 4 (.int .i64 t5)) 5 (.int .i64 t6)
          have hB3 := below_set (g := w.heap.size + 5) (j := 5) (v := .int .i64 t6) (below_set (g := w.heap.size + 5) (j := 4) (v := .int .i64 t5) (below_set (g := w.heap.size + 5) (j := 3) (v := .int .i64 t4) (below_set (g := w.heap.size + 5) (j := 2) (v := .int .i64 t3) (below_set (g := w.heap.size + 5) (j := 1) (v := .int .i64 t2) (below_set (g := w.heap.size + 5) (j := 0) (v := .int .i64 t1) (hBB) (by omega)) (by omega)) (by omega)) (by omega)) (by omega)) (by omega)
          generalize ((((((w5.setCell ⟨w.heap.size + 5, 0, none⟩ (.int .i64 t1)).setCell ⟨w.heap.size + 5, 1, none⟩ (.int .i64 t2)).setCell ⟨w.heap.size + 5, 2, none⟩ (.int .i64 t3)).setCell ⟨w.heap.size + 5, 3, none⟩ (.int .i64 t4)).setCell ⟨w.heap.size + 5, 4, none⟩ (.int .i64 t5)).setCell ⟨w.heap.size + 5, 5, none⟩ (.int .i64 t6)) = V3 at e hB3 ⊢
          have e0 := blk_cell e 0
          have e1 := blk_cell e 1
          have e2 := blk_cell e 2
          have e3 := blk_cell e 3
          have e4 := blk_cell e 4
          have e5 := blk_cell e 5
          simp only [List.setIfInBounds_toArray, List.set_cons_zero, List.set_cons_succ, List.getElem?_toArray, List.getElem?_cons_succ, List.getElem?_cons_zero] at e0 e1 e2 e3 e4 e5
          have L3 := blk_lt e
          exact bodyPost_ret (v := .tuple #[.agg #[.int .i64 t1, .int .i64 t2, .int .i64 t3, .int .i64 t4, .int .i64 t5, .int .i64 t6], .int .i64 q1, .int .i64 0]) (by simp [results, Tryd.results25, go_sem, e0, e1, e2, e3, e4, e5, L3]) rfl ⟨rfl, below_alloc hB3 _⟩
end Go.Proofs.YtbcddiaplpbhjaaDoor.MAi
namespace Go.Proofs.YtbcddiaplpbhjaaDoor.MAi
open Go Go.RowKit Go.Proofs.YtbcddiaplpbhjaaDoorW.PrintWords Go.Proofs.YtbcddiaplpbhjaaDoorW.PrintLast Go.Proofs.YtbcddiaplpbhjaaDoorW.PrintMore
set_option linter.unusedVariables false
set_option linter.unusedSimpArgs false
noncomputable def bivouaclaw17_awake.f (K : Nat) : Option Bool :=
  (aim_Solve.f K 9 9 0 (List.replicate 100 0) 0 0 65536 0 0 0 425984 0 32768).bind fun a => (aim_Solve.f K 9 9 0 (List.replicate 100 0) 0 0 0 0 0 0 425984 0 32768).bind fun b => (aim_Solve.f K 9 9 0 (List.replicate 100 0) 0 0 0 0 0 0 0 0 1).bind fun c =>
    (aim_InReach.f K 0 0 196608 0 3).bind fun d => (aim_InReach.f K 0 0 196608 0 2).bind fun e => if a.2.2.2.2.2.2 = (0, 0) then (if b.2.2.2.2.2.2 = (8, 0) then (if c.2.2.2.2.2.2 = (0, 0) then (if d = true then (if e = false then some true else none) else none) else none) else none) else none
theorem bivouaclaw17_awake.mono (k : Nat) : LeO (bivouaclaw17_awake.f k) (bivouaclaw17_awake.f (k + 1)) := by
  unfold bivouaclaw17_awake.f
  exact LeO.bind (aim_Solve.mono _ _ _ _ _ _ _ _ _ _ _ _ _ _) fun a => LeO.bind (aim_Solve.mono _ _ _ _ _ _ _ _ _ _ _ _ _ _) fun b => LeO.bind (aim_Solve.mono _ _ _ _ _ _ _ _ _ _ _ _ _ _) fun c =>
    LeO.bind (aim_InReach.mono _ _ _ _ _ _) fun d => LeO.bind (aim_InReach.mono _ _ _ _ _ _) fun e => LeO.refl _
set_option maxHeartbeats 8000000 in
set_option maxRecDepth 100000 in
theorem bivouaclaw17_awake.calls (K : Nat) (r : Bool) (w : World) (hT : Tg.Tab w) (h : bivouaclaw17_awake.f K = some r) :
    Calls Tryd.prog 22 #[] w fun e w' => e = .returned (.bool r) ∧ Below w.heap.size w w' := by
  unfold bivouaclaw17_awake.f at h
  obtain ⟨⟨a1, a2, a3, a4, a5, a6, a7, a8⟩, h1, h⟩ := Option.bind_eq_some_iff.mp h
  obtain ⟨⟨b1, b2, b3, b4, b5, b6, b7, b8⟩, h2, h⟩ := Option.bind_eq_some_iff.mp h
  obtain ⟨⟨c1, c2, c3, c4, c5, c6, c7, c8⟩, h3, h⟩ := Option.bind_eq_some_iff.mp h
  obtain ⟨d, h4, h⟩ := Option.bind_eq_some_iff.mp h
  obtain ⟨e, h5, h⟩ := Option.bind_eq_some_iff.mp h
  simp only at h
  split at h
  rotate_left
  · cases h
  rename_i g1
  split at h
  rotate_left
  · cases h
  rename_i g2
  split at h
  rotate_left
  · cases h
  rename_i g3
  split at h
  rotate_left
  · cases h
  rename_i g4
  split at h
  rotate_left
  · cases h
  rename_i g5
  obtain rfl := Option.some.inj h
  obtain ⟨rfl, rfl⟩ := Prod.mk.inj g1
  obtain ⟨rfl, rfl⟩ := Prod.mk.inj g2
  obtain ⟨rfl, rfl⟩ := Prod.mk.inj g3
  subst g4 g5
  have hF := bivouaclaw16_Flat.calls 9 9 0 (List.replicate 100 0) w (by unfold bivouaclaw16_Flat.f; rw [if_pos (by omega)])
  obtain ⟨L, hL⟩ : ∃ L, List.replicate 100 (0 : Int) = L := ⟨_, rfl⟩
  rw [hL] at h1 h2 h3 hF
  have HF := Lib.hid hF
  have H1 := Lib.hid h1
  have H2 := Lib.hid h2
  have H3 := Lib.hid h3
  have H4 := Lib.hid h4
  have H5 := Lib.hid h5
  have HT := Lib.hid hT
  clear h1 h2 h3 h4 h5 hT h g1 g2 g3 hF hL
  have hu := Tryd.underlying45
  have hu2 := Tryd.underlying47
  go_enter Tryd.func22, Tryd.ntmps22
  go_wp2_with fail
  refine HF.out.mono ?_
  rintro e w1 ⟨v, rfl, hr, hb1⟩
  obtain ⟨A, c, rfl, hc, hC⟩ := Kd.R_reads hr
  have HC := Lib.hid hc
  have HR := Lib.hid hC
  have HB1 := Lib.hid hb1
  clear hr hc hC hb1 HF
  go_wp2_with fail
  have hB2 := below_alloc HB1.out (Obj.cells #[Value.int IntKind.i64 9, Value.int IntKind.i64 9, Value.int IntKind.i64 0, Value.slice A L.length c] 45)
  have b0 := blk_new w1 (Obj.cells #[Value.int IntKind.i64 9, Value.int IntKind.i64 9, Value.int IntKind.i64 0, Value.slice A L.length c] 45)
  generalize hV : w1.alloc (Obj.cells #[Value.int IntKind.i64 9, Value.int IntKind.i64 9, Value.int IntKind.i64 0, Value.slice A L.length c] 45) = V at hB2 b0 ⊢
  have HB2 := Lib.hid hB2
  have B0 := Lib.hid b0
  have LV : w1.heap.size < V.heap.size := blk_lt b0
  have LB : w.heap.size ≤ w1.heap.size := HB1.out.size
  have hbv : Below w1.heap.size w1 V := by rw [← hV]; exact below_alloc (Below.refl _ _) _
  have HR2 := Lib.hid (Kd.C_below HR.out hbv)
  clear hB2 b0 hV HR hbv
  have zz := B0.out
  have m0 := blk_cell zz 0
  have m1 := blk_cell zz 1
  have m2 := blk_cell zz 2
  have m3 := blk_cell zz 3
  simp only [List.getElem?_toArray, List.getElem?_cons_succ, List.getElem?_cons_zero] at m0 m1 m2 m3
  clear zz
  refine (aim_Solve.calls K 9 9 0 A c L 0 0 65536 0 0 0 425984 0 32768 a1 a2 a3 a4 a5 a6 0 0 _ (Kd.C_below HR2.out (Below.refl _ _)) HC.out (HT.out.below (HB2.out)) H1.out).mono ?_
  rintro e wa ⟨rfl, hb⟩
  have KBx := Lib.hid hb
  have HBa := Lib.hid (below_then HB2.out HB2.out.size hb)
  have KB0 := Lib.hid hb
  have Ba := Lib.hid (blk_below B0.out hb)
  have La : w1.heap.size < wa.heap.size := blk_lt Ba.out
  clear hb m0 m1 m2 m3 KBx
  have zz := Ba.out
  have m0 := blk_cell zz 0
  have m1 := blk_cell zz 1
  have m2 := blk_cell zz 2
  have m3 := blk_cell zz 3
  simp only [List.getElem?_toArray, List.getElem?_cons_succ, List.getElem?_cons_zero] at m0 m1 m2 m3
  clear zz
  go_wp2_with fail
  refine (aim_Solve.calls K 9 9 0 A c L 0 0 0 0 0 0 425984 0 32768 b1 b2 b3 b4 b5 b6 8 0 _ (Kd.C_below HR2.out (below_alloc KB0.out _)) HC.out (HT.out.below (below_alloc HBa.out _)) H2.out).mono ?_
  rintro e wb ⟨rfl, hb⟩
  have HBb := Lib.hid (below_then (below_alloc HBa.out _) (below_alloc HBa.out _).size hb)
  have KB1 := Lib.hid (below_then (below_alloc KB0.out _) (below_alloc KB0.out _).size hb)
  have Bb := Lib.hid (blk_below (blk_alloc Ba.out _) hb)
  have Lb : w1.heap.size < wb.heap.size := blk_lt Bb.out
  clear hb m0 m1 m2 m3
  have zz := Bb.out
  have m0 := blk_cell zz 0
  have m1 := blk_cell zz 1
  have m2 := blk_cell zz 2
  have m3 := blk_cell zz 3
  simp only [List.getElem?_toArray, List.getElem?_cons_succ, List.getElem?_cons_zero] at m0 m1 m2 m3
  clear zz
  go_wp2_with fail
  refine (aim_Solve.calls K 9 9 0 A c L 0 0 0 0 0 0 0 0 1 c1 c2 c3 c4 c5 c6 0 0 _ (Kd.C_below HR2.out (below_alloc KB1.out _)) HC.out (HT.out.below (below_alloc HBb.out _)) H3.out).mono ?_
  rintro e wc ⟨rfl, hb⟩
  have HBc := Lib.hid (below_then (below_alloc HBb.out _) (below_alloc HBb.out _).size hb)
  have KB2 := Lib.hid (below_then (below_alloc KB1.out _) (below_alloc KB1.out _).size hb)
  have Bc := Lib.hid (blk_below (blk_alloc Bb.out _) hb)
  have Lc : w1.heap.size < wc.heap.size := blk_lt Bc.out
  clear hb m0 m1 m2 m3
  go_wp2_with fail
  refine (aim_InReach.calls K 0 0 196608 0 3 true _ H4.out).mono ?_
  rintro e wd ⟨rfl, hb⟩
  have HBd := Lib.hid (below_then (below_alloc HBc.out _) (below_alloc HBc.out _).size hb)
  clear hb
  go_wp2_with fail
  refine (aim_InReach.calls K 0 0 196608 0 2 false _ H5.out).mono ?_
  rintro e we ⟨rfl, hb⟩
  have HBe := Lib.hid (below_then HBd.out HBd.out.size hb)
  clear hb
  go_wp2
  go_ret
  exact ⟨rfl, HBe.out⟩
end Go.Proofs.YtbcddiaplpbhjaaDoor.MAi
namespace Go.Proofs.YtbcddiaplpbhjaaDoor.Ap
open Go Go.RowKit Go.Proofs.YtbcddiaplpbhjaaDoorW.PrintMore Go.Proofs.YtbcddiaplpbhjaaDoorW.PrintWords Go.Proofs.YtbcddiaplpbhjaaDoor.MAi
set_option linter.unusedVariables false
set_option linter.unusedSimpArgs false
structure Sh where (x y z u v t : Int)
def Small (s : Sh) : Prop := 0 ≤ s.x ∧ s.x ≤ 4194304 ∧ 0 ≤ s.y ∧ s.y ≤ 4194304 ∧ 0 ≤ s.z ∧ s.z ≤ 1073741824 ∧ -262144 ≤ s.u ∧ s.u ≤ 262144 ∧ -262144 ≤ s.v ∧ s.v ≤ 262144 ∧ -262144 ≤ s.t ∧ s.t ≤ 262144
def at_ (s : Sh) (n : Int) : Sh := ⟨s.x + n * s.u, s.y + n * s.v, s.z + n * s.t - 512 * (n * (n - 1)), s.u, s.v, s.t - 1024 * n⟩
theorem sq_in {n : Int} (h0 : 0 ≤ n) (h1 : n ≤ 1024) : -1024 ≤ n * (n - 1) ∧ n * (n - 1) ≤ 1048576 := by
  have a := mul_in (a := n) (b := n) (A := 1024) (B := 1024) (by omega) (by omega)
  have b := sq_nonneg' n
  rw [Int.mul_sub, Int.mul_one]
  omega
theorem tick_f {s : Sh} (hs : Small s) {n : Int} (h0 : 0 ≤ n) (h1 : n < 1024) :
    shot_tick.f (at_ s n).x (at_ s n).y (at_ s n).z (at_ s n).u (at_ s n).v (at_ s n).t = some ((at_ s (n + 1)).x, (at_ s (n + 1)).y, (at_ s (n + 1)).z, (at_ s (n + 1)).u, (at_ s (n + 1)).v, (at_ s (n + 1)).t) := by
  unfold Small at hs
  have a := mul_in (a := n) (b := s.u) (A := 1024) (B := 262144) (by omega) (by omega)
  have b := mul_in (a := n) (b := s.v) (A := 1024) (B := 262144) (by omega) (by omega)
  have c := mul_in (a := n) (b := s.t) (A := 1024) (B := 262144) (by omega) (by omega)
  have d := sq_in h0 (by omega)
  have ea : (n + 1) * s.u = n * s.u + s.u := by rw [Int.add_mul, Int.one_mul]
  have eb : (n + 1) * s.v = n * s.v + s.v := by rw [Int.add_mul, Int.one_mul]
  have ec : (n + 1) * s.t = n * s.t + s.t := by rw [Int.add_mul, Int.one_mul]
  have ed : (n + 1) * (n + 1 - 1) = n * (n - 1) + 2 * n := by rw [show n + 1 - 1 = n by omega, Int.add_mul, Int.mul_sub]; omega
  unfold shot_tick.f at_
  dsimp only
  rw [ea, eb, ec, ed]
  generalize n * s.u = p1 at a ⊢
  generalize n * s.v = p2 at b ⊢
  generalize n * s.t = p3 at c ⊢
  generalize n * (n - 1) = p4 at d ⊢
  rw [w_in (by omega) (by omega), w_in (by omega) (by omega), w_in (by omega) (by omega), w_in (by omega) (by omega)]
  congr 1
  simp only [Prod.mk.injEq]
  refine ⟨?_, ?_, ?_, trivial, trivial, ?_⟩ <;> omega
theorem at_zero (s : Sh) : at_ s 0 = s := by unfold at_; simp
section
variable (W H Wa : Int) (l : List Int)
def fly (s : Sh) : Nat → Int → Int × Int × Sh
  | 0, _ => (1024, 0, at_ s 1024)
  | f + 1, n => if how W H Wa l (at_ s n).x (at_ s n).y (at_ s n).z = 0 then fly s f (n + 1) else (n, how W H Wa l (at_ s n).x (at_ s n).y (at_ s n).z, at_ s n)
end
variable {W H Wa : Int} {l : List Int}
theorem fly_l (hc : chk W H Wa l = 0) (hl : Bytes l) {s : Sh} (hs : Small s) (f : Nat) : ∀ (n : Int) (K : Nat), n + f = 1024 → 0 ≤ n → f + 2 ≤ K →
    shot_Fly.l0 K 1024 1024 n W H Wa l (at_ s n).x (at_ s n).y (at_ s n).z (at_ s n).u (at_ s n).v (at_ s n).t =
      some ((fly W H Wa l s f (n + 1)).1, (fly W H Wa l s f (n + 1)).2.1, (fly W H Wa l s f (n + 1)).2.2.x, (fly W H Wa l s f (n + 1)).2.2.y, (fly W H Wa l s f (n + 1)).2.2.z, (fly W H Wa l s f (n + 1)).2.2.u, (fly W H Wa l s f (n + 1)).2.2.v, (fly W H Wa l s f (n + 1)).2.2.t, 0) := by
  induction f with
  | zero =>
    intro n K h h1 hK
    obtain rfl : n = 1024 := by omega
    obtain ⟨K, rfl⟩ : ∃ m, K = m + 1 := ⟨K - 1, by omega⟩
    rw [shot_Fly.l0, if_neg (by omega)]
    rfl
  | succ f ih =>
    intro n K h h1 hK
    obtain ⟨K, rfl⟩ : ∃ m, K = m + 2 := ⟨K - 2, by omega⟩
    rw [show K + 2 = (K + 1) + 1 from rfl, shot_Fly.l0, if_pos (by omega), tick_f hs (by omega) (by omega), Option.bind_some]
    dsimp only
    rw [how_f hc hl, Option.bind_some, fly]
    by_cases hw : how W H Wa l (at_ s (n + 1)).x (at_ s (n + 1)).y (at_ s (n + 1)).z = 0
    · rw [if_pos hw, if_pos hw, w_in (by omega) (by omega), ih (n + 1) (K + 1) (by omega) (by omega) (by omega)]
    · rw [if_neg hw, if_neg hw, w_in (by omega) (by omega)]
theorem fly_on {s : Sh} (f : Nat) : ∀ n, (fly W H Wa l s f n).2.1 = 1 ∨ (fly W H Wa l s f n).2.1 = 2 → On W H (fly W H Wa l s f n).2.2.x (fly W H Wa l s f n).2.2.y := by
  induction f with
  | zero => intro n h; rw [fly] at h; simp at h
  | succ f ih =>
    intro n h
    rw [fly] at h ⊢
    by_cases hw : how W H Wa l (at_ s n).x (at_ s n).y (at_ s n).z = 0
    · rw [if_pos hw] at h ⊢; exact ih _ h
    · rw [if_neg hw] at h ⊢; exact how_on h
def allIn (lo hi : Int) (xs : List Int) : Bool := xs.all fun a => decide (lo ≤ a) && decide (a ≤ hi)
theorem within_l (lo hi : Int) : ∀ (ys pre : List Int) (K : Nat), ((pre ++ ys).length : Int) ≤ 1000 → ys.length < K →
    shot_within.l0 K lo hi (pre ++ ys) ((pre ++ ys).length : Int) (pre.length : Int) = some (allIn lo hi ys)
  | [], pre, K, hn, hK => by
    obtain ⟨K, rfl⟩ : ∃ m, K = m + 1 := ⟨K - 1, by omega⟩
    rw [shot_within.l0, if_neg (by simp)]
    rfl
  | a :: ys, pre, K, hn, hK => by
    obtain ⟨K, rfl⟩ : ∃ m, K = m + 1 := ⟨K - 1, by omega⟩
    have hlen : ((pre ++ a :: ys).length : Int) = pre.length + 1 + ys.length := by simp; omega
    have hrd : rd (pre ++ a :: ys) (pre.length : Int) = a := by unfold rd; simp
    have ih := within_l lo hi ys (pre ++ [a]) K (by simpa using hn) (by simpa using hK)
    rw [show pre ++ [a] ++ ys = pre ++ a :: ys by simp, show ((pre ++ [a]).length : Int) = pre.length + 1 by simp] at ih
    rw [shot_within.l0, if_pos (by omega), if_pos (by omega), if_pos (by omega), hrd]
    unfold allIn
    rw [List.all_cons]
    by_cases h1 : a < lo
    · rw [if_pos h1, decide_eq_false (show ¬ lo ≤ a by omega)]; rfl
    · rw [if_neg h1, decide_eq_true (show lo ≤ a by omega)]
      by_cases h2 : a > hi
      · rw [if_pos h2, decide_eq_false (show ¬ a ≤ hi by omega)]; rfl
      · rw [if_neg h2, decide_eq_true (show a ≤ hi by omega), w_in (by omega) (by omega), ih]; rfl
theorem inside_l : ∀ (ys pre : List Int) (K : Nat), ((pre ++ ys).length : Int) ≤ 1000 → ys.length < K →
    aim_inside.l0 K (pre ++ ys) ((pre ++ ys).length : Int) (pre.length : Int) = some (allIn 0 4194304 ys)
  | [], pre, K, hn, hK => by
    obtain ⟨K, rfl⟩ : ∃ m, K = m + 1 := ⟨K - 1, by omega⟩
    rw [aim_inside.l0, if_neg (by simp)]
    rfl
  | a :: ys, pre, K, hn, hK => by
    obtain ⟨K, rfl⟩ : ∃ m, K = m + 1 := ⟨K - 1, by omega⟩
    have hlen : ((pre ++ a :: ys).length : Int) = pre.length + 1 + ys.length := by simp; omega
    have hrd : rd (pre ++ a :: ys) (pre.length : Int) = a := by unfold rd; simp
    have ih := inside_l ys (pre ++ [a]) K (by simpa using hn) (by simpa using hK)
    rw [show pre ++ [a] ++ ys = pre ++ a :: ys by simp, show ((pre ++ [a]).length : Int) = pre.length + 1 by simp] at ih
    rw [aim_inside.l0, if_pos (by omega), if_pos (by omega), if_pos (by omega), hrd]
    unfold allIn
    rw [List.all_cons]
    by_cases h1 : a < 0
    · rw [if_pos h1, decide_eq_false (show ¬ 0 ≤ a by omega)]; rfl
    · rw [if_neg h1, decide_eq_true (show 0 ≤ a by omega)]
      by_cases h2 : a > 4194304
      · rw [if_pos h2, decide_eq_false (show ¬ a ≤ 4194304 by omega)]; rfl
      · rw [if_neg h2, decide_eq_true (show a ≤ 4194304 by omega), w_in (by omega) (by omega), ih]; rfl
theorem inside4 (a b c d : Int) (K : Nat) : aim_inside.f (K + 5) [a, b, c, d] = some (decide (0 ≤ a ∧ a ≤ 4194304 ∧ 0 ≤ b ∧ b ≤ 4194304 ∧ 0 ≤ c ∧ c ≤ 4194304 ∧ 0 ≤ d ∧ d ≤ 4194304)) := by
  unfold aim_inside.f
  have h := inside_l [a, b, c, d] [] (K + 5) (by simp) (by simp)
  simp only [List.nil_append, List.length_nil] at h
  rw [show ((0 : Nat) : Int) = 0 from rfl] at h
  rw [h]
  congr 1
  unfold allIn
  simp only [List.all_cons, List.all_nil, Bool.and_true]
  rw [Bool.eq_iff_iff]
  simp only [Bool.and_eq_true, decide_eq_true_eq]
  constructor <;> intro q <;> simp only [q, and_self]
theorem within1 (lo hi a : Int) (K : Nat) : shot_within.f (K + 4) lo hi [a] = some (decide (lo ≤ a ∧ a ≤ hi)) := by
  unfold shot_within.f
  have h := within_l lo hi [a] [] (K + 4) (by simp) (by simp)
  simp only [List.nil_append, List.length_nil] at h
  rw [show ((0 : Nat) : Int) = 0 from rfl] at h
  rw [h]
  congr 1
  unfold allIn
  simp only [List.all_cons, List.all_nil, Bool.and_true]
  rw [Bool.eq_iff_iff]
  simp only [Bool.and_eq_true, decide_eq_true_eq]
theorem within3 (lo hi a b c : Int) (K : Nat) : shot_within.f (K + 4) lo hi [a, b, c] = some (decide (lo ≤ a ∧ a ≤ hi ∧ lo ≤ b ∧ b ≤ hi ∧ lo ≤ c ∧ c ≤ hi)) := by
  unfold shot_within.f
  have h := within_l lo hi [a, b, c] [] (K + 4) (by simp) (by simp)
  simp only [List.nil_append, List.length_nil] at h
  rw [show ((0 : Nat) : Int) = 0 from rfl] at h
  rw [h]
  congr 1
  unfold allIn
  simp only [List.all_cons, List.all_nil, Bool.and_true]
  rw [Bool.eq_iff_iff]
  simp only [Bool.and_eq_true, decide_eq_true_eq]
  constructor <;> intro q <;> simp only [q, and_self]
theorem on_small (hc : chk W H Wa l = 0) {x y : Int} (ho : On W H x y) : 0 ≤ x ∧ x ≤ 4194304 ∧ 0 ≤ y ∧ y ≤ 4194304 := by
  have hb := (chk_zero hc).1
  unfold Bnd at hb
  unfold On at ho
  omega
theorem fly_f (hc : chk W H Wa l = 0) (hl : Bytes l) {s : Sh} (hs : Small s) (ho : On W H s.x s.y) (K : Nat) :
    shot_Fly.f (K + 1030) W H Wa l s.x s.y s.z s.u s.v s.t 1024 = some ((fly W H Wa l s 1024 1).1, (fly W H Wa l s 1024 1).2.1, (fly W H Wa l s 1024 1).2.2.x, (fly W H Wa l s 1024 1).2.2.y, (fly W H Wa l s 1024 1).2.2.z, (fly W H Wa l s 1024 1).2.2.u, (fly W H Wa l s 1024 1).2.2.v, (fly W H Wa l s 1024 1).2.2.t, 0) := by
  have h := fly_l hc hl hs 1024 0 (K + 1029) (by omega) (by omega) (by omega)
  rw [at_zero] at h
  unfold Small at hs
  unfold shot_Fly.f shot_May.f
  rw [show K + 1030 = (K + 1029) + 1 from rfl, on_f, Option.bind_some, if_pos (decide_eq_true ⟨hc, ho⟩), show K + 1029 + 1 = (K + 1026) + 4 from rfl, within1, Option.bind_some, if_pos (decide_eq_true (by omega)), within3, Option.bind_some, decide_eq_true (by omega), Option.bind_some, if_pos rfl, if_neg (by omega), decide_eq_false (by omega),
    show K + 1026 + 4 = (K + 1029) + 1 from rfl, shot_Fly.j0, if_neg (by decide), h]
  rfl
end Go.Proofs.YtbcddiaplpbhjaaDoor.Ap
namespace Go.Proofs.YtbcddiaplpbhjaaDoor.Ap
open Go Go.RowKit Go.Proofs.YtbcddiaplpbhjaaDoorW.PrintMore Go.Proofs.YtbcddiaplpbhjaaDoorW.PrintWords Go.Proofs.YtbcddiaplpbhjaaDoor.MAi
set_option linter.unusedVariables false
set_option linter.unusedSimpArgs false
theorem vel (a c : Int) (ha : -262144 ≤ a ∧ a ≤ 262144) (hc : -65536 ≤ c ∧ c ≤ 65536) : (-262144 ≤ a * c / 65536 ∧ a * c / 65536 ≤ 262144) ∧ fix_Mul.f a c = some (a * c / 65536, 0) ∧ bivouacref17_times.f a c = some (a * c / 65536) := by
  have hm := mul_in (a := a) (b := c) (A := 262144) (B := 65536) (by omega) (by omega)
  have e1 : mulDiv a c 65536 = (a * c / 65536, 0) := by
    unfold mulDiv
    rw [if_neg (by decide)]
    unfold flr
    rw [if_pos (by decide)]
    exact fitted_in (by unfold fits; omega)
  have e2 : timesS a c = a * c / 65536 := by
    unfold timesS Bg.floorS
    rw [if_pos (by unfold Bg.I64; omega)]
  refine ⟨by omega, ?_, ?_⟩
  · unfold fix_Mul.f num_MulDiv.f
    rw [if_pos (by unfold fits; omega), if_pos (by unfold fits; omega), if_pos (by unfold fits; omega), e1]
    rfl
  · unfold bivouacref17_times.f
    rw [if_pos (by unfold fits; omega), if_pos (by unfold fits; omega), e2]
theorem far_no {v : Int} (h0 : -1073741824 ≤ v) (h1 : v ≤ 1073741824) : Tg.farB v = false := by
  unfold Tg.farB; simp; omega
theorem tfar_no {v : Int} (h0 : -1073741824 ≤ v) (h1 : v ≤ 1073741824) : trig_far.f v = some false := by
  unfold trig_far.f; rw [if_neg (by omega), decide_eq_false (by omega)]
theorem headR_range (x y : Int) : 0 ≤ Tr.headR x y ∧ Tr.headR x y < 256 := (Tr.headR_best x y).1
theorem vec_f (d a : Int) (ha : -262144 ≤ a ∧ a ≤ 262144) : trig_Vec.f d a = some (a * Tr.cosA d / 65536, a * Tr.sinA d / 65536, 0) := by
  unfold trig_Vec.f trig_Cos.f trig_Sin.f
  rw [tfar_no (by omega) (by omega), Option.bind_some, if_neg (by decide), Option.bind_some, (vel a _ ha (Tr.cosA_bound d)).2.1, Option.bind_some, Option.bind_some, (vel a _ ha (Tr.sinA_bound d)).2.1, Option.bind_some]
def May (X Y x y sp k : Int) : Prop := 0 ≤ k ∧ k ≤ 64 ∧ 1 ≤ sp ∧ sp ≤ 262144 ∧ 0 ≤ X ∧ X ≤ 4194304 ∧ 0 ≤ Y ∧ Y ≤ 4194304 ∧ 0 ≤ x ∧ x ≤ 4194304 ∧ 0 ≤ y ∧ y ≤ 4194304
instance (X Y x y sp k : Int) : Decidable (May X Y x y sp k) := by unfold May; infer_instance
def flatV (sp k : Int) : Int := sp * Tr.cosA (256 * k) / 65536
def shotS (X Y Z x y sp k : Int) : Sh := ⟨X, Y, Z, flatV sp k * Tr.cosA (256 * Tr.headR (x - X) (y - Y)) / 65536, flatV sp k * Tr.sinA (256 * Tr.headR (x - X) (y - Y)) / 65536, sp * Tr.sinA (256 * k) / 65536⟩
theorem flatV_in {sp : Int} (h : 1 ≤ sp ∧ sp ≤ 262144) (k : Int) : -262144 ≤ flatV sp k ∧ flatV sp k ≤ 262144 := (vel sp _ (by omega) (Tr.cosA_bound (256 * k))).1
theorem shotS_small {X Y Z x y sp k : Int} (h : May X Y x y sp k) (hz : 0 ≤ Z ∧ Z ≤ 1073741824) : Small (shotS X Y Z x y sp k) := by
  unfold May at h
  have f := flatV_in (sp := sp) (by omega) k
  have a := (vel _ _ f (Tr.cosA_bound (256 * Tr.headR (x - X) (y - Y)))).1
  have b := (vel _ _ f (Tr.sinA_bound (256 * Tr.headR (x - X) (y - Y)))).1
  have c := (vel sp _ (by omega) (Tr.sinA_bound (256 * k))).1
  unfold Small shotS
  dsimp only
  omega
theorem shot_f {X Y x y sp k : Int} (h : May X Y x y sp k) (Z a b c : Int) (K : Nat) :
    aim_Shot.f (K + 6) X Y Z a b c x y sp k = some ((shotS X Y Z x y sp k).x, (shotS X Y Z x y sp k).y, (shotS X Y Z x y sp k).z, (shotS X Y Z x y sp k).u, (shotS X Y Z x y sp k).v, (shotS X Y Z x y sp k).t, 0) := by
  unfold May at h
  have hr := headR_range (x - X) (y - Y)
  have hhead : trig_Heading.f (x - X) (y - Y) = some (Tr.headR (x - X) (y - Y), 0) := by
    unfold trig_Heading.f
    rw [if_neg (by rw [far_no (by omega) (by omega)]; decide), if_neg (by rw [far_no (by omega) (by omega)]; decide), Tr.head_eq _ _ (by omega) (by omega)]
  unfold aim_Shot.f aim_fast.f
  rw [if_neg (by omega), if_neg (by omega), if_pos (by omega), Option.bind_some, if_pos (decide_eq_true (by omega)), show K + 6 = (K + 1) + 5 from rfl, inside4, Option.bind_some, decide_eq_true (by omega), show K + 1 + 5 = (K + 5) + 1 from rfl, aim_Shot.j0, if_neg (by decide),
    w_in (x := x - X) (by omega) (by omega), w_in (x := y - Y) (by omega) (by omega), hhead, Option.bind_some, w_in (x := k * 256) (by omega) (by omega), vec_f _ _ (by omega), Option.bind_some]
  dsimp only
  rw [Int.mul_comm k 256, w_in (x := Tr.headR (x - X) (y - Y) * 256) (by omega) (by omega), Int.mul_comm (Tr.headR (x - X) (y - Y)) 256, show sp * Tr.cosA (256 * k) / 65536 = flatV sp k from rfl, vec_f _ _ (flatV_in (sp := sp) (by omega) k), Option.bind_some]
  rfl
def hit (W H Wa : Int) (l : List Int) (s : Sh) (x y : Int) : Bool :=
  (decide ((fly W H Wa l s 1024 1).2.1 = 1) || decide ((fly W H Wa l s 1024 1).2.1 = 2)) && (decide ((fly W H Wa l s 1024 1).2.2.x / 65536 = x / 65536) && decide ((fly W H Wa l s 1024 1).2.2.y / 65536 = y / 65536))
variable {W H Wa : Int} {l : List Int}
def Asked (W H Wa : Int) (l : List Int) (X Y Z x y sp : Int) : Prop := chk W H Wa l = 0 ∧ On W H X Y ∧ On W H x y ∧ 0 ≤ Z ∧ Z ≤ 1073741824 ∧ 1 ≤ sp ∧ sp ≤ 262144
instance (W H Wa : Int) (l : List Int) (X Y Z x y sp : Int) : Decidable (Asked W H Wa l X Y Z x y sp) := by unfold Asked; infer_instance
theorem asked_may {X Y Z x y sp : Int} (h : Asked W H Wa l X Y Z x y sp) {k : Int} (h0 : 0 ≤ k) (h1 : k ≤ 64) : May X Y x y sp k := by
  obtain ⟨hc, ho, ho', _, _, s0, s1⟩ := h
  have a := on_small hc ho
  have b := on_small hc ho'
  unfold May
  omega
section
variable {X Y Z x y sp : Int}
theorem try_f (hA : Asked W H Wa l X Y Z x y sp) (hl : Bytes l) (a b c : Int) {k : Int} (h0 : 0 ≤ k) (h1 : k ≤ 64) (K : Nat) : aim_try (K + 1030) W H Wa l X Y Z a b c x y sp k = some (hit W H Wa l (shotS X Y Z x y sp k) x y) := by
  have hm := asked_may hA h0 h1
  have hs := shotS_small hm (Z := Z) ⟨hA.2.2.2.1, hA.2.2.2.2.1⟩
  unfold aim_try
  rw [show K + 1030 = (K + 1024) + 6 from rfl, shot_f hm, Option.bind_some, show K + 1024 + 6 = K + 1030 from rfl]
  dsimp only
  rw [fly_f hA.1 hl hs hA.2.1, Option.bind_some]
  rfl
end
def search (W H Wa : Int) (l : List Int) (X Y Z x y sp : Int) : Nat → Int → Option Int
  | 0, _ => none
  | f + 1, n => if hit W H Wa l (shotS X Y Z x y sp n) x y = true then some n else search W H Wa l X Y Z x y sp f (n + 1)
theorem search_in {X Y Z x y sp : Int} : ∀ (f : Nat) (n j : Int), search W H Wa l X Y Z x y sp f n = some j → n ≤ j ∧ j < n + f ∧ hit W H Wa l (shotS X Y Z x y sp j) x y = true ∧ ∀ i, n ≤ i → i < j → hit W H Wa l (shotS X Y Z x y sp i) x y = false
  | 0, n, j, h => by cases h
  | f + 1, n, j, h => by
    rw [search] at h
    by_cases q : hit W H Wa l (shotS X Y Z x y sp n) x y = true
    · rw [if_pos q] at h
      obtain rfl := Option.some.inj h
      exact ⟨Int.le_refl _, by omega, q, fun i h0 h1 => by omega⟩
    · rw [if_neg q] at h
      obtain ⟨a, b, c, d⟩ := search_in f (n + 1) j h
      refine ⟨by omega, by omega, c, fun i h0 h1 => ?_⟩
      by_cases e : i = n
      · subst e; simpa using q
      · exact d i (by omega) h1
def solveS (W H Wa : Int) (l : List Int) (X Y Z x y sp : Int) : Sh × Int × Int :=
  if Asked W H Wa l X Y Z x y sp then (match search W H Wa l X Y Z x y sp 65 0 with | some j => (shotS X Y Z x y sp j, j, 0) | none => (⟨0, 0, 0, 0, 0, 0⟩, 0, 6)) else (⟨0, 0, 0, 0, 0, 0⟩, 0, 1)
theorem first_f {X Y Z x y sp : Int} (hA : Asked W H Wa l X Y Z x y sp) (hl : Bytes l) (a b c : Int) (K' : Nat) (f : Nat) : ∀ (n : Int) (K : Nat), 0 ≤ n → n + f = 65 → f < K →
    firstO (aim_try (K' + 1030) W H Wa l X Y Z a b c x y sp) 65 K n = some (match search W H Wa l X Y Z x y sp f n with | some j => (j, true) | none => (0, false)) := by
  induction f with
  | zero =>
    intro n K h0 h hK
    obtain ⟨K, rfl⟩ : ∃ m, K = m + 1 := ⟨K - 1, by omega⟩
    rw [firstO, if_neg (by omega), search]
  | succ f ih =>
    intro n K h0 h hK
    obtain ⟨K, rfl⟩ : ∃ m, K = m + 1 := ⟨K - 1, by omega⟩
    rw [firstO, if_pos (by omega), try_f hA hl a b c h0 (by omega), Option.bind_some, search]
    by_cases q : hit W H Wa l (shotS X Y Z x y sp n) x y = true
    · rw [if_pos q, if_pos q]
    · rw [if_neg q, if_neg q, ih (n + 1) K (by omega) (by omega) (by omega)]
theorem solve_f (hl : Bytes l) (X Y Z a b c x y sp : Int) (K : Nat) :
    aim_Solve.f (K + 1030) W H Wa l X Y Z a b c x y sp = some ((solveS W H Wa l X Y Z x y sp).1.x, (solveS W H Wa l X Y Z x y sp).1.y, (solveS W H Wa l X Y Z x y sp).1.z, (solveS W H Wa l X Y Z x y sp).1.u, (solveS W H Wa l X Y Z x y sp).1.v, (solveS W H Wa l X Y Z x y sp).1.t, (solveS W H Wa l X Y Z x y sp).2.1, (solveS W H Wa l X Y Z x y sp).2.2) := by
  have hno : ¬ Asked W H Wa l X Y Z x y sp → solveS W H Wa l X Y Z x y sp = (⟨0, 0, 0, 0, 0, 0⟩, 0, 1) := fun h => by unfold solveS; rw [if_neg h]
  unfold aim_Solve.f
  rw [show K + 1030 = (K + 1029) + 1 from rfl, on_f, Option.bind_some]
  by_cases h1 : chk W H Wa l = 0 ∧ On W H X Y
  · rw [if_pos (decide_eq_true h1), on_f, Option.bind_some]
    by_cases h2 : chk W H Wa l = 0 ∧ On W H x y
    · rw [if_pos (decide_eq_true h2)]
      by_cases h3 : Z < 0
      · rw [if_pos h3, hno (fun q => by have := q.2.2.2.1; omega)]
      · rw [if_neg h3]
        by_cases h4 : Z > 1073741824
        · rw [if_pos h4, hno (fun q => by have := q.2.2.2.2.1; omega)]
        · rw [if_neg h4]
          unfold aim_fast.f
          by_cases h5 : sp ≥ 1
          · rw [if_pos h5, Option.bind_some]
            by_cases h6 : sp ≤ 262144
            · have hA : Asked W H Wa l X Y Z x y sp := ⟨h1.1, h1.2, h2.2, by omega, by omega, h5, h6⟩
              rw [if_pos (decide_eq_true h6), show K + 1029 + 1 = K + 1030 from rfl, first_f hA hl a b c K 65 0 (K + 1030) (by omega) (by omega) (by omega), Option.bind_some]
              unfold solveS
              rw [if_pos hA]
              cases hs : search W H Wa l X Y Z x y sp 65 0 with
              | none => rfl
              | some j =>
                obtain ⟨j0, j1, _⟩ := search_in 65 0 j hs
                dsimp only
                rw [if_pos rfl, show K + 1030 = (K + 1024) + 6 from rfl, shot_f (asked_may hA j0 (by omega)), Option.bind_some]
            · rw [if_neg (by simpa using h6), hno (fun q => h6 q.2.2.2.2.2.2)]
          · rw [if_neg h5, Option.bind_some, if_neg (by decide), hno (fun q => h5 q.2.2.2.2.2.1)]
    · rw [if_neg (by simpa using h2), hno (fun q => h2 ⟨q.1, q.2.2.1⟩)]
  · rw [if_neg (by simpa using h1), hno (fun q => h1 ⟨q.1, q.2.1⟩)]
noncomputable def reachS (X Y x y r : Int) : Bool := decide (0 ≤ r ∧ r ≤ 32 ∧ 0 ≤ X ∧ X ≤ 4194304 ∧ 0 ≤ Y ∧ Y ≤ 4194304 ∧ 0 ≤ x ∧ x ≤ 4194304 ∧ 0 ≤ y ∧ y ≤ 4194304 ∧ Rt.rt ((x - X) * (x - X) + (y - Y) * (y - Y)) ≤ r * 65536)
theorem rt_bound {n m : Int} (h0 : 0 ≤ n) (hm : 0 ≤ m) (h : n < m * m) : 0 ≤ Rt.rt n ∧ Rt.rt n < m := ⟨(Rt.rt_is h0).1, Rt.rt_lt h0 hm h⟩
theorem reach_in {X Y x y : Int} (h : 0 ≤ X ∧ X ≤ 4194304 ∧ 0 ≤ Y ∧ Y ≤ 4194304 ∧ 0 ≤ x ∧ x ≤ 4194304 ∧ 0 ≤ y ∧ y ≤ 4194304) :
    0 ≤ (x - X) * (x - X) ∧ (x - X) * (x - X) ≤ 17592186044416 ∧ 0 ≤ (y - Y) * (y - Y) ∧ (y - Y) * (y - Y) ≤ 17592186044416 := by
  have h1 := mul_in (a := x - X) (b := x - X) (A := 4194304) (B := 4194304) (by omega) (by omega)
  have h2 := mul_in (a := y - Y) (b := y - Y) (A := 4194304) (B := 4194304) (by omega) (by omega)
  have h3 := sq_nonneg' (x - X)
  have h4 := sq_nonneg' (y - Y)
  omega
theorem reach_f (X Y x y r : Int) (K : Nat) : aim_InReach.f (K + 5) X Y x y r = some (reachS X Y x y r) := by
  unfold aim_InReach.f reachS
  by_cases h1 : r < 0
  · rw [if_pos h1, decide_eq_false (by omega)]
  · rw [if_neg h1]
    by_cases h2 : r > 32
    · rw [if_pos h2, decide_eq_false (by omega)]
    · rw [if_neg h2, inside4, Option.bind_some]
      by_cases h3 : 0 ≤ X ∧ X ≤ 4194304 ∧ 0 ≤ Y ∧ Y ≤ 4194304 ∧ 0 ≤ x ∧ x ≤ 4194304 ∧ 0 ≤ y ∧ y ≤ 4194304
      · have hq := reach_in h3
        have hb := rt_bound (n := (x - X) * (x - X) + (y - Y) * (y - Y)) (m := 8388608) (by omega) (by decide) (by omega)
        rw [if_pos (decide_eq_true h3)]
        unfold fix_Length.f fix_Root.f
        rw [w_in (x := x - X) (by omega) (by omega), w_in (x := y - Y) (by omega) (by omega), if_neg (by omega), if_neg (by omega), if_neg (by omega), if_neg (by omega), w_in (x := (x - X) * (x - X)) (by omega) (by omega), w_in (x := (y - Y) * (y - Y)) (by omega) (by omega), w_in (x := _ + _) (by omega) (by omega), u_in (by omega) (by omega),
          if_pos (by omega), if_pos (by omega), Option.bind_some, w_in (x := Rt.rt _) (by omega) (by omega), Option.bind_some, w_in (x := r * 65536) (by omega) (by omega)]
        congr 1
        exact decide_eq_decide.2 ⟨fun q => ⟨by omega, by omega, h3.1, h3.2.1, h3.2.2.1, h3.2.2.2.1, h3.2.2.2.2.1, h3.2.2.2.2.2.1, h3.2.2.2.2.2.2.1, h3.2.2.2.2.2.2.2, q⟩, fun q => q.2.2.2.2.2.2.2.2.2.2⟩
      · rw [if_neg (by simpa using h3), decide_eq_false (by omega)]
end Go.Proofs.YtbcddiaplpbhjaaDoor.Ap
namespace Go.Proofs.YtbcddiaplpbhjaaDoor.MAi
open Go.RowKit Go.Proofs.YtbcddiaplpbhjaaDoorW.PrintWords Go.Proofs.YtbcddiaplpbhjaaDoorW.PrintLast Go.Proofs.YtbcddiaplpbhjaaDoorW.PrintMore
attribute [local go_sem] max2_int min2_int max_two min_two max_three min_three max_four min_four
set_option linter.unusedVariables false
set_option linter.unusedSimpArgs false
end Go.Proofs.YtbcddiaplpbhjaaDoor.MAi
namespace Go.Proofs.YtbcddiaplpbhjaaDoor.MAi
open Go.RowKit Go.Proofs.YtbcddiaplpbhjaaDoorW.PrintWords Go.Proofs.YtbcddiaplpbhjaaDoorW.PrintLast Go.Proofs.YtbcddiaplpbhjaaDoorW.PrintMore
attribute [local go_sem] max2_int min2_int max_two min_two max_three min_three max_four min_four
set_option linter.unusedVariables false
set_option linter.unusedSimpArgs false
end Go.Proofs.YtbcddiaplpbhjaaDoor.MAi
namespace Go.Proofs.YtbcddiaplpbhjaaDoor.MAi
open Go.RowKit Go.Proofs.YtbcddiaplpbhjaaDoorW.PrintWords Go.Proofs.YtbcddiaplpbhjaaDoorW.PrintLast Go.Proofs.YtbcddiaplpbhjaaDoorW.PrintMore
attribute [local go_sem] max2_int min2_int max_two min_two max_three min_three max_four min_four
set_option linter.unusedVariables false
set_option linter.unusedSimpArgs false
theorem eqA47 (d : Nat) (w : World) (x0 y0 : Int) (x1 y1 : Int) (x2 y2 : Int) (x3 y3 : Int) (x4 y4 : Int) (x5 y5 : Int) :
    (Op.equalIn (d + 2) 47 (.agg #[.int .i64 x0, .int .i64 x1, .int .i64 x2, .int .i64 x3, .int .i64 x4, .int .i64 x5]) (.agg #[.int .i64 y0, .int .i64 y1, .int .i64 y2, .int .i64 y3, .int .i64 y4, .int .i64 y5])).run Tryd.prog w = .ok (x0 == y0 && (x1 == y1 && (x2 == y2 && (x3 == y3 && (x4 == y4 && (x5 == y5)))))) w := by
  refine eqA_of Tryd.underlying47 (by kernel_rfl) ?_
  refine eqf_cons (by rfl) (by go_simp; rfl) (by go_simp; rfl) (by go_simp) ?_
  refine eqf_cons (by rfl) (by go_simp; rfl) (by go_simp; rfl) (by go_simp) ?_
  refine eqf_cons (by rfl) (by go_simp; rfl) (by go_simp; rfl) (by go_simp) ?_
  refine eqf_cons (by rfl) (by go_simp; rfl) (by go_simp; rfl) (by go_simp) ?_
  refine eqf_cons (by rfl) (by go_simp; rfl) (by go_simp; rfl) (by go_simp) ?_
  exact eqf_last (by rfl) (by go_simp; rfl) (by go_simp; rfl) (by go_simp)
end Go.Proofs.YtbcddiaplpbhjaaDoor.MAi
namespace Go.Proofs.YtbcddiaplpbhjaaDoor.Ap
open Go Go.RowKit Go.Proofs.YtbcddiaplpbhjaaDoorW.PrintMore Go.Proofs.YtbcddiaplpbhjaaDoorW.PrintWords Go.Proofs.YtbcddiaplpbhjaaDoor.MAi
set_option linter.unusedVariables false
set_option linter.unusedSimpArgs false
theorem flat_bytes : Bytes (List.replicate 100 0) := by
  intro z hz
  rw [(List.mem_replicate.1 hz).2]
  decide
set_option maxRecDepth 100000 in
theorem s1 : (solveS 9 9 0 (List.replicate 100 0) 0 0 65536 425984 0 32768).2 = (0, 0) := by kernel_rfl
set_option maxRecDepth 100000 in
theorem s2 : (solveS 9 9 0 (List.replicate 100 0) 0 0 0 425984 0 32768).2 = (8, 0) := by kernel_rfl
set_option maxRecDepth 100000 in
theorem s3 : (solveS 9 9 0 (List.replicate 100 0) 0 0 0 0 0 1).2 = (0, 0) := by kernel_rfl
theorem rt3 : Rt.rt ((196608 - 0) * (196608 - 0) + (0 - 0) * (0 - 0)) = 196608 := Rt.rt_eq (by decide) (by unfold Rt.isRoot; decide)
theorem r3 : reachS 0 0 196608 0 3 = true := by unfold reachS; rw [rt3]; decide
theorem r2 : reachS 0 0 196608 0 2 = false := by unfold reachS; rw [rt3]; decide
theorem awake_k (K : Nat) : bivouaclaw17_awake.f (K + 1030) = some true := by
  unfold bivouaclaw17_awake.f
  rw [solve_f flat_bytes, Option.bind_some, solve_f flat_bytes, Option.bind_some, solve_f flat_bytes, Option.bind_some, show K + 1030 = (K + 1025) + 5 from rfl, reach_f, Option.bind_some, reach_f, Option.bind_some]
  dsimp only
  rw [s1, s2, s3, r3, r2]
  rfl
theorem few_f (W H Wa : Int) (l : List Int) : bivouaclaw17_few.f W H Wa l = some (W, H, Wa, l.take 4300) := by
  unfold bivouaclaw17_few.f
  split
  · rw [if_pos (by omega)]
  · rw [List.take_of_length_le (by omega)]
theorem few_bytes {l : List Int} (h : Bytes l) (n : Nat) : Bytes (l.take n) := fun z hz => h z (List.mem_of_mem_take hz)
end Go.Proofs.YtbcddiaplpbhjaaDoor.Ap
