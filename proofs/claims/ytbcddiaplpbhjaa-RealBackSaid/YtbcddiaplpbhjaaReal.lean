/- What the functions on floats do: scaled, Of, Near, Bits, To. -/
import Derived.Test.YtbcddiaplpbhjaaProg
import Derived.WalkKit
import Derived.WalkSpells
import Derived.WalkLawsBesides
import Derived.Lib.Hide
import Derived.RegionTactic
import Derived.ChangeAlike
import Derived.Defers
import Derived.Recover
import Derived.Tactics2
import Derived.Laws.Externs
import Derived.Laws.FloatArith
import Derived.Laws.Pointers
import Derived.Test.YtbcddiaplpbhjaaRealPure
namespace Go.Proofs.Ytbcddiaplpbhjaa
open Go Go.RowKit Go.Proofs.Ytbcddiaplpbhjaa.Rl Ieee
set_option linter.unusedVariables false

theorem run_bits64 (n : Int) (w : World) : (callFunc 16 #[.int .u64 n]).run Try.prog w = .ok (.value (.float .f64 n.toNat)) w :=
  run_callFunc_extern (e := Extern.MathFloatBits.float64frombits) Try.func16 (by kernel_rfl) (by kernel_rfl) (by kernel_rfl) (by kernel_rfl) _ w

theorem run_floor {x : Nat} {s : Bool} {m : Nat} {e : Int} (h : double.read x = .number s m e) (w : World) :
    (callFunc 61 #[.float .f64 x]).run Try.prog w = .ok (.value (.float .f64 (double.write ((double.read x).integral .down)))) w := by
  rw [run_callFunc_extern (e := Extern.MathFloor.toIntegral "math.archFloor" .down) Try.func61 (by kernel_rfl) (by kernel_rfl) (by kernel_rfl) (by kernel_rfl) _ w]
  have hd : FloatKind.f64.decode x = .number s m e := h
  change (Sem.run Try.prog (match FloatKind.f64.decode x with
    | .nan s t =>
      if FloatKind.f64.format.quiet t = t then (pure (Value.float .f64 x) : Sem Value) else do
      let kept ← choose (.extern "math.Floor,Ceil,Trunc,RoundToEven.signallingNaN kept" 2)
      pure (Value.float .f64 (if kept == 1 then x else FloatKind.f64.encode (.nan s (FloatKind.f64.format.quiet t))))
    | d => (pure (Value.float .f64 (FloatKind.f64.encode (d.integral .down))) : Sem Value)) w).andThen _ = _
  rw [hd, h]
  rfl

theorem isNaN_any (b : Nat) (w : World) : Calls Try.prog 54 #[.float .f64 b] w fun e w' => e = .returned (.bool (double.order b b != some .eq)) ∧ w = w' := by
  go_enter Try.func54, Try.ntmps54
  go_wp2
  go_ret
  exact ⟨rfl, rfl⟩

theorem floor_any {x W : Nat} (h : ∃ s m e, double.read x = .number s m e) (hW : double.write ((double.read x).integral .down) = W) (w : World) : Calls Try.prog 55 #[.float .f64 x] w fun e w' => e = .returned (.float .f64 W) ∧ w = w' := by
  obtain ⟨s, m, e, h⟩ := h
  have hr := run_floor h
  rw [hW] at hr
  clear hW h
  go_enter Try.func55, Try.ntmps55
  go_wp2
  go_ret
  exact ⟨rfl, rfl⟩

/-- the panic of an error -/
def noP (e : Int) : PanicEntry := { v := .iface 61 (.agg #[.int .i64 e]), recovered := false }
def Panics (w : World) (c : Int) (e : Ending) (w' : World) : Prop := e = .panicked [noP c] ∧ w = w'

theorem scaled_nan (b more : Nat) (w : World) (h : (double.order b b != some .eq) = true) : Calls Try.prog 34 #[.float .f64 b, .float .f64 more] w (Panics w 14) := by
  have H := Lib.hid (isNaN_any b)
  rw [h] at H
  clear h
  go_enter Try.func34, Try.ntmps34
  go_wp2_with (go_at_call 54; refine (H.out _).mono ?_; rintro e w' ⟨rfl, rfl⟩)
  exact ⟨rfl, rfl, rfl⟩

set_option maxHeartbeats 1000000 in
theorem scaled_over (b more : Nat) (w : World) (hn : (double.order b b != some .eq) = false)
    (h : (double.order b 0xC1D0000000000000 == some .lt) = true ∨ (double.order b 0xC1D0000000000000 == some .lt) = false ∧ (double.order b 0x41D0000000000000 == some .gt || double.order b 0x41D0000000000000 == some .eq) = true) :
    Calls Try.prog 34 #[.float .f64 b, .float .f64 more] w (Panics w 8) := by
  have H := Lib.hid (isNaN_any b)
  rw [hn] at H
  clear hn
  rcases h with h1 | ⟨h1, h2⟩
  · have h1' : (FloatKind.f64.format.order b 13965662444475908096 == some .lt) = true := h1
    clear h1
    go_enter Try.func34, Try.ntmps34
    go_wp2_with (go_at_call 54; refine (H.out _).mono ?_; rintro e w' ⟨rfl, rfl⟩)
    exact ⟨rfl, rfl, rfl⟩
  · have h1' : (FloatKind.f64.format.order b 13965662444475908096 == some .lt) = false := h1
    have h2' : (FloatKind.f64.format.order b 4742290407621132288 == some .gt || FloatKind.f64.format.order b 4742290407621132288 == some .eq) = true := h2
    clear h1 h2
    go_enter Try.func34, Try.ntmps34
    go_wp2_with (go_at_call 54; refine (H.out _).mono ?_; rintro e w' ⟨rfl, rfl⟩)
    exact ⟨rfl, rfl, rfl⟩

def Ints (w : World) (v : Int) (e : Ending) (w' : World) : Prop := e = .returned (.int .i64 v) ∧ w = w'

theorem toInt_val {W : Nat} {v : Int} (h : (double.read W).toInt .zero = some v) (h0 : -9223372036854775808 ≤ v) (h1 : v ≤ 9223372036854775807) : floatToIntVal .f64 W .i64 = some v := by
  have hd : (FloatKind.f64.decode W).toInt .zero = some v := h
  unfold floatToIntVal
  rw [hd]
  exact if_pos ⟨h0, h1⟩

set_option maxHeartbeats 1000000 in
theorem scaled_down {b x W r W1 : Nat} {v : Int} {hf : Bool} (g : Goes b x W r v hf W1) (w : World) (hn : (double.order b b != some .eq) = false) (hv0 : -70368744177664 ≤ v) (hv1 : v < 70368744177664) :
    Calls Try.prog 34 #[.float .f64 b, .float .f64 0] w (Ints w v) := by
  have H := Lib.hid (isNaN_any b)
  rw [hn] at H
  have HF := Lib.hid (floor_any g.number g.floor)
  have h1 : (FloatKind.f64.format.order b 13965662444475908096 == some .lt) = false := g.low
  have h2 : (FloatKind.f64.format.order b 4742290407621132288 == some .gt || FloatKind.f64.format.order b 4742290407621132288 == some .eq) = false := g.high
  have h3 : ∀ w, (binOp .mul 27 (.float .f64 b) (.float .f64 4679240012837945344)).run Try.prog w = .ok (.float .f64 x) w := fun w => run_float_arith w .mul _ .f64 _ _ _ g.times
  have h4 : (FloatKind.f64.format.order W 4814348001659060224 == some .gt || FloatKind.f64.format.order W 4814348001659060224 == some .eq) = false := g.over
  have h5 : ∀ w, (convert 27 2 (.float .f64 W)).run Try.prog w = .ok (.int .i64 v) w := fun w => run_convert_float_int w _ _ .f64 .i64 W v (by kernel_rfl) Try.underlying2 (toInt_val g.int (by omega) (by omega))
  have h6 : (FloatKind.f64.format.order 0 0 == some .gt) = false := by decide
  clear g hn
  go_enter Try.func34, Try.ntmps34
  go_wp2_with (first
    | (go_at_call 54; refine (H.out _).mono ?_; rintro e w' ⟨rfl, rfl⟩)
    | (go_at_call 55; refine (HF.out _).mono ?_; rintro e w' ⟨rfl, rfl⟩))
  go_ret
  exact ⟨rfl, rfl⟩

set_option maxHeartbeats 2000000 in
theorem scaled_near {b x W r W1 : Nat} {v : Int} {hf : Bool} (g : Goes b x W r v hf W1) (w : World) (hn : (double.order b b != some .eq) = false) (hv0 : -70368744177664 ≤ v) (hv1 : v < 70368744177664) :
    (hf = false → Calls Try.prog 34 #[.float .f64 b, .float .f64 0x3FE0000000000000] w (Ints w v)) ∧
    (hf = true → v + 1 < 70368744177664 → Calls Try.prog 34 #[.float .f64 b, .float .f64 0x3FE0000000000000] w (Ints w (v + 1))) ∧
    (hf = true → ¬ v + 1 < 70368744177664 → Calls Try.prog 34 #[.float .f64 b, .float .f64 0x3FE0000000000000] w (Panics w 8)) := by
  have H := Lib.hid (isNaN_any b)
  rw [hn] at H
  have HF := Lib.hid (floor_any g.number g.floor)
  have h1 : (FloatKind.f64.format.order b 13965662444475908096 == some .lt) = false := g.low
  have h2 : (FloatKind.f64.format.order b 4742290407621132288 == some .gt || FloatKind.f64.format.order b 4742290407621132288 == some .eq) = false := g.high
  have h3 : ∀ w, (binOp .mul 27 (.float .f64 b) (.float .f64 4679240012837945344)).run Try.prog w = .ok (.float .f64 x) w := fun w => run_float_arith w .mul _ .f64 _ _ _ g.times
  have h4 : (FloatKind.f64.format.order W 4814348001659060224 == some .gt || FloatKind.f64.format.order W 4814348001659060224 == some .eq) = false := g.over
  have h5 : ∀ w, (convert 27 2 (.float .f64 W)).run Try.prog w = .ok (.int .i64 v) w := fun w => run_convert_float_int w _ _ .f64 .i64 W v (by kernel_rfl) Try.underlying2 (toInt_val g.int (by omega) (by omega))
  have h6 : (FloatKind.f64.format.order 4602678819172646912 0 == some .gt) = true := by decide
  have h7 : ∀ w, (binOp .sub 27 (.float .f64 x) (.float .f64 W)).run Try.prog w = .ok (.float .f64 r) w := fun w => run_float_arith w .sub _ .f64 _ _ _ g.diff
  have h9 : ∀ w, (binOp .add 27 (.float .f64 W) (.float .f64 4607182418800017408)).run Try.prog w = .ok (.float .f64 W1) w := fun w => run_float_arith w .add _ .f64 _ _ _ g.one
  have h10 : (FloatKind.f64.format.order W1 4814348001659060224 == some .gt || FloatKind.f64.format.order W1 4814348001659060224 == some .eq) = decide (70368744177664 ≤ v + 1) := g.over1
  have h11 : ∀ w, (convert 27 2 (.float .f64 W1)).run Try.prog w = .ok (.int .i64 (v + 1)) w := fun w => run_convert_float_int w _ _ .f64 .i64 W1 (v + 1) (by kernel_rfl) Try.underlying2 (toInt_val g.int1 (by omega) (by omega))
  refine ⟨?_, ?_, ?_⟩
  · rintro rfl
    have h8 : (FloatKind.f64.format.order r 4602678819172646912 == some .gt || FloatKind.f64.format.order r 4602678819172646912 == some .eq) = false := g.half
    clear g hn h9 h10 h11
    go_enter Try.func34, Try.ntmps34
    go_wp2_with (first
      | (go_at_call 54; refine (H.out _).mono ?_; rintro e w' ⟨rfl, rfl⟩)
      | (go_at_call 55; refine (HF.out _).mono ?_; rintro e w' ⟨rfl, rfl⟩))
    go_ret
    exact ⟨rfl, rfl⟩
  · rintro rfl hlt
    have h8 : (FloatKind.f64.format.order r 4602678819172646912 == some .gt || FloatKind.f64.format.order r 4602678819172646912 == some .eq) = true := g.half
    rw [decide_eq_false (by omega)] at h10
    clear g hn h4 h5
    go_enter Try.func34, Try.ntmps34
    go_wp2_with (first
      | (go_at_call 54; refine (H.out _).mono ?_; rintro e w' ⟨rfl, rfl⟩)
      | (go_at_call 55; refine (HF.out _).mono ?_; rintro e w' ⟨rfl, rfl⟩))
    go_ret
    exact ⟨rfl, rfl⟩
  · rintro rfl hlt
    have h8 : (FloatKind.f64.format.order r 4602678819172646912 == some .gt || FloatKind.f64.format.order r 4602678819172646912 == some .eq) = true := g.half
    rw [decide_eq_true (by omega)] at h10
    clear g hn h4 h5
    go_enter Try.func34, Try.ntmps34
    go_wp2_with (first
      | (go_at_call 54; refine (H.out _).mono ?_; rintro e w' ⟨rfl, rfl⟩)
      | (go_at_call 55; refine (HF.out _).mono ?_; rintro e w' ⟨rfl, rfl⟩))
    exact ⟨rfl, rfl, rfl⟩

/-- the deferred closure of Of -/
theorem of_catch (p q : Addr) (x y : Value) (c : Int) (older : List PanicEntry) (w : World) (hp : w.cell? p = some x) (hq : w.cell? q = some y) (hzp : w.frozen? p = false) (hzq : w.frozen? q = false) (hpq : p ≠ q) :
    CallsD Try.prog 33 #[.pointer (some p), .pointer (some q)] (.panicking (noP c :: older)) w fun e u' w' =>
      e = .returned (.tuple #[]) ∧ u' = .panicking ({ noP c with recovered := true } :: older) ∧ w' = ((w.setCell p (.int .i64 0)).setCell q (.int .i64 c)).drew := by
  have hta : ∀ (v : Value) (W : World), (Instr.typeAssert (.iface 61 v) 20 61 false).run Try.prog W = .ok v W := fun v W => by kernel_rfl
  have hfd : ∀ (W : World), (Instr.field 61 (.agg #[.int .i64 c]) 0).run Try.prog W = .ok (.int .i64 c) W := fun W => by kernel_rfl
  have hpq' : ∀ (W : World) (v : Value), (W.setCell p v).cell? q = W.cell? q := fun W v => World.cell?_setCell_other W p q v hpq
  have hqp' : ∀ (W : World) (v : Value), (W.setCell q v).cell? p = W.cell? p := fun W v => World.cell?_setCell_other W q p v (fun e => hpq e.symm)
  refine callsD_of_wpS Try.func33 rfl fun c₀ cs hu => ?_
  have hrep : (Array.replicate 7 undef : Array Value) = #[undef, undef, undef, undef, undef, undef, undef] := rfl
  apply wpS_seq
  apply wpS_region
  simp [wpOpsS, go_sem, recoverD, hu, Try.ntmps33, Exit.thenS, noP, hrep]
  apply wpS_seq
  apply wpS_region
  simp [wpOpsS, go_sem, Exit.thenS]
  refine wpS_cond (t := true) (by simp [Act.eval]) ?_
  simp only [if_true]
  refine wpS_of_wp ?_
  go_region
  simp [bodyPostS, results, Try.results33, go_sem]

theorem of_idle (p q : Addr) (w : World) :
    CallsD Try.prog 33 #[.pointer (some p), .pointer (some q)] .returning w fun e u' w' => e = .returned (.tuple #[]) ∧ u' = .returning ∧ w' = w := by
  refine callsD_of_wpS Try.func33 rfl fun c₀ cs hu => ?_
  have hrep : (Array.replicate 7 undef : Array Value) = #[undef, undef, undef, undef, undef, undef, undef] := rfl
  apply wpS_seq
  apply wpS_region
  simp [wpOpsS, go_sem, recoverD, hu, Try.ntmps33, Exit.thenS, hrep]
  apply wpS_seq
  apply wpS_region
  simp [wpOpsS, go_sem, Exit.thenS]
  refine wpS_cond (t := false) (by simp [Act.eval]) ?_
  simp only [Bool.false_eq_true, if_false]
  refine wpS_of_wp (wp_skip ?_)
  cases c₀
  simp_all [bodyPostS, results, Try.results33]

/-- the deferred closure of Near -/
theorem near_catch (p q : Addr) (x y : Value) (c : Int) (older : List PanicEntry) (w : World) (hp : w.cell? p = some x) (hq : w.cell? q = some y) (hzp : w.frozen? p = false) (hzq : w.frozen? q = false) (hpq : p ≠ q) :
    CallsD Try.prog 37 #[.pointer (some p), .pointer (some q)] (.panicking (noP c :: older)) w fun e u' w' =>
      e = .returned (.tuple #[]) ∧ u' = .panicking ({ noP c with recovered := true } :: older) ∧ w' = ((w.setCell p (.int .i64 0)).setCell q (.int .i64 c)).drew := by
  have hta : ∀ (v : Value) (W : World), (Instr.typeAssert (.iface 61 v) 20 61 false).run Try.prog W = .ok v W := fun v W => by kernel_rfl
  have hfd : ∀ (W : World), (Instr.field 61 (.agg #[.int .i64 c]) 0).run Try.prog W = .ok (.int .i64 c) W := fun W => by kernel_rfl
  have hpq' : ∀ (W : World) (v : Value), (W.setCell p v).cell? q = W.cell? q := fun W v => World.cell?_setCell_other W p q v hpq
  have hqp' : ∀ (W : World) (v : Value), (W.setCell q v).cell? p = W.cell? p := fun W v => World.cell?_setCell_other W q p v (fun e => hpq e.symm)
  refine callsD_of_wpS Try.func37 rfl fun c₀ cs hu => ?_
  have hrep : (Array.replicate 7 undef : Array Value) = #[undef, undef, undef, undef, undef, undef, undef] := rfl
  apply wpS_seq
  apply wpS_region
  simp [wpOpsS, go_sem, recoverD, hu, Try.ntmps37, Exit.thenS, noP, hrep]
  apply wpS_seq
  apply wpS_region
  simp [wpOpsS, go_sem, Exit.thenS]
  refine wpS_cond (t := true) (by simp [Act.eval]) ?_
  simp only [if_true]
  refine wpS_of_wp ?_
  go_region
  simp [bodyPostS, results, Try.results37, go_sem]

theorem near_idle (p q : Addr) (w : World) :
    CallsD Try.prog 37 #[.pointer (some p), .pointer (some q)] .returning w fun e u' w' => e = .returned (.tuple #[]) ∧ u' = .returning ∧ w' = w := by
  refine callsD_of_wpS Try.func37 rfl fun c₀ cs hu => ?_
  have hrep : (Array.replicate 7 undef : Array Value) = #[undef, undef, undef, undef, undef, undef, undef] := rfl
  apply wpS_seq
  apply wpS_region
  simp [wpOpsS, go_sem, recoverD, hu, Try.ntmps37, Exit.thenS, hrep]
  apply wpS_seq
  apply wpS_region
  simp [wpOpsS, go_sem, Exit.thenS]
  refine wpS_cond (t := false) (by simp [Act.eval]) ?_
  simp only [Bool.false_eq_true, if_false]
  refine wpS_of_wp (wp_skip ?_)
  cases c₀
  simp_all [bodyPostS, results, Try.results37]

/-- what Of leaves: the number and the error, and new memory alone -/
def Tells (w : World) (r : Int × Int) (e : Ending) (w' : World) : Prop := e = .returned (.tuple #[.int .i64 r.1, .int .i64 r.2]) ∧ Below w.heap.size w w'

theorem two_new (w : World) : ((w.alloc (.cells #[.int .i64 0] 2)).alloc (.cells #[.int .i64 0] 23)).cell? ⟨w.heap.size, 0, none⟩ = some (.int .i64 0) ∧ ((w.alloc (.cells #[.int .i64 0] 2)).alloc (.cells #[.int .i64 0] 23)).cell? ⟨w.heap.size + 1, 0, none⟩ = some (.int .i64 0) ∧
    ((w.alloc (.cells #[.int .i64 0] 2)).alloc (.cells #[.int .i64 0] 23)).frozen? ⟨w.heap.size, 0, none⟩ = false ∧ ((w.alloc (.cells #[.int .i64 0] 2)).alloc (.cells #[.int .i64 0] 23)).frozen? ⟨w.heap.size + 1, 0, none⟩ = false ∧
    Below w.heap.size w ((w.alloc (.cells #[.int .i64 0] 2)).alloc (.cells #[.int .i64 0] 23)) := by
  have hb : Below w.heap.size w (w.alloc (.cells #[.int .i64 0] 2)) := (Below.refl _ _).alloc (Nat.le_refl _) _
  have hb2 : Below (w.heap.size + 1) (w.alloc (.cells #[.int .i64 0] 2)) ((w.alloc (.cells #[.int .i64 0] 2)).alloc (.cells #[.int .i64 0] 23)) := (Below.refl _ _).alloc (by simp) _
  refine ⟨?_, ?_, ?_, ?_, hb.alloc (by simp) _⟩
  · rw [hb2.cell (p := ⟨w.heap.size, 0, none⟩) (by simp), World.cell?_alloc_at _ _ _ _ rfl]; rfl
  · rw [World.cell?_alloc_at _ _ _ _ (by simp)]; rfl
  · rw [hb2.frozen (p := ⟨w.heap.size, 0, none⟩) (by simp), World.frozen?_alloc_at _ _ _ _ rfl]
  · rw [World.frozen?_alloc_at _ _ _ _ (by simp)]

set_option maxHeartbeats 2000000 in
theorem of_panic (b : Nat) (c : Int) (w : World) (h : ∀ w, Calls Try.prog 34 #[.float .f64 b, .float .f64 0] w (Panics w c)) : Calls Try.prog 15 #[.float .f64 b] w (Tells w (0, c)) := by
  have H := Lib.hid h
  clear h
  have hmf : ∀ (fn : Fn) (first cap : Array Value) (w : World), (Instr.makeFunc fn first cap).run Try.prog w = .ok (.func fn first cap) w := fun _ _ _ _ => rfl
  have HS := Lib.hid (two_new w)
  go_enter_defers Try.func15, Try.ntmps15
  go_wp2_with (go_at_call 34; refine (H.out _).mono ?_; rintro e w' ⟨rfl, rfl⟩)
  obtain ⟨c0, c1, f0, f1, hb⟩ := HS.out
  refine leaves_cons (f := 33) (args := #[.pointer (some ⟨w.heap.size, 0, none⟩), .pointer (some ⟨w.heap.size + 1, 0, none⟩)]) (by simp) (by simp [go_sem]) ?_
  refine (of_catch ⟨w.heap.size, 0, none⟩ ⟨w.heap.size + 1, 0, none⟩ (.int .i64 0) (.int .i64 0) c [] _ c0 c1 f0 f1 (by simp)).mono ?_
  rintro e u' w'' ⟨rfl, rfl, rfl⟩
  simp [Leaves, settle, results, Try.results15, go_sem]
  exact ⟨rfl, (((Below.refl _ _).alloc (Nat.le_refl _) _).alloc (by simp) _).drew⟩

set_option maxHeartbeats 2000000 in
theorem of_goes (b : Nat) (v : Int) (w : World) (h : ∀ w, Calls Try.prog 34 #[.float .f64 b, .float .f64 0] w (Ints w v)) : Calls Try.prog 15 #[.float .f64 b] w (Tells w (v, 0)) := by
  have H := Lib.hid h
  clear h
  have hmf : ∀ (fn : Fn) (first cap : Array Value) (w : World), (Instr.makeFunc fn first cap).run Try.prog w = .ok (.func fn first cap) w := fun _ _ _ _ => rfl
  have HS := Lib.hid (two_new w)
  go_enter_defers Try.func15, Try.ntmps15
  go_wp2_with (go_at_call 34; refine (H.out _).mono ?_; rintro e w' ⟨rfl, rfl⟩)
  refine leaves_cons (f := 33) (args := #[.pointer (some ⟨w.heap.size, 0, none⟩), .pointer (some ⟨w.heap.size + 1, 0, none⟩)]) (by simp) (by simp [go_sem]) ?_
  refine (of_idle ⟨w.heap.size, 0, none⟩ ⟨w.heap.size + 1, 0, none⟩ _).mono ?_
  rintro e u' w'' ⟨rfl, rfl, rfl⟩
  simp [Leaves, settle, results, Try.results15, go_sem]
  exact ⟨rfl, ((Below.refl _ _).alloc (Nat.le_refl _) _).alloc (by simp) _⟩

set_option maxHeartbeats 2000000 in
theorem near_panic (b : Nat) (c : Int) (w : World) (h : ∀ w, Calls Try.prog 34 #[.float .f64 b, .float .f64 0x3FE0000000000000] w (Panics w c)) : Calls Try.prog 19 #[.float .f64 b] w (Tells w (0, c)) := by
  have H := Lib.hid h
  clear h
  have hmf : ∀ (fn : Fn) (first cap : Array Value) (w : World), (Instr.makeFunc fn first cap).run Try.prog w = .ok (.func fn first cap) w := fun _ _ _ _ => rfl
  have HS := Lib.hid (two_new w)
  go_enter_defers Try.func19, Try.ntmps19
  go_wp2_with (go_at_call 34; refine (H.out _).mono ?_; rintro e w' ⟨rfl, rfl⟩)
  obtain ⟨c0, c1, f0, f1, hb⟩ := HS.out
  refine leaves_cons (f := 37) (args := #[.pointer (some ⟨w.heap.size, 0, none⟩), .pointer (some ⟨w.heap.size + 1, 0, none⟩)]) (by simp) (by simp [go_sem]) ?_
  refine (near_catch ⟨w.heap.size, 0, none⟩ ⟨w.heap.size + 1, 0, none⟩ (.int .i64 0) (.int .i64 0) c [] _ c0 c1 f0 f1 (by simp)).mono ?_
  rintro e u' w'' ⟨rfl, rfl, rfl⟩
  simp [Leaves, settle, results, Try.results19, go_sem]
  exact ⟨rfl, (((Below.refl _ _).alloc (Nat.le_refl _) _).alloc (by simp) _).drew⟩

set_option maxHeartbeats 2000000 in
theorem near_goes (b : Nat) (v : Int) (w : World) (h : ∀ w, Calls Try.prog 34 #[.float .f64 b, .float .f64 0x3FE0000000000000] w (Ints w v)) : Calls Try.prog 19 #[.float .f64 b] w (Tells w (v, 0)) := by
  have H := Lib.hid h
  clear h
  have hmf : ∀ (fn : Fn) (first cap : Array Value) (w : World), (Instr.makeFunc fn first cap).run Try.prog w = .ok (.func fn first cap) w := fun _ _ _ _ => rfl
  have HS := Lib.hid (two_new w)
  go_enter_defers Try.func19, Try.ntmps19
  go_wp2_with (go_at_call 34; refine (H.out _).mono ?_; rintro e w' ⟨rfl, rfl⟩)
  refine leaves_cons (f := 37) (args := #[.pointer (some ⟨w.heap.size, 0, none⟩), .pointer (some ⟨w.heap.size + 1, 0, none⟩)]) (by simp) (by simp [go_sem]) ?_
  refine (near_idle ⟨w.heap.size, 0, none⟩ ⟨w.heap.size + 1, 0, none⟩ _).mono ?_
  rintro e u' w'' ⟨rfl, rfl, rfl⟩
  simp [Leaves, settle, results, Try.results19, go_sem]
  exact ⟨rfl, ((Below.refl _ _).alloc (Nat.le_refl _) _).alloc (by simp) _⟩


/-- a float's bits: a number below 2 ^ 64 -/
theorem of_any (b : Nat) (hb : b < 2 ^ 64) (w : World) : Calls Try.prog 15 #[.float .f64 b] w (Tells w (ofS b)) := by
  have hn := isnan_order b hb
  rcases read_cases b hb with ⟨s, m, e, h, h1, h2, h3, h4, _⟩ | ⟨s, h, _⟩ | ⟨s, t, h, _⟩
  · have hn' : (double.order b b != some .eq) = false := by rw [hn, h]; rfl
    unfold ofS
    rw [h]
    by_cases hr : -70368744177664 ≤ fl s m (e + 16) ∧ fl s m (e + 16) < 70368744177664
    · obtain ⟨x, W, r, W1, g⟩ := goes h h1 h2 h4 hr.1 hr.2
      simp only [hr, and_self, if_true]
      exact of_goes b _ w fun w => scaled_down g w hn' hr.1 hr.2
    · simp only [hr, if_false]
      exact of_panic b 8 w fun w => scaled_over b 0 w hn' (goes_not h h2 hr)
  · have hn' : (double.order b b != some .eq) = false := by rw [hn, h]; rfl
    unfold ofS
    rw [h]
    obtain ⟨i1, i2⟩ := inf_order h
    refine of_panic b 8 w fun w => scaled_over b 0 w hn' ?_
    rw [i1, i2]
    cases s
    · exact .inr ⟨rfl, rfl⟩
    · exact .inl rfl
  · unfold ofS
    rw [h]
    exact of_panic b 14 w fun w => scaled_nan b 0 w (by rw [hn, h]; rfl)

theorem near_any (b : Nat) (hb : b < 2 ^ 64) (w : World) : Calls Try.prog 19 #[.float .f64 b] w (Tells w (nearS b)) := by
  have hn := isnan_order b hb
  rcases read_cases b hb with ⟨s, m, e, h, h1, h2, h3, h4, _⟩ | ⟨s, h, _⟩ | ⟨s, t, h, _⟩
  · have hn' : (double.order b b != some .eq) = false := by rw [hn, h]; rfl
    unfold nearS
    rw [h]
    by_cases hr : -70368744177664 ≤ fl s m (e + 16) ∧ fl s m (e + 16) < 70368744177664
    · obtain ⟨x, W, r, W1, g⟩ := goes h h1 h2 h4 hr.1 hr.2
      simp only [hr, and_self, if_true]
      unfold up
      by_cases hh : fl s m (e + 17) - 2 * fl s m (e + 16) = 1
      · rw [decide_eq_true hh] at g
        simp only [hh, if_true]
        by_cases ho : fl s m (e + 16) + 1 < 70368744177664
        · simp only [ho, if_true]
          exact near_goes b _ w fun w => (scaled_near g w hn' hr.1 hr.2).2.1 rfl ho
        · simp only [ho, if_false]
          exact near_panic b 8 w fun w => (scaled_near g w hn' hr.1 hr.2).2.2 rfl ho
      · rw [decide_eq_false hh] at g
        simp only [hh, if_false, hr.2, if_true]
        exact near_goes b _ w fun w => (scaled_near g w hn' hr.1 hr.2).1 rfl
    · simp only [hr, if_false]
      exact near_panic b 8 w fun w => scaled_over b _ w hn' (goes_not h h2 hr)
  · have hn' : (double.order b b != some .eq) = false := by rw [hn, h]; rfl
    unfold nearS
    rw [h]
    obtain ⟨i1, i2⟩ := inf_order h
    refine near_panic b 8 w fun w => scaled_over b _ w hn' ?_
    rw [i1, i2]
    cases s
    · exact .inr ⟨rfl, rfl⟩
    · exact .inl rfl
  · unfold nearS
    rw [h]
    exact near_panic b 14 w fun w => scaled_nan b _ w (by rw [hn, h]; rfl)

theorem run_float_bits (b : Nat) (w : World) : (callFunc 22 #[.float .f64 b]).run Try.prog w = .ok (.value (.int .u64 b)) w :=
  run_callFunc_extern (e := Extern.MathFloatBits.float64bits) Try.func22 (by kernel_rfl) (by kernel_rfl) (by kernel_rfl) (by kernel_rfl) _ w
theorem floatOf (v : Int) : floatOfInt .f64 v = double.nearest (decide (v < 0)) v.natAbs 0 := rfl
theorem run_by_one (v : Int) (h : v.natAbs < 2 ^ 53) (w : World) : (binOp .quo 27 (.float .f64 (floatOfInt .f64 v)) (.float .f64 4679240012837945344)).run Try.prog w = .ok (.float .f64 (toS v)) w :=
  run_float_arith w .quo _ .f64 _ _ _ (by show double.div _ _ = _; rw [floatOf]; exact toS_some v h)

def TellsF (w : World) (b : Nat) (c : Int) (e : Ending) (w' : World) : Prop := e = .returned (.tuple #[.float .f64 b, .int .i64 c]) ∧ w = w'
theorem to_over (v : Int) (w : World) (h : v < -70368744177664 ∨ 70368744177664 ≤ v) : Calls Try.prog 21 #[.int .i64 v] w (TellsF w 0 8) := by
  by_cases h1 : v < -70368744177664
  · go_enter Try.func21, Try.ntmps21
    go_wp2
    go_ret2
    exact ⟨rfl, rfl⟩
  · have h2 : 70368744177664 ≤ v := by omega
    clear h
    go_enter Try.func21, Try.ntmps21
    go_wp2
    go_ret2
    exact ⟨rfl, rfl⟩
theorem to_any (v : Int) (w : World) (h0 : -70368744177664 ≤ v) (h1 : v < 70368744177664) : Calls Try.prog 21 #[.int .i64 v] w (TellsF w (toS v) 0) := by
  have hq := run_by_one v (by omega)
  go_enter Try.func21, Try.ntmps21
  go_wp2
  go_ret2
  exact ⟨rfl, rfl⟩

theorem bits_any (n : Int) (h0 : 0 ≤ n) (h1 : n ≤ 18446744073709551615) (w : World) : Calls Try.prog 14 #[.int .u64 n] w (Tells w (ofS n.toNat)) := by
  have H := Lib.hid (fun w => of_any n.toNat (by omega) w)
  have hb := run_bits64 n
  obtain ⟨r, hr⟩ : ∃ r, ofS n.toNat = r := ⟨_, rfl⟩
  rw [hr] at H ⊢
  clear hr
  go_enter Try.func14, Try.ntmps14
  go_wp2_with (go_at_call 15; refine (H.out _).mono ?_; rintro e w' ⟨rfl, hbl⟩; have HB := Lib.hid hbl; clear hbl)
  go_ret2
  exact ⟨rfl, HB.out⟩

set_option maxHeartbeats 1000000 in
theorem awake4_any (w : World) : Calls Try.prog 18 #[] w fun e w' => e = .returned (.bool true) ∧ Below w.heap.size w w' := by
  have H1 := Lib.hid (fun w => of_any 4609434218613702656 (by omega) w)
  rw [show ofS 4609434218613702656 = (98304, 0) by decide +kernel] at H1
  have H2 := Lib.hid (fun w => of_any 13755392620465711345 (by omega) w)
  rw [show ofS 13755392620465711345 = (-1, 0) by decide +kernel] at H2
  have H3 := Lib.hid (fun w => of_any 4742290407621132288 (by omega) w)
  rw [show ofS 4742290407621132288 = (0, 8) by decide +kernel] at H3
  have H4 := Lib.hid (fun w => of_any 13965662444475908096 (by omega) w)
  rw [show ofS 13965662444475908096 = (-70368744177664, 0) by decide +kernel] at H4
  have H5 := Lib.hid (fun w => bits_any 9221120237041090560 (by omega) (by omega) w)
  rw [show ofS (9221120237041090560 : Int).toNat = (0, 14) by decide +kernel] at H5
  have H6 := Lib.hid (fun w => near_any 4530621225134718976 (by omega) w)
  rw [show nearS 4530621225134718976 = (1, 0) by decide +kernel] at H6
  have H7 := Lib.hid (fun w => near_any 13753993261989494784 (by omega) w)
  rw [show nearS 13753993261989494784 = (0, 0) by decide +kernel] at H7
  go_enter Try.func18, Try.ntmps18
  go_wp2_with fail
  refine (H1.out _).mono ?_
  rintro e w1 ⟨rfl, hb⟩
  have B1 := Lib.hid hb; clear hb
  go_wp2_with fail
  refine (H2.out _).mono ?_
  rintro e w2 ⟨rfl, hb⟩
  have B2 := Lib.hid (B1.out.trans (hb.mono B1.out.size)); clear hb
  go_wp2_with fail
  refine (H3.out _).mono ?_
  rintro e w3 ⟨rfl, hb⟩
  have B3 := Lib.hid (B2.out.trans (hb.mono B2.out.size)); clear hb
  go_wp2_with fail
  refine (H4.out _).mono ?_
  rintro e w4 ⟨rfl, hb⟩
  have B4 := Lib.hid (B3.out.trans (hb.mono B3.out.size)); clear hb
  go_wp2_with fail
  refine (H5.out _).mono ?_
  rintro e w5 ⟨rfl, hb⟩
  have B5 := Lib.hid (B4.out.trans (hb.mono B4.out.size)); clear hb
  go_wp2_with fail
  refine (H6.out _).mono ?_
  rintro e w6 ⟨rfl, hb⟩
  have B6 := Lib.hid (B5.out.trans (hb.mono B5.out.size)); clear hb
  go_wp2_with fail
  refine (H7.out _).mono ?_
  rintro e w7 ⟨rfl, hb⟩
  have B7 := Lib.hid (B6.out.trans (hb.mono B6.out.size)); clear hb
  go_wp2
  go_ret
  exact ⟨rfl, B7.out⟩
end Go.Proofs.Ytbcddiaplpbhjaa
