/- What Is and Fits do. -/
import Derived.Test.YtikhgdbbbingbaaDoorBig8
namespace Go.Proofs.YtikhgdbbbingbaaDoor.Bg
open Go Go.RowKit Go.Proofs.YtikhgdbbbingbaaDoor.Dg
set_option linter.unusedVariables false

/-- one box, held in whatever world behind -/
def Box (p : Nat) (b : Bool) (s : Value) (w : World) : Prop := w.cell? ⟨p, 0, none⟩ = some (.bool b) ∧ w.cell? ⟨p, 1, none⟩ = some s
theorem Box.below {p : Nat} {b : Bool} {s : Value} {w w2 : World} {B : Nat} (h : Box p b s w) (hp : p < B) (hb : Below B w w2) : Box p b s w2 :=
  ⟨by rw [hb.cell (p := ⟨p, 0, none⟩) hp]; exact h.1, by rw [hb.cell (p := ⟨p, 1, none⟩) hp]; exact h.2⟩
theorem Box.drewN {p : Nat} {b : Bool} {s : Value} {w : World} (h : Box p b s w) (n : Nat) : Box p b s (w.drewN n) := h
theorem box_new (w : World) (b : Bool) (s : Value) : Box w.heap.size b s (w.alloc (.cells #[.bool b, s] 38)) :=
  ⟨by rw [World.cell?_alloc_at _ _ _ _ rfl]; rfl, by rw [World.cell?_alloc_at _ _ _ _ rfl]; rfl⟩

/-- an int64's value -/
def I64 (x : Int) : Prop := -9223372036854775808 ≤ x ∧ x ≤ 9223372036854775807
instance (x : Int) : Decidable (I64 x) := by unfold I64; infer_instance
theorem sm_i64 {x : Int} (h : I64 x) : Sm x := by unfold Sm; obtain ⟨a, b⟩ := h; omega

set_option maxHeartbeats 2000000 in
theorem fitsB_any (v : Value) (x : Int) (w : World) (h : Is w v x) (s : Sm x) : Calls Tryd.prog 32 #[v] w (TellsBool w (decide (I64 x))) := by
  have HO := Lib.hid (fun a w1 (ha : I64 a) => of_any a w1 ha.1 ha.2)
  have I1 := Lib.hid (fun w1 hb => h.below (w' := w1) hb)
  have HC := Lib.hid (fun w1 r y (hy : I64 y) (h1 : Is w1 v x) (h2 : Is w1 r y) => cmpB_any v r x y w1 h1 h2 s (sm_i64 hy))
  obtain ⟨a1, c1, rfl, r1⟩ := h.form
  obtain ⟨b1, e1⟩ : ∃ b, decide (x < 0) = b := ⟨_, rfl⟩
  obtain ⟨l1, e3⟩ : ∃ b, (canon x.natAbs).length = b := ⟨_, rfl⟩
  rw [e1, e3] at I1 HC ⊢
  have HC1 := Lib.hid (fun w1 r => HC.out w1 r (-9223372036854775808) ⟨by omega, by omega⟩)
  have HC2 := Lib.hid (fun w1 r => HC.out w1 r 9223372036854775807 ⟨by omega, by omega⟩)
  have BX := Lib.hid (box_new w b1 (.slice a1 l1 c1))
  have BB := Lib.hid (show Below w.heap.size w (w.alloc (.cells #[.bool b1, .slice a1 l1 c1] 38)) from (Below.refl _ _).alloc (Nat.le_refl _) _)
  have BS := Lib.hid (show (w.alloc (.cells #[.bool b1, .slice a1 l1 c1] 38)).heap.size = w.heap.size + 1 by simp)
  by_cases g1 : -9223372036854775808 ≤ x
  · obtain ⟨cv, hcv, hp⟩ : ∃ c, cmpI x (-9223372036854775808) = c ∧ 0 ≤ c := ⟨_, rfl, by unfold cmpI; rw [if_neg (by omega)]; split <;> omega⟩
    obtain ⟨dv, hdv, hF⟩ : ∃ c, cmpI x 9223372036854775807 = c ∧ decide (I64 x) = decide (c ≤ 0) := ⟨_, rfl, by unfold cmpI I64; congr 1; apply propext; constructor <;> intro h <;> split at * <;> (try split at *) <;> omega⟩
    have HF := Lib.hid hF
    rw [hcv] at HC1
    rw [hdv] at HC2
    clear h r1 e1 e3 s hcv hdv hF g1 HC
    go_enter Tryd.func32, Tryd.ntmps32
    go_upto_region 1 with fail
    obtain ⟨W, hW⟩ : ∃ W, w.alloc (.cells #[.bool b1, .slice a1 l1 c1] 38) = W := ⟨_, rfl⟩
    rw [hW] at BX BB BS ⊢
    clear hW
    obtain ⟨x0, x1⟩ := BX.out
    go_region_held3 (fun w' => w'.cell? ⟨w.heap.size, 0, none⟩ = some (.bool b1) ∧ w'.cell? ⟨w.heap.size, 1, none⟩ = some (.slice a1 l1 c1)) (first | exact ⟨y0, y1⟩ | go_keep)
      (first
        | (go_at_call 38; refine (HC2.out _ _ (I1.out _ (BB.out.trans (B3.out.mono BB.out.size))) R3.out).mono ?_; rintro e w4 ⟨rfl, hbl⟩; have B4 := Lib.hid (B3.out.trans (hbl.mono B3.out.size)); clear y0 y1; have y00 := ((show Box w.heap.size b1 (.slice a1 l1 c1) W from BX.out).below (by have := BS.out; omega) B4.out); have y0 := y00.1; have y1 := y00.2; clear hbl y00)
        | (go_at_call 24; refine (HO.out _ _ (by decide)).mono ?_; rintro e w3 ⟨r, rfl, hi, hbl⟩; have R3 := Lib.hid hi; have B3 := Lib.hid (B2.out.trans (hbl.mono B2.out.size)); clear y0 y1; have y00 := ((show Box w.heap.size b1 (.slice a1 l1 c1) W from BX.out).below (by have := BS.out; omega) B3.out); have y0 := y00.1; have y1 := y00.2; clear hbl y00 hi)
        | (go_at_call 38; refine (HC1.out _ _ (I1.out _ (BB.out.trans (B1.out.mono BB.out.size))) R.out).mono ?_; rintro e w2 ⟨rfl, hbl⟩; have B2 := Lib.hid (B1.out.trans (hbl.mono B1.out.size)); clear y0 y1; have y00 := ((show Box w.heap.size b1 (.slice a1 l1 c1) W from BX.out).below (by have := BS.out; omega) B2.out); have y0 := y00.1; have y1 := y00.2; clear hbl y00)
        | (go_at_call 24; refine (HO.out _ _ (by decide)).mono ?_; rintro e w1 ⟨r, rfl, hi, hbl⟩; have hbl2 : Below W.heap.size W w1 := (by first | exact hbl | exact below_undrew hbl); have y00 := ((show Box w.heap.size b1 (.slice a1 l1 c1) W from BX.out).below (by have := BS.out; omega) hbl2); have y0 := y00.1; have y1 := y00.2; have R := Lib.hid hi; have B1 := Lib.hid hbl2; clear hi hbl hbl2 y00))
    go_wp2
    go_ret
    exact ⟨ret_bool HF.out.symm, BB.out.trans (B4.out.mono BB.out.size)⟩
  · have hcv : cmpI x (-9223372036854775808) = -1 := by unfold cmpI; rw [if_pos (by omega)]
    have HF := Lib.hid (show decide (I64 x) = false from decide_eq_false (fun h => g1 h.1))
    rw [hcv] at HC1
    clear h r1 e1 e3 s hcv g1 HC
    go_enter Tryd.func32, Tryd.ntmps32
    go_upto_region 1 with fail
    obtain ⟨W, hW⟩ : ∃ W, w.alloc (.cells #[.bool b1, .slice a1 l1 c1] 38) = W := ⟨_, rfl⟩
    rw [hW] at BX BB BS ⊢
    clear hW
    obtain ⟨x0, x1⟩ := BX.out
    go_region_with
      (first
        | (go_at_call 38; refine (HC1.out _ _ (I1.out _ (BB.out.trans (B1.out.mono BB.out.size))) R.out).mono ?_; rintro e w2 ⟨rfl, hbl⟩; have B2 := Lib.hid (B1.out.trans (hbl.mono B1.out.size)); clear y0 y1; have y00 := ((show Box w.heap.size b1 (.slice a1 l1 c1) W from BX.out).below (by have := BS.out; omega) B2.out); have y0 := y00.1; have y1 := y00.2; clear hbl y00)
        | (go_at_call 24; refine (HO.out _ _ (by decide)).mono ?_; rintro e w1 ⟨r, rfl, hi, hbl⟩; have hbl2 : Below W.heap.size W w1 := (by first | exact hbl | exact below_undrew hbl); have y00 := ((show Box w.heap.size b1 (.slice a1 l1 c1) W from BX.out).below (by have := BS.out; omega) hbl2); have y0 := y00.1; have y1 := y00.2; have R := Lib.hid hi; have B1 := Lib.hid hbl2; clear hi hbl hbl2 y00))
    all_goals
      go_wp2
      go_ret
      exact ⟨ret_bool HF.out.symm, BB.out.trans (B2.out.mono BB.out.size)⟩
end Go.Proofs.YtikhgdbbbingbaaDoor.Bg
