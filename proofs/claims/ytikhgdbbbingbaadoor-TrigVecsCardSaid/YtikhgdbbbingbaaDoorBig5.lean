/- What Minus, Add and Sub do. -/
import Derived.Test.YtikhgdbbbingbaaDoorBig4
import Derived.Deep.RegionWith
import Derived.Deep.DeepCutAuto
import Derived.Deep.CutBlock
namespace Go.Proofs.YtikhgdbbbingbaaDoor.Bg
open Go Go.RowKit Go.Proofs.YtikhgdbbbingbaaDoor.Dg
set_option linter.unusedVariables false

theorem bcell {W w1 : World} (hb : Below W.heap.size W w1) : (∀ b o, b < W.heap.size → w1.cell? ⟨b, o, none⟩ = W.cell? ⟨b, o, none⟩) ∧ (∀ b o, b < W.heap.size → w1.frozen? ⟨b, o, none⟩ = W.frozen? ⟨b, o, none⟩) :=
  ⟨fun b o h => hb.cell (p := ⟨b, o, none⟩) h, fun b o h => hb.frozen (p := ⟨b, o, none⟩) h⟩

/-- not too great for this text -/
def Sm (x : Int) : Prop := -1000000000000000000000000000000000000000000000000000000000000 < x ∧ x < 1000000000000000000000000000000000000000000000000000000000000
theorem Sm.len {x : Int} (h : Sm x) : (canon x.natAbs).length ≤ 20 := canon_len _ 20 (by
  have e : pw 20 = 1000000000000000000000000000000000000000000000000000000000000 := by decide
  have := h.1; have := h.2
  omega)

theorem Is.form {w : World} {v : Value} {x : Int} (h : Is w v x) : ∃ a cap, v = .agg #[.bool (decide (x < 0)), .slice a (canon x.natAbs).length cap] ∧ Reads w (.slice a (canon x.natAbs).length cap) (canon x.natAbs) := by
  obtain ⟨s, rfl, hr⟩ := h
  obtain ⟨a, cap, rfl, _⟩ := hr.len
  exact ⟨a, cap, rfl, hr⟩

theorem res_big {fn : Func} {t B : Nat} {tmps : Array Value} {W : World} {x y : Value} (h : fn.results = #[.cell t 38]) (hp : tmps.getD t undef = .pointer (some ⟨B, 0, none⟩))
    (c : W.cell? ⟨B, 0, none⟩ = some x ∧ W.cell? ⟨B, 1, none⟩ = some y) : (results fn tmps).run Tryd.prog W = .ok (.agg #[x, y]) W := by
  have hp' : tmps[t]?.getD undef = .pointer (some ⟨B, 0, none⟩) := by simpa using hp
  simp [results, h, hp', go_sem, c.1, c.2]

theorem tells_put2 {w w2 : World} {B : Nat} {z : Int} {sa : Option Addr} {scp : Nat} {u v : Value} (hr : Reads w2 (.slice sa (canon z.natAbs).length scp) (canon z.natAbs)) (h0 : w2.cell? ⟨B, 0, none⟩ = some u) (h1 : w2.cell? ⟨B, 1, none⟩ = some v)
    (hu : ∀ z, u ≠ .int .i64 z) (hv : ∀ z, v ≠ .int .i64 z) (hb : Below w.heap.size w w2) (hB : w.heap.size ≤ B) :
    TellsBig w z (.returned (.agg #[.bool (decide (z < 0)), .slice sa (canon z.natAbs).length scp])) (put2 w2 B (.bool (decide (z < 0))) (.slice sa (canon z.natAbs).length scp)) :=
  ⟨_, rfl, Is.keeps ⟨_, rfl, hr⟩ (put2_keeps h0 h1 hu hv), put2_below hb hB⟩

theorem nb (b : Bool) : ∀ z, (Value.bool b) ≠ .int .i64 z := fun z h => by cases h
theorem ns (a : Option Addr) (l c : Nat) : ∀ z, (Value.slice a l c) ≠ .int .i64 z := fun z h => by cases h

theorem zero_at (w : World) (B : Nat) (h : B = w.heap.size) : (w.alloc (.cells #[.bool false, .slice none 0 0] 38)).cell? ⟨B, 0, none⟩ = some (.bool false) ∧ (w.alloc (.cells #[.bool false, .slice none 0 0] 38)).cell? ⟨B, 1, none⟩ = some (.slice none 0 0) := by
  subst h
  exact ⟨by rw [World.cell?_alloc_at _ _ _ _ rfl]; rfl, by rw [World.cell?_alloc_at _ _ _ _ rfl]; rfl⟩

set_option maxHeartbeats 1000000 in
theorem minusB_any (v : Value) (x : Int) (w : World) (h : Is w v x) (hs : Sm x) : Calls Tryd.prog 37 #[v] w (TellsBig w (-x)) := by
  obtain ⟨a, cap, rfl, hr⟩ := h.form
  have hl := hs.len
  obtain ⟨b0, hb0⟩ : ∃ b, decide (x < 0) = b := ⟨_, rfl⟩
  have B0 := Lib.hid hb0
  have HT := Lib.hid (fun w (hr : Reads w (.slice a (canon x.natAbs).length cap) (canon x.natAbs)) => trim_any (!b0) (.slice a (canon x.natAbs).length cap) (canon x.natAbs) w hr (canon_ok _) (by omega))
  have HV := Lib.hid (show sgn (!b0) (val (canon x.natAbs)) = -x by
    rw [val_canon, ← hb0]; unfold sgn
    by_cases h : x < 0
    · rw [decide_eq_true h]; simp; omega
    · rw [decide_eq_false h]; simp; omega)
  rw [HV.out] at HT
  rw [hb0]
  obtain ⟨z, hz⟩ : ∃ z, -x = z := ⟨_, rfl⟩
  rw [hz] at HT ⊢
  obtain ⟨n, hn⟩ : ∃ n, (canon x.natAbs).length = n := ⟨_, rfl⟩
  rw [hn] at HT hr ⊢
  have HR := Lib.hid (fun w1 hb => hr.below (w' := w1) hb)
  clear hr h hn hb0 hl hz HV
  have bw : Below w.heap.size w ((w.alloc (.cells #[.bool b0, .slice a n cap] 38)).alloc (.cells #[.bool false, .slice none 0 0] 38)) := ((Below.refl _ _).alloc (Nat.le_refl _) _).alloc (by simp) _
  have BW := Lib.hid bw
  have Z := Lib.hid (zero_at (w.alloc (.cells #[.bool b0, .slice a n cap] 38)) (w.heap.size + 1) (by simp))
  clear bw
  go_enter Tryd.func37, Tryd.ntmps37
  go_wp2_with (go_at_call 30; refine (HT.out _ (HR.out _ BW.out)).mono ?_; rintro e w2 ⟨r, rfl, hIs, hbl⟩; obtain ⟨sa, scp, rfl, hrd⟩ := hIs.form; obtain ⟨c1, f1⟩ := bcell hbl; have RD := Lib.hid hrd; have BL := Lib.hid hbl; clear hrd hbl hIs)
  have k0 := (BL.out.cell (p := ⟨w.heap.size + 1, 0, none⟩) (by simp)).trans Z.out.1
  have k1 := (BL.out.cell (p := ⟨w.heap.size + 1, 1, none⟩) (by simp)).trans Z.out.2
  exact bodyPost_ret (res_big Tryd.results37 rfl (put2_cells k0 k1)) rfl (tells_put2 RD.out k0 k1 (nb _) (ns _ _ _) (BW.out.trans (BL.out.mono BW.out.size)) (by omega))
end Go.Proofs.YtikhgdbbbingbaaDoor.Bg
