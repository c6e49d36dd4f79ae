/- What plus, minus, sizes and Of do. -/
import Derived.Test.YtikhgdbbbingbaaDoorBig
namespace Go.Proofs.YtikhgdbbbingbaaDoor.Bg
open Go Go.RowKit Go.Proofs.YtikhgdbbbingbaaDoor.Dg
set_option linter.unusedVariables false

theorem info3 : (Tryd.prog.info? 3).map (fun i => (i.zero, i.size, i.bytes)) = some (some (.int .i64 0), 1, 8) := by kernel_rfl

theorem plus_inv {acc d1 d2 : List Int} {k : Nat} {c x y s V : Int} (hl : acc.length = k) (hx : d1.getD k 0 = x) (hy : d2.getD k 0 = y) (hs : s = x + y + c)
    (h : val acc + pw k * (c + val (d1.drop k) + val (d2.drop k)) = V) : val (acc ++ [s % 1000]) + pw (k + 1) * (s / 1000 + val (d1.drop (k + 1)) + val (d2.drop (k + 1))) = V := by
  rw [val_snoc, hl, ← h, val_drop d1 k, val_drop d2 k, hx, hy, add_step (pw k) c x y _ _ s hs, pw]
  omega

theorem ok_snoc {acc : List Int} {x : Int} (h : ok acc) (h0 : 0 ≤ x) (h1 : x ≤ 999) : ok (acc ++ [x]) :=
  ok_append.2 ⟨h, ok_cons.2 ⟨⟨h0, h1⟩, ok_nil⟩⟩

theorem own_snoc {w1 : World} {B n : Nat} {E : TypeId} {v : Value} {acc : List Int} {x : Int} (h : w1.ownsRow B E 1 v (n + 1) (acc.map (Value.int .i64) ++ [.int .i64 x])) : w1.ownsRow B E 1 v (n + 1) ((acc ++ [x]).map (Value.int .i64)) := by
  rw [List.map_append]; exact h

theorem below_app {w wr w1 : World} {B : Nat} {o : Obj} {v : Value} {E : TypeId} {n : Nat} {xs : List Value} (hb : Below B w wr) (hs : B ≤ wr.heap.size) (hown : wr.ownsRow B E 1 v n xs) (hg : (wr.alloc o).grownBy w1 v.ownBlock) : Below B w w1 :=
  (hb.alloc hs o).grown hg (by simp; omega) (fun j hj => (hown.lt j hj).1)

/-- append of one number to a slice of the call's own -/
theorem app_int {ops : Array Oper} {rest : List Oper} {o : Oper} {a : Act} {Q : Exit → Act → World → Prop} (hgd : o.guard = none) (s x : Operand)
    (ho : o.op = .call { callee := .builtin .append, args := #[s, x], argTypes := #[36, 36] }) (B : Nat) (v : Value) (n : Nat) (acc : List Int) (z : Int) (wr : World)
    (hs : a.eval s = v) (hown : wr.ownsRow B 3 1 v n (acc.map (Value.int .i64))) (hx : a.eval x = .slice (some ⟨wr.heap.size, 0, none⟩) 1 1) (hn : n ≤ 1000000000) (hB : B ≤ wr.heap.size)
    (h : ∀ v' w', w'.ownsRow B 3 1 v' (n + 1) ((acc ++ [z]).map (Value.int .i64)) → (wr.alloc (.cells #[.int .i64 z] 3)).grownBy w' v.ownBlock → wpList Tryd.prog ops Q rest (a.put o.dst v') w') :
    wpList Tryd.prog ops Q (o :: rest) a (wr.alloc (.cells #[.int .i64 z] 3)) := by
  obtain ⟨i0, hi, hz0, hz1, hz2⟩ := info_parts info3
  refine wpList_append_own _ hgd s x 36 ho B 3 i0 (.int .i64 0) 1 8 Tryd.underlying36 hi hz0 hz1 hz2 rfl (by decide) v n _ hs (hown.alloc _) ⟨wr.heap.size, 0, none⟩ 1 1 [.int .i64 z] hx rfl ?_ ?_ (by unfold maxLen; omega) (by omega) (by simp; omega) ?_
  · intro j u hj
    match j, hj with
    | 0, hj => simp at hj; subst hj; simp [Addr.add]
    | j + 1, hj => simp at hj
  · intro u hu; simp at hu; subst hu; rfl
  · intro v' w' h1 h2 _
    exact h v' w' (by rw [List.map_append]; exact h1) h2

/-- digits that are told, in new memory, that stand for V -/
def Told (w : World) (V : Int) (L : Nat) (e : Ending) (w' : World) : Prop := ∃ r ds, e = .returned r ∧ Reads w' r ds ∧ ok ds ∧ val ds = V ∧ ds.length ≤ L ∧ Below w.heap.size w w'

set_option maxRecDepth 100000 in
set_option maxHeartbeats 2000000 in
theorem plus_any (v1 v2 : Value) (d1 d2 : List Int) (w : World) (h1 : Reads w v1 d1) (h2 : Reads w v2 d2) (o1 : ok d1) (o2 : ok d2) (l1 : d1.length ≤ 1000000) (l2 : d2.length ≤ 1000000) :
    Calls Tryd.prog 39 #[v1, v2] w (Told w (val d1 + val d2) (d1.length + d2.length + 1)) := by
  have R1 := Lib.hid h1
  have R2 := Lib.hid h2
  obtain ⟨a1, c1, rfl, hc1⟩ := h1.len
  obtain ⟨a2, c2, rfl, hc2⟩ := h2.len
  obtain ⟨m1, hm1⟩ : ∃ m, d1.length = m := ⟨_, rfl⟩
  obtain ⟨m2, hm2⟩ : ∃ m, d2.length = m := ⟨_, rfl⟩
  rw [hm1] at R1 l1 hc1 ⊢
  rw [hm2] at R2 l2 hc2 ⊢
  have L1 := Lib.hid hm1
  have L2 := Lib.hid hm2
  clear hm1 hm2 h1 h2
  go_enter Tryd.func39, Tryd.ntmps39
  go_wp2
  go_loopw [5, 6, 7] (fun d cy i wr => ∃ (k : Nat) (acc : List Int) (c : Int), i = .int .i64 k ∧ cy = .int .i64 c ∧ 0 ≤ c ∧ c ≤ 1 ∧ (k ≤ m1 + 1 ∨ k ≤ m2 + 1) ∧ Hid (m1 + 1 ≤ k ∧ m2 + 1 ≤ k → c = 0) ∧
      Hid (wr.ownsRow w.heap.size 3 1 d k (acc.map (Value.int .i64))) ∧ Hid (acc.length = k) ∧ Hid (ok acc) ∧ Hid (val acc + pw k * (c + val (d1.drop k) + val (d2.drop k)) = val d1 + val d2) ∧ Hid (Below w.heap.size w wr))
    (fun _ _ i _ => m1 + m2 + 2 - (intOf i).toNat)
  case atStart => exact ⟨0, [], 0, rfl, rfl, by omega, by omega, by omega, (by show _ → _; omega), World.ownsRow_nil _ _ _ _, rfl, ok_nil, (by show _ = _; simp [val, pw]), Below.refl _ _⟩
  case round =>
    obtain ⟨k, acc, c, rfl, rfl, c0, cc1, hk, HC, HO, HL, HA, HV, HB⟩ := hrel
    by_cases hgo : k < m1 ∨ k < m2 ∨ 0 < c
    · have A1 := Lib.hid (at_any _ d1 k wr (R1.out.below HB.out) (by omega))
      have A2 := Lib.hid (at_any _ d2 k wr (R2.out.below HB.out) (by omega))
      have hx := ok_getD o1 k
      have hy := ok_getD o2 k
      have hlast : Hid (m1 ≤ k ∧ m2 ≤ k → d1.getD k 0 = 0 ∧ d2.getD k 0 = 0) := fun ⟨e1, e2⟩ => by
        have q1 := L1.out
        have q2 := L2.out
        rw [List.getD_eq_getElem?_getD, List.getD_eq_getElem?_getD, List.getElem?_eq_none (by omega), List.getElem?_eq_none (by omega)]; exact ⟨rfl, rfl⟩
      obtain ⟨x, hxe⟩ : ∃ x, d1.getD k 0 = x := ⟨_, rfl⟩
      obtain ⟨y, hye⟩ : ∃ y, d2.getD k 0 = y := ⟨_, rfl⟩
      rw [hxe] at A1 hx hlast
      rw [hye] at A2 hy hlast
      have X := Lib.hid hxe
      have Y := Lib.hid hye
      clear hxe hye o1 o2
      have hk2 : k ≤ m1 ∨ k ≤ m2 := by
        rcases hk with h | h
        · by_cases e : k = m1 + 1
          · by_cases e2 : k ≤ m2
            · exact Or.inr e2
            · have := HC.out ⟨by omega, by omega⟩; omega
          · exact Or.inl (by omega)
        · by_cases e : k = m2 + 1
          · by_cases e2 : k ≤ m1
            · exact Or.inl e2
            · have := HC.out ⟨by omega, by omega⟩; omega
          · exact Or.inr (by omega)
      by_cases t1 : k < m1
      all_goals
        by_cases t2 : k < m2
        all_goals
          first
          | (exfalso; have := HC.out; omega)
          | skip
          (try have t3 : 0 < c := by omega)
          clear hgo
          go_wp2_with (first
            | (go_at_call 34; (first | (with_reducible refine A1.out.mono ?_) | (with_reducible refine A2.out.mono ?_)); rintro e w' ⟨rfl, rfl⟩)
            | (at_builtin; refine app_int rfl (.tmp 34) (.tmp 37) rfl w.heap.size u5 k acc ((x + y + c) % 1000) wr rfl HO.out rfl (by omega) HB.out.size ?_; intro v' w1 hown hgrow; have O1 := Lib.hid hown; have B1 := Lib.hid (below_app HB.out HB.out.size HO.out hgrow); clear hown hgrow))
          go_roundw
          case rel => exact ⟨k + 1, acc ++ [(x + y + c) % 1000], (x + y + c) / 1000, by go_num, rfl, by omega, by omega, by omega, (by show _ → _; intro h; have := hlast.out; omega), O1.out, (by show _ = _; rw [List.length_append, HL.out]; rfl), ok_snoc HA.out (by omega) (by omega), plus_inv HL.out X.out Y.out rfl HV.out, B1.out⟩
          case measure => simp [intOf]; omega
    · have t1 : ¬ k < m1 := by omega
      have t2 : ¬ k < m2 := by omega
      have hc0 : c = 0 := by omega
      have HF := Lib.hid (show val acc = val d1 + val d2 by
        have h := HV.out
        have q1 := L1.out
        have q2 := L2.out
        rw [val_drop_end d1 k (by omega), val_drop_end d2 k (by omega), hc0] at h
        simpa using h)
      have hle : k ≤ m1 + 1 ∨ k ≤ m2 + 1 := hk
      have HQ := Lib.hid hle
      subst hc0
      clear hgo hk hle
      go_wp2
      go_ret
      exact ⟨_, acc, rfl, reads_own HO.out HL.out, HA.out, HF.out, by rw [HL.out]; have := HQ.out; omega, HB.out⟩
end Go.Proofs.YtikhgdbbbingbaaDoor.Bg
