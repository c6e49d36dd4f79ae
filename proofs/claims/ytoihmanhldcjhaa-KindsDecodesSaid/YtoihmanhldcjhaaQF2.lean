/- What the claim's proof leans on: texts of this claim, laid together. -/
import Derived.Test.YtoihmanhldcjhaaQF1
import Derived.Test.YtoihmanhldcjhaaProg
import Derived.ProofKit
import Derived.OpenShut
import Derived.ChangeSlices
import Derived.Calls
import Derived.Laws.CopyRow
import Derived.Laws.Cells
import Derived.Laws.World
import Derived.Laws.Entries
import Derived.Laws.Build
import Derived.Laws.StructEq
import Derived.Laws.Tables
import Derived.Laws.MakeOwn
import Derived.Laws.Slices
import Derived.Great.BuildSlice
import Derived.Deep.AppendSrc
import Derived.Deep.Upon
import Derived.Tactics
import Derived.LoopN
import Derived.KernelRfl
import Derived.Orders
import Derived.Recover
import Derived.Below
namespace Go.Proofs.Ytoihmanhldcjhaa
open Go Go.RowKit Go.ChangeShapes Go.WideShapes
set_option linter.unusedVariables false
set_option linter.unusedSimpArgs false
inductive Leaf where
  | int (k : IntKind) | bool | other (t : TypeId)
def gleavesF (P : Program) (L : TypeId → Option (List Leaf)) : List Field → Nat → Option (List Leaf)
  | [], _ => some []
  | f :: r, o => if f.offset = o then (match L f.type, gleavesF P L r (o + P.cellsOf f.type) with
    | some a, some b => if a.length = P.cellsOf f.type then some (a ++ b) else none
    | _, _ => none) else none
def gleaves (P : Program) : Nat → TypeId → Option (List Leaf)
  | 0, _ => none
  | n + 1, t => match P.underlying t with
    | some (.int k) => some [.int k]
    | some .bool => some [.bool]
    | some (.struct fs) => (match gleavesF P (gleaves P n) fs.toList 0 with
      | some ks => if ks.length = P.cellsOf t then some ks else none
      | none => none)
    | some (.slice _) => if P.cellsOf t = 1 then some [.other t] else none
    | some .string => if P.cellsOf t = 1 then some [.other t] else none
    | _ => none
section
variable {H : Type} {enc : TypeId × Value → H} {P : Program} {w : World} {base : Nat} {spare : Nat → Bool} {held : Bool}
def gokLeaf (enc : TypeId × Value → H) (P : Program) (w : World) (base : Nat) (spare : Nat → Bool) (held : Bool) : Leaf → Value → Prop
  | .int k, v => ∃ z, v = .int k z ∧ (Lit.int k z).wf = true
  | .bool, v => ∃ b, v = .bool b
  | .other t, v => ∃ m x, DataW.trod enc P w base spare held m t [v] = some x
def gflatOk (enc : TypeId × Value → H) (P : Program) (w : World) (base : Nat) (spare : Nat → Bool) (held : Bool) : List Leaf → List Value → Prop
  | [], [] => True
  | k :: ks, v :: vs => gokLeaf enc P w base spare held k v ∧ gflatOk enc P w base spare held ks vs
  | _, _ => False
theorem gflatOk_append : ∀ (a b : List Leaf) (x y : List Value), gflatOk enc P w base spare held a x → gflatOk enc P w base spare held b y → gflatOk enc P w base spare held (a ++ b) (x ++ y)
  | [], b, [], y, _, h => h
  | _ :: a, b, _ :: x, y, h, h' => ⟨h.1, gflatOk_append a b x y h.2 h'⟩
  | [], _, _ :: _, _, h, _ => h.elim
  | _ :: _, _, [], _, h, _ => h.elim
theorem gflat_fields {n : Nat} (ih : ∀ t ks, gleaves P n t = some ks → ∀ fuel cs x, cs.length = P.cellsOf t → DataW.trod enc P w base spare held fuel t cs = some x → gflatOk enc P w base spare held ks cs)
    (m : Nat) (cs : List Value) : ∀ (fl : List Field) (o : Nat) (ks : List Leaf) (ys : List (DataW H × List MemPlace)), gleavesF P (gleaves P n) fl o = some ks → ys.length = fl.length → o + ks.length ≤ cs.length →
      (∀ (i : Nat) (f : Field), fl[i]? = some f → DataW.trod enc P w base spare held m f.type ((cs.drop f.offset).take (P.cellsOf f.type)) = ys[i]?) →
      gflatOk enc P w base spare held ks ((cs.drop o).take ks.length)
  | [], o, ks, ys, hk, hl, hle, _ => by
    obtain rfl := Option.some.inj (show some [] = some ks from hk)
    exact trivial
  | f :: r, o, ks, [], hk, hl, hle, hf => by simp at hl
  | f :: r, o, ks, y :: ys, hk, hl, hle, hf => by
    unfold gleavesF at hk
    split at hk
    · rename_i ho
      split at hk
      · rename_i a b ha hb
        split at hk
        · rename_i hc
          obtain rfl := Option.some.inj hk
          have h0 := hf 0 f rfl
          rw [List.getElem?_cons_zero] at h0
          rw [List.length_append] at hle
          have h1 := ih _ _ ha _ _ _ (by rw [List.length_take, List.length_drop]; omega) h0
          have g1 := gflat_fields ih m cs r _ b ys hb (by simpa using hl) (by omega) (fun i f' hi => by simpa using hf (i + 1) f' (by simpa using hi))
          subst ho
          rw [List.length_append, List.take_add, List.drop_drop, hc]
          exact gflatOk_append _ _ _ _ h1 g1
        · cases hk
      · cases hk
    · cases hk
theorem gflat_open : ∀ (n : Nat) (t : TypeId) (ks : List Leaf), gleaves P n t = some ks → ∀ (fuel : Nat) (cs : List Value) (x : DataW H × List MemPlace), cs.length = P.cellsOf t → DataW.trod enc P w base spare held fuel t cs = some x →
    gflatOk enc P w base spare held ks cs
  | 0, _, _, hk, _, _, _, _, _ => by cases hk
  | n + 1, t, ks, hk, fuel, cs, x, hlc, h => by
    unfold gleaves at hk
    split at hk
    · rename_i k ht
      obtain rfl := Option.some.inj hk
      obtain ⟨z, rfl, rfl, hw⟩ := DataW.trod_int ht h
      exact ⟨⟨z, rfl, hw⟩, trivial⟩
    · rename_i ht
      obtain rfl := Option.some.inj hk
      obtain ⟨b, rfl, rfl⟩ := DataW.trod_bool ht h
      exact ⟨⟨b, rfl⟩, trivial⟩
    · rename_i fs ht
      split at hk
      · rename_i ks' hks
        split at hk
        · rename_i hlen
          obtain rfl := Option.some.inj hk
          obtain ⟨xs, m, rfl, rfl, hl, hxl, hf⟩ := DataW.trod_struct ht h
          have g1 := gflat_fields (gflat_open n) m cs fs.toList 0 ks' xs hks (by simpa using hxl) (by omega) (fun i f hi => hf i f (by simpa using hi))
          rw [List.drop_zero, List.take_of_length_le (by omega)] at g1
          exact g1
        · cases hk
      · cases hk
    · split at hk
      · rename_i e ht hc
        obtain rfl := Option.some.inj hk
        rw [hc] at hlc
        match cs, hlc with
        | [v], _ => exact ⟨⟨fuel, x, h⟩, trivial⟩
      · cases hk
    · split at hk
      · rename_i ht hc
        obtain rfl := Option.some.inj hk
        rw [hc] at hlc
        match cs, hlc with
        | [v], _ => exact ⟨⟨fuel, x, h⟩, trivial⟩
      · cases hk
    · cases hk
end
end Go.Proofs.Ytoihmanhldcjhaa
namespace Go.Proofs.Ytoihmanhldcjhaa.Id
open Go
set_option linter.unusedVariables false
set_option linter.unusedSimpArgs false
structure Place where
  b : Nat
  base : Nat
  room : Nat
  len : Nat
  sz : Nat
  loose : Bool
abbrev Mp := Nat → Option Place
mutual
inductive VR (m : Mp) : Value → Value → Prop
  | bool (b : Bool) : VR m (.bool b) (.bool b)
  | int (k : IntKind) (n : Int) : VR m (.int k n) (.int k n)
  | float (k : FloatKind) (n : Nat) : VR m (.float k n) (.float k n)
  | string (s : ByteArray) : VR m (.string s) (.string s)
  | pnil : VR m (.pointer none) (.pointer none)
  | ptr {id : Nat} {p : Place} (off : Nat) (h : m id = some p) : VR m (.pointer (some ⟨id, off, none⟩)) (.pointer (some ⟨p.b, p.base + off, none⟩))
  | snil : VR m (.slice none 0 0) (.slice none 0 0)
  | sl {id : Nat} {p : Place} (off l c c' : Nat) (h : m id = some p) (hc : c' = c ∨ (p.loose = true ∧ off + c * p.sz = p.len ∧ c ≤ c')) (hr : off + c' * p.sz ≤ p.room) (hl : l ≤ c) :
      VR m (.slice (some ⟨id, off, none⟩) l c) (.slice (some ⟨p.b, p.base + off, none⟩) l c')
  | se {id : Nat} {p : Place} (off o : Nat) (h : m id = some p) : VR m (.slice (some ⟨id, off, none⟩) 0 0) (.slice (some ⟨p.b, o, none⟩) 0 0)
  | mnil : VR m (.map none) (.map none)
  | nilFunc : VR m .nilFunc .nilFunc
  | nilIface : VR m .nilIface .nilIface
  | func (fn : Fn) {f f' c c' : Array Value} (hf : VRs m f.toList f'.toList) (hc : VRs m c.toList c'.toList) : VR m (.func fn f c) (.func fn f' c')
  | iface (t : TypeId) {v v' : Value} (h : VR m v v') : VR m (.iface t v) (.iface t v')
  | agg {c c' : Array Value} (h : VRs m c.toList c'.toList) (h1 : c.toList.all (·.oneCell') = true) : VR m (.agg c) (.agg c')
  | tuple {c c' : Array Value} (h : VRs m c.toList c'.toList) : VR m (.tuple c) (.tuple c')
inductive VRs (m : Mp) : List Value → List Value → Prop
  | nil : VRs m [] []
  | cons {v v' : Value} {l l' : List Value} (h : VR m v v') (t : VRs m l l') : VRs m (v :: l) (v' :: l')
end
section
variable {m m' : Mp} {v v' : Value} {l l' : List Value}
theorem VR.one (h : VR m v v') : v'.oneCell' = v.oneCell' := by cases h <;> rfl
mutual
theorem VR.mono (hm : ∀ id p, m id = some p → m' id = some p) : ∀ {v v' : Value}, VR m v v' → VR m' v v'
  | _, _, .bool b => .bool b
  | _, _, .int k n => .int k n
  | _, _, .float k n => .float k n
  | _, _, .string s => .string s
  | _, _, .pnil => .pnil
  | _, _, .ptr off h => .ptr off (hm _ _ h)
  | _, _, .snil => .snil
  | _, _, .sl off l c c' h hc hr hl => .sl off l c c' (hm _ _ h) hc hr hl
  | _, _, .se off o h => .se off o (hm _ _ h)
  | _, _, .mnil => .mnil
  | _, _, .nilFunc => .nilFunc
  | _, _, .nilIface => .nilIface
  | _, _, .func fn hf hc => .func fn (VRs.mono hm hf) (VRs.mono hm hc)
  | _, _, .iface t h => .iface t (VR.mono hm h)
  | _, _, .agg h h1 => .agg (VRs.mono hm h) h1
  | _, _, .tuple h => .tuple (VRs.mono hm h)
theorem VRs.mono (hm : ∀ id p, m id = some p → m' id = some p) : ∀ {l l' : List Value}, VRs m l l' → VRs m' l l'
  | _, _, .nil => .nil
  | _, _, .cons h t => .cons (VR.mono hm h) (VRs.mono hm t)
end
theorem VRs.length (h : VRs m l l') : l'.length = l.length := by
  induction l generalizing l' with
  | nil => cases h; rfl
  | cons x xs ih => cases h with | cons h t => simp [ih t]
theorem VRs.get {i : Nat} (h : VRs m l l') (hv : l[i]? = some v) : ∃ v', l'[i]? = some v' ∧ VR m v v' := by
  induction l generalizing l' i with
  | nil => simp at hv
  | cons x xs ih =>
    cases h with
    | cons h t =>
      cases i with
      | zero => simp at hv; subst hv; exact ⟨_, by simp, h⟩
      | succ i => simp at hv; obtain ⟨v', h1, h2⟩ := ih t hv; exact ⟨v', by simpa using h1, h2⟩
theorem VRs.of_get : ∀ {l l' : List Value}, l'.length = l.length → (∀ (i : Nat) v, l[i]? = some v → ∃ v', l'[i]? = some v' ∧ VR m v v') → VRs m l l'
  | [], l', hl, _ => by
    have : l' = [] := List.length_eq_zero_iff.1 (by simpa using hl)
    subst this; exact .nil
  | x :: xs, [], hl, _ => by simp at hl
  | x :: xs, y :: ys, hl, h => by
    obtain ⟨v', h1, h2⟩ := h 0 x (by simp)
    simp at h1; subst h1
    exact .cons h2 (VRs.of_get (by simpa using hl) fun i v hv => by
      obtain ⟨v', h1, h2⟩ := h (i + 1) v (by simpa using hv)
      exact ⟨v', by simpa using h1, h2⟩)
theorem VRs.append {a a' : List Value} (h : VRs m l l') (h2 : VRs m a a') : VRs m (l ++ a) (l' ++ a') := by
  induction l generalizing l' with
  | nil => cases h; simpa using h2
  | cons x xs ih => cases h with | cons h t => exact .cons h (ih t)
theorem VRs.take (n : Nat) (h : VRs m l l') : VRs m (l.take n) (l'.take n) := by
  induction l generalizing l' n with
  | nil => cases h; simp; exact .nil
  | cons x xs ih => cases h with | cons h t => cases n with | zero => exact .nil | succ n => exact .cons h (ih n t)
theorem VRs.drop (n : Nat) (h : VRs m l l') : VRs m (l.drop n) (l'.drop n) := by
  induction l generalizing l' n with
  | nil => cases h; simp; exact .nil
  | cons x xs ih => cases h with | cons h t => cases n with | zero => exact .cons h t | succ n => exact ih n t
theorem VRs.replicate (n : Nat) (h : VR m v v') : VRs m (List.replicate n v) (List.replicate n v') := by
  induction n with
  | zero => exact .nil
  | succ n ih => exact .cons h ih
theorem VRs.all_one (h : VRs m l l') (h1 : l.all (·.oneCell') = true) : l'.all (·.oneCell') = true := by
  induction l generalizing l' with
  | nil => cases h; rfl
  | cons x xs ih =>
    cases h with
    | cons h t => simp only [List.all_cons, Bool.and_eq_true] at h1 ⊢; exact ⟨h.one.trans h1.1, ih t h1.2⟩
theorem VR.cells (h : VR m v v') : VRs m v.cells.toList v'.cells.toList := by
  cases h with
  | agg h h1 => exact h
  | _ => refine .cons ?_ .nil; first | exact .bool _ | exact .int _ _ | exact .float _ _ | exact .string _ | exact .pnil | exact .snil | exact .mnil | exact .nilFunc | exact .nilIface | (apply VR.ptr; assumption) | (apply VR.sl <;> assumption) | (apply VR.se; assumption) | (apply VR.func <;> assumption) | (apply VR.iface; assumption) | (apply VR.tuple; assumption)
def flat1 : Value → Bool
  | .bool _ | .int _ _ | .float _ _ | .string _ | .pointer none | .slice none 0 0 | .map none | .nilFunc | .nilIface => true
  | _ => false
def flat : Value → Bool
  | .agg cs => cs.toList.all flat1
  | .tuple cs => cs.toList.all flat1
  | .func _ f c => f.toList.all flat1 && c.toList.all flat1
  | v => flat1 v
theorem VR.of_flat1 (h : flat1 v = true) : VR m v v := by
  unfold flat1 at h
  split at h <;> first | exact .bool _ | exact .int _ _ | exact .float _ _ | exact .string _ | exact .pnil | exact .snil | exact .mnil | exact .nilFunc | exact .nilIface | cases h
theorem flat1_one (h : flat1 v = true) : v.oneCell' = true := by
  unfold flat1 at h
  split at h <;> first | rfl | cases h
theorem VRs.of_flat1 (h : l.all flat1 = true) : VRs m l l := by
  induction l with
  | nil => exact .nil
  | cons x xs ih => simp only [List.all_cons, Bool.and_eq_true] at h; exact .cons (VR.of_flat1 h.1) (ih h.2)
theorem all_one_flat1 (h : l.all flat1 = true) : l.all (·.oneCell') = true := by
  rw [List.all_eq_true] at h ⊢
  exact fun x hx => flat1_one (h x hx)
theorem VR.of_flat (h : flat v = true) : VR m v v := by
  cases v with
  | agg cs => exact .agg (VRs.of_flat1 h) (all_one_flat1 h)
  | tuple cs => exact .tuple (VRs.of_flat1 h)
  | func fn f c => simp only [flat, Bool.and_eq_true] at h; exact .func fn (VRs.of_flat1 h.1) (VRs.of_flat1 h.2)
  | _ => exact VR.of_flat1 h
theorem VRs.eq_flat1 (h : VRs m l l') (hf : l.all flat1 = true) : l' = l := by
  induction l generalizing l' with
  | nil => cases h; rfl
  | cons x xs ih =>
    cases h with
    | cons h t =>
      simp only [List.all_cons, Bool.and_eq_true] at hf
      rw [ih t hf.2]
      congr 1
      cases h <;> first | rfl | (simp [flat1] at hf)
end
def look {α : Type} (n : Nat) : List (Nat × α) → Option α
  | [] => none
  | (k, v) :: l => if n = k then some v else look n l
theorem look_cons {α : Type} (n k : Nat) (v : α) (l : List (Nat × α)) : look n ((k, v) :: l) = if n = k then some v else look n l := rfl
structure Blk where
  cells : List Value
  elem : TypeId
  sz : Nat
  ro : Bool
  loose : Bool
abbrev Hp := List (Nat × Blk)
structure BR (m : Mp) (blk : Blk) (p : Place) (w : World) : Prop where
  len : p.len = blk.cells.length
  sz : p.sz = blk.sz
  loose : p.loose = blk.loose
  room : p.len ≤ p.room
  one : blk.cells.all (·.oneCell') = true
  row : ∃ rc elem fz, w.heap[p.b]? = some (.cells rc elem fz) ∧ rc.size = p.base + p.room ∧ (blk.ro = false → fz = (0, 0) ∧ elem = blk.elem) ∧
    ∀ i v, blk.cells[i]? = some v → ∃ v', rc[p.base + i]? = some v' ∧ VR m v v'
structure HR (m : Mp) (F : Hp) (nx : Nat) (w : World) : Prop where
  has : ∀ id blk, look id F = some blk → ∃ p, m id = some p ∧ BR m blk p w
  top : ∀ id, nx ≤ id → m id = none
  inj : ∀ i j bi bj pi pj, i ≠ j → look i F = some bi → look j F = some bj → m i = some pi → m j = some pj → bi.ro = false → pi.b ≠ pj.b
def Owned (m : Mp) (F : Hp) (b : Nat) : Prop := ∃ id blk p, look id F = some blk ∧ blk.ro = false ∧ m id = some p ∧ p.b = b
structure Stp (m : Mp) (F : Hp) (nx : Nat) (w : World) (m' : Mp) (F' : Hp) (nx' : Nat) (w' : World) : Prop where
  ext : ∀ id p, m id = some p → m' id = some p
  nx_le : nx ≤ nx'
  size : w.heap.size ≤ w'.heap.size
  sub : ∀ id blk p, look id F' = some blk → m' id = some p → (∃ b0, look id F = some b0 ∧ m id = some p ∧ b0.ro = blk.ro) ∨ Owned m F p.b ∨ w.heap.size ≤ p.b
  keep : ∀ b, b < w.heap.size → ¬ Owned m F b → w'.heap[b]? = w.heap[b]?
  env : w'.os = w.os ∧ w'.output = w.output ∧ w'.tape = w.tape
def FR (fr : List (Nat × Value)) (m : Mp) (tmps : Array Value) : Prop := ∀ n v, look n fr = some v → ∃ v', tmps[n]? = some v' ∧ VR m v v'
section
variable {P : Program} {m m' m'' : Mp} {F F' F'' : Hp} {nx nx' nx'' : Nat} {w w' w'' : World}
theorem Stp.own (h : Stp m F nx w m' F' nx' w') (b : Nat) (ho : Owned m' F' b) : Owned m F b ∨ w.heap.size ≤ b := by
  obtain ⟨id, blk, p, e, hro, hp, rfl⟩ := ho
  rcases h.sub id blk p e hp with ⟨b0, x, y, z⟩ | x
  · exact .inl ⟨id, b0, p, x, z.trans hro, y, rfl⟩
  · exact x
theorem Stp.refl (m : Mp) (F : Hp) (nx : Nat) (w : World) : Stp m F nx w m F nx w := ⟨fun _ _ h => h, Nat.le_refl _, Nat.le_refl _, fun _ _ _ h k => .inl ⟨_, h, k, rfl⟩, fun _ _ _ => rfl, rfl, rfl, rfl⟩
theorem Stp.trans (h : Stp m F nx w m' F' nx' w') (k : Stp m' F' nx' w' m'' F'' nx'' w'') : Stp m F nx w m'' F'' nx'' w'' :=
  ⟨fun id p e => k.ext id p (h.ext id p e), Nat.le_trans h.nx_le k.nx_le, Nat.le_trans h.size k.size,
   fun id blk p e hp => by
     rcases k.sub id blk p e hp with ⟨b0, x, y, z⟩ | x | x
     · rcases h.sub id b0 p x y with ⟨b1, x1, y1, z1⟩ | x1
       · exact .inl ⟨b1, x1, y1, z1.trans z⟩
       · exact .inr x1
     · exact .inr (h.own p.b x)
     · exact .inr (.inr (Nat.le_trans h.size x)),
   fun b hb hn => (k.keep b (Nat.lt_of_lt_of_le hb h.size) fun ho => (h.own b ho).elim hn fun h1 => by omega).trans (h.keep b hb hn), k.env.1.trans h.env.1, k.env.2.1.trans h.env.2.1, k.env.2.2.trans h.env.2.2⟩
theorem BR.mono {blk : Blk} {p : Place} (h : BR m blk p w) (hm : ∀ id p, m id = some p → m' id = some p) (hh : w'.heap[p.b]? = w.heap[p.b]?) : BR m' blk p w' := by
  obtain ⟨h1, h2, h3, h4, h5, rc, elem, fz, a1, a2, a3, a4⟩ := h
  refine ⟨h1, h2, h3, h4, h5, rc, elem, fz, hh.trans a1, a2, a3, fun i v hv => ?_⟩
  obtain ⟨v', b1, b2⟩ := a4 i v hv
  exact ⟨v', b1, b2.mono hm⟩
theorem HR.heap (h : HR m F nx w) (hh : w'.heap = w.heap) : HR m F nx w' :=
  ⟨fun id blk e => let ⟨p, a, b⟩ := h.has id blk e; ⟨p, a, b.mono (fun _ _ h => h) (by rw [hh])⟩, h.top, h.inj⟩
theorem Stp.heap (hh : w'.heap = w.heap) (ho : w'.os = w.os ∧ w'.output = w.output ∧ w'.tape = w.tape := by exact ⟨rfl, rfl, rfl⟩) : Stp m F nx w m F nx w' := ⟨fun _ _ h => h, Nat.le_refl _, by rw [hh]; exact Nat.le_refl _, fun _ _ _ h k => .inl ⟨_, h, k, rfl⟩, fun b _ _ => by rw [hh], ho⟩
theorem HR.drop (h : HR m F nx w) (hF : ∀ id blk, look id F' = some blk → look id F = some blk) : HR m F' nx w :=
  ⟨fun id blk e => h.has id blk (hF id blk e), h.top, fun i j bi bj pi pj hne e1 e2 => h.inj i j bi bj pi pj hne (hF _ _ e1) (hF _ _ e2)⟩
theorem Owned.drop {b : Nat} (h : Owned m F' b) (hF : ∀ id blk, look id F' = some blk → look id F = some blk) : Owned m F b :=
  let ⟨id, blk, p, a, r⟩ := h; ⟨id, blk, p, hF _ _ a, r⟩
theorem Stp.drop (h : Stp m F nx w m' F' nx' w') (hF : ∀ id blk, look id F'' = some blk → look id F' = some blk) : Stp m F nx w m' F'' nx' w' :=
  ⟨h.ext, h.nx_le, h.size, fun id blk p e hp => h.sub id blk p (hF id blk e) hp, h.keep, h.env⟩
theorem FR.mono {fr : List (Nat × Value)} {t : Array Value} (h : FR fr m t) (hm : ∀ id p, m id = some p → m' id = some p) : FR fr m' t :=
  fun n v hv => let ⟨v', a, b⟩ := h n v hv; ⟨v', a, b.mono hm⟩
theorem HR.lt (h : HR m F nx w) {id : Nat} {blk : Blk} (e : look id F = some blk) : id < nx := by
  obtain ⟨p, a, _⟩ := h.has id blk e
  rcases Nat.lt_or_ge id nx with hl | hl
  · exact hl
  · rw [h.top id hl] at a; cases a
def mput (m : Mp) (id : Nat) (p : Place) : Mp := fun i => if i = id then some p else m i
theorem mput_ext (h : HR m F nx w) (p : Place) : ∀ id q, m id = some q → mput m nx p id = some q := by
  intro id q hq
  unfold mput
  rw [if_neg]
  · exact hq
  · rintro rfl; rw [h.top _ (Nat.le_refl _)] at hq; cases hq
theorem HR.lt_size (h : HR m F nx w) {id : Nat} {blk : Blk} {p : Place} (e : look id F = some blk) (hp : m id = some p) : p.b < w.heap.size := by
  obtain ⟨q, a, b⟩ := h.has id blk e
  rw [hp] at a; cases a
  obtain ⟨rc, elem, fz, a1, _⟩ := b.row
  rcases Nat.lt_or_ge p.b w.heap.size with hl | hl
  · exact hl
  · rw [Array.getElem?_eq_none hl] at a1; cases a1
theorem HR.newx (h : HR m F nx w) (cs cs' ex : List Value) (elem : TypeId) (sz : Nat) (loose : Bool) (hv : VRs m cs cs') (h1 : cs.all (·.oneCell') = true) :
    HR (mput m nx ⟨w.heap.size, 0, cs.length + ex.length, cs.length, sz, loose⟩) ((nx, ⟨cs, elem, sz, false, loose⟩) :: F) (nx + 1) (w.alloc (.cells (cs' ++ ex).toArray elem)) ∧
    Stp m F nx w (mput m nx ⟨w.heap.size, 0, cs.length + ex.length, cs.length, sz, loose⟩) ((nx, ⟨cs, elem, sz, false, loose⟩) :: F) (nx + 1) (w.alloc (.cells (cs' ++ ex).toArray elem)) := by
  have hx := mput_ext h ⟨w.heap.size, 0, cs.length + ex.length, cs.length, sz, loose⟩
  have hw : ∀ b, b < w.heap.size → (w.alloc (.cells (cs' ++ ex).toArray elem)).heap[b]? = w.heap[b]? := fun b hb => by
    show (w.heap.push _)[b]? = _
    rw [Array.getElem?_push, if_neg (Nat.ne_of_lt hb)]
  refine ⟨⟨?_, ?_, ?_⟩, ⟨hx, Nat.le_succ _, by simp, ?_, fun b hb _ => hw b hb, rfl, rfl, rfl⟩⟩
  · intro id blk e
    rw [look_cons] at e
    by_cases hid : id = nx
    · subst hid
      rw [if_pos rfl] at e
      cases e
      refine ⟨_, by unfold mput; rw [if_pos rfl], rfl, rfl, rfl, Nat.le_add_right _ _, h1, (cs' ++ ex).toArray, elem, (0, 0), by show (w.heap.push _)[w.heap.size]? = _; rw [Array.getElem?_push, if_pos rfl], by simp [hv.length], fun _ => ⟨rfl, rfl⟩, ?_⟩
      intro i v hv'
      obtain ⟨v', a, b⟩ := hv.get hv'
      refine ⟨v', ?_, b.mono hx⟩
      have hi : i < cs'.length := by rcases Nat.lt_or_ge i cs'.length with h | h; exact h; simp [List.getElem?_eq_none h] at a
      simp only [Nat.zero_add, List.getElem?_toArray]
      rw [List.getElem?_append_left hi]
      exact a
    · rw [if_neg hid] at e
      obtain ⟨p, a, b⟩ := h.has id blk e
      exact ⟨p, by unfold mput; rw [if_neg hid]; exact a, b.mono hx (hw _ (h.lt_size e a))⟩
  · intro id hid
    unfold mput
    rw [if_neg (by omega)]
    exact h.top id (by omega)
  · intro i j bi bj pi pj hne e1 e2 p1 p2 hro
    rw [look_cons] at e1 e2
    unfold mput at p1 p2
    by_cases hi : i = nx
    · subst hi
      rw [if_pos rfl] at p1; cases p1
      rw [if_neg (fun e => hne e.symm)] at e2 p2
      exact fun e => absurd (h.lt_size e2 p2) (by rw [← e]; exact Nat.lt_irrefl _)
    · rw [if_neg hi] at e1 p1
      by_cases hj : j = nx
      · subst hj
        rw [if_pos rfl] at p2; cases p2
        exact Nat.ne_of_lt (h.lt_size e1 p1)
      · rw [if_neg hj] at e2 p2
        exact h.inj i j bi bj pi pj hne e1 e2 p1 p2 hro
  · intro id blk p e hp
    rw [look_cons] at e
    unfold mput at hp
    by_cases hid : id = nx
    · rw [if_pos hid] at hp; cases hp; exact .inr (.inr (Nat.le_refl _))
    · rw [if_neg hid] at e hp; exact .inl ⟨blk, e, hp, rfl⟩
theorem HR.new (h : HR m F nx w) (cs cs' : List Value) (elem : TypeId) (sz : Nat) (hv : VRs m cs cs') (h1 : cs.all (·.oneCell') = true) :
    HR (mput m nx ⟨w.heap.size, 0, cs.length, cs.length, sz, false⟩) ((nx, ⟨cs, elem, sz, false, false⟩) :: F) (nx + 1) (w.alloc (.cells cs'.toArray elem)) ∧
    Stp m F nx w (mput m nx ⟨w.heap.size, 0, cs.length, cs.length, sz, false⟩) ((nx, ⟨cs, elem, sz, false, false⟩) :: F) (nx + 1) (w.alloc (.cells cs'.toArray elem)) := by
  have := h.newx cs cs' [] elem sz false hv h1
  simpa using this
def del (id : Nat) (F : Hp) : Hp := F.filter fun e => e.1 != id
theorem look_del (j id : Nat) (F : Hp) : look j (del id F) = if j = id then none else look j F := by
  induction F with
  | nil => simp [del, look]
  | cons e F ih =>
    obtain ⟨k, b⟩ := e
    unfold del at ih ⊢
    rw [List.filter_cons]
    by_cases hk : k = id
    · subst hk
      simp only [bne_self_eq_false, Bool.false_eq_true, if_false, ih, look_cons]
      by_cases hj : j = k <;> simp [hj]
    · have : (k != id) = true := by simpa using hk
      rw [if_pos this, look_cons, look_cons, ih]
      by_cases hj : j = k
      · subst hj; simp [hk]
      · simp [hj]
theorem BR.cell {blk : Blk} {p : Place} (h : BR m blk p w) {i : Nat} {v : Value} (hv : blk.cells[i]? = some v) : ∃ v', w.cell? ⟨p.b, p.base + i, none⟩ = some v' ∧ VR m v v' := by
  obtain ⟨rc, elem, fz, a1, a2, a3, a4⟩ := h.row
  obtain ⟨v', b1, b2⟩ := a4 i v hv
  exact ⟨v', by simp [World.cell?, a1, b1], b2⟩
theorem BR.range {blk : Blk} {p : Place} (h : BR m blk p w) (off n : Nat) (hn : off + n ≤ blk.cells.length) :
    ∃ cs' : List Value, cs'.length = n ∧ VRs m ((blk.cells.drop off).take n) cs' ∧ ∀ j v, cs'[j]? = some v → w.cell? ⟨p.b, p.base + off + j, none⟩ = some v := by
  obtain ⟨rc, elem, fz, a1, a2, a3, a4⟩ := h.row
  have hlen := h.len
  have hroom := h.room
  refine ⟨(rc.toList.drop (p.base + off)).take n, by simp; omega, VRs.of_get (by simp; omega) ?_, ?_⟩
  · intro i v hv
    rw [List.getElem?_take] at hv
    by_cases hi : i < n
    · rw [if_pos hi, List.getElem?_drop] at hv
      obtain ⟨v', b1, b2⟩ := a4 (off + i) v hv
      exact ⟨v', by rw [List.getElem?_take, if_pos hi, List.getElem?_drop]; simpa [Nat.add_assoc] using b1, b2⟩
    · rw [if_neg hi] at hv; cases hv
  · intro j v hv
    rw [List.getElem?_take] at hv
    by_cases hi : j < n
    · rw [if_pos hi, List.getElem?_drop] at hv
      simp only [World.cell?, a1]
      simpa using hv
    · rw [if_neg hi] at hv; cases hv
def splice (cs : List Value) (off : Nat) (vs : List Value) : List Value := cs.take off ++ vs ++ cs.drop (off + vs.length)
theorem splice_length (cs : List Value) (off : Nat) (vs : List Value) (h : off + vs.length ≤ cs.length) : (splice cs off vs).length = cs.length := by
  simp [splice]; omega
theorem splice_get (cs : List Value) (off : Nat) (vs : List Value) (h : off + vs.length ≤ cs.length) (i : Nat) :
    (splice cs off vs)[i]? = if i < off then cs[i]? else if i < off + vs.length then vs[i - off]? else cs[i]? := by
  unfold splice
  by_cases h1 : i < off
  · rw [if_pos h1, List.append_assoc, List.getElem?_append_left (by simp; omega), List.getElem?_take, if_pos h1]
  · rw [if_neg h1]
    by_cases h2 : i < off + vs.length
    · rw [if_pos h2, List.getElem?_append_left (by simp; omega), List.getElem?_append_right (by simp; omega)]
      simp [Nat.min_eq_left (show off ≤ cs.length by omega)]
    · rw [if_neg h2, List.getElem?_append_right (by simp; omega), List.getElem?_drop]
      congr 1
      simp; omega
theorem setRow_get (w : World) (g : Nat) (row : Array Value) (cur : Array Value) (t : TypeId) (fz : Nat × Nat) (h : w.heap[g]? = some (.cells cur t fz)) :
    (w.setRow g row).heap[g]? = some (.cells row t fz) ∧ ∀ b, b ≠ g → (w.setRow g row).heap[b]? = w.heap[b]? := by
  refine ⟨setRow_heap w g cur row t fz h, fun b hb => ?_⟩
  unfold World.setRow
  simp [Array.getElem?_modify, Ne.symm hb]
theorem HR.store (h : HR m F nx w) {id : Nat} {blk : Blk} {p : Place} (e : look id F = some blk) (hp : m id = some p) (hro : blk.ro = false) (off : Nat) (vs vs' : List Value)
    (hl : off + vs.length ≤ blk.cells.length) (hv : VRs m vs vs') (h1 : vs.all (·.oneCell') = true) :
    ∃ w', (storeCells ⟨p.b, p.base + off, none⟩ vs').run P w = .ok () w' ∧ HR m ((id, { blk with cells := splice blk.cells off vs }) :: F) nx w' ∧
      Stp m F nx w m ((id, { blk with cells := splice blk.cells off vs }) :: F) nx w' := by
  obtain ⟨q, a, br⟩ := h.has id blk e
  rw [hp] at a; cases a
  obtain ⟨rc, elem, fz, a1, a2, a3, a4⟩ := br.row
  obtain ⟨rfl, rfl⟩ := a3 hro
  have hlen := br.len
  have hroom := br.room
  have hvl := hv.length
  have hst := run_storeCells_at (P := P) p.b (p.base + off) blk.elem vs' 0 rc w a1 (by omega) (by have := hv.all_one h1; rw [List.all_eq_true] at this; exact this)
  rw [Nat.add_zero] at hst
  obtain ⟨g1, g2⟩ := setRow_get w p.b (rc.toList.take (p.base + off) ++ vs' ++ rc.toList.drop (p.base + off + vs'.length)).toArray rc blk.elem (0, 0) a1
  generalize hW : w.setRow p.b (rc.toList.take (p.base + off) ++ vs' ++ rc.toList.drop (p.base + off + vs'.length)).toArray = W at hst g1 g2
  have hsize : W.heap.size = w.heap.size := by rw [← hW]; unfold World.setRow; simp
  have hbr : BR m { blk with cells := splice blk.cells off vs } p W := by
    refine ⟨by rw [br.len]; exact (splice_length _ _ _ hl).symm, br.sz, br.loose, br.room, ?_, _, _, _, g1, by simp; omega, fun _ => ⟨rfl, rfl⟩, ?_⟩
    · have := br.one
      simp only [List.all_eq_true] at this h1 ⊢
      intro x hx
      simp only [splice, List.mem_append] at hx
      rcases hx with (hx | hx) | hx
      · exact this x (List.mem_of_mem_take hx)
      · exact h1 x hx
      · exact this x (List.mem_of_mem_drop hx)
    · intro i v hv'
      have hsp := splice_get rc.toList (p.base + off) vs' (by simp; omega) (p.base + i)
      unfold splice at hsp
      simp only [List.getElem?_toArray]
      rw [hsp]
      simp only [splice_get _ _ _ hl] at hv'
      by_cases c1 : i < off
      · rw [if_pos c1] at hv'
        rw [if_pos (by omega)]
        simpa using a4 i v hv'
      · rw [if_neg c1] at hv'
        rw [if_neg (by omega)]
        by_cases c2 : i < off + vs.length
        · rw [if_pos c2] at hv'
          rw [if_pos (by omega), show p.base + i - (p.base + off) = i - off by omega]
          exact hv.get hv'
        · rw [if_neg c2] at hv'
          rw [if_neg (by omega)]
          simpa using a4 i v hv'
  refine ⟨W, hst, ⟨?_, h.top, ?_⟩, ⟨fun _ _ h => h, Nat.le_refl _, by omega, ?_, ?_, by rw [← hW]; exact ⟨rfl, rfl, rfl⟩⟩⟩
  · intro i b hb
    rw [look_cons] at hb
    by_cases hi : i = id
    · rw [if_pos hi] at hb; cases hb; subst hi; exact ⟨p, hp, hbr⟩
    · rw [if_neg hi] at hb
      obtain ⟨q, x, y⟩ := h.has i b hb
      exact ⟨q, x, y.mono (fun _ _ h => h) (g2 _ (fun e' => h.inj id i blk b p q (fun e => hi e.symm) e hb hp x hro e'.symm))⟩
  · intro i j bi bj pi pj hne e1 e2 p1 p2 hr
    rw [look_cons] at e1 e2
    by_cases hi : i = id
    · rw [if_pos hi] at e1; cases e1
      rw [if_neg (fun e' => hne (hi.trans e'.symm))] at e2
      exact h.inj i j blk bj pi pj hne (hi ▸ e) e2 p1 p2 hro
    · rw [if_neg hi] at e1
      by_cases hj : j = id
      · exact h.inj i j bi blk pi pj hne e1 (hj ▸ e) p1 p2 hr
      · rw [if_neg hj] at e2
        exact h.inj i j bi bj pi pj hne e1 e2 p1 p2 hr
  · intro i bk q hb hq
    rw [look_cons] at hb
    by_cases hi : i = id
    · rw [if_pos hi] at hb; cases hb; subst hi; exact .inl ⟨blk, e, hq, rfl⟩
    · rw [if_neg hi] at hb; exact .inl ⟨bk, hb, hq, rfl⟩
  · intro b hb hn
    exact g2 b (fun e' => hn ⟨id, blk, p, e, hro, hp, e'.symm⟩)
theorem HR.regrow (h : HR m F nx w) {id : Nat} {blk : Blk} {p : Place} (e : look id F = some blk) (hp : m id = some p) (hro : blk.ro = false) (off k : Nat) (hk : off + k = blk.cells.length) (vs vs' : List Value)
    (hroom : off + k + vs.length ≤ p.room) (hv : VRs m vs vs') (h1 : vs.all (·.oneCell') = true) :
    ∃ w', (storeCells ⟨p.b, p.base + (off + k), none⟩ vs').run P w = .ok () w' ∧
      HR (mput m nx ⟨p.b, p.base + off, p.room - off, k + vs.length, p.sz, true⟩) ((nx, ⟨blk.cells.drop off ++ vs, blk.elem, blk.sz, false, true⟩) :: del id F) (nx + 1) w' ∧
      Stp m F nx w (mput m nx ⟨p.b, p.base + off, p.room - off, k + vs.length, p.sz, true⟩) ((nx, ⟨blk.cells.drop off ++ vs, blk.elem, blk.sz, false, true⟩) :: del id F) (nx + 1) w' := by
  obtain ⟨q, a, br⟩ := h.has id blk e
  rw [hp] at a; cases a
  obtain ⟨rc, elem, fz, a1, a2, a3, a4⟩ := br.row
  obtain ⟨rfl, rfl⟩ := a3 hro
  have hlen := br.len
  have hvl := hv.length
  have hx := mput_ext h ⟨p.b, p.base + off, p.room - off, k + vs.length, p.sz, true⟩
  have hst := run_storeCells_at (P := P) p.b (p.base + (off + k)) blk.elem vs' 0 rc w a1 (by omega) (by have := hv.all_one h1; rw [List.all_eq_true] at this; exact this)
  rw [Nat.add_zero] at hst
  obtain ⟨g1, g2⟩ := setRow_get w p.b (rc.toList.take (p.base + (off + k)) ++ vs' ++ rc.toList.drop (p.base + (off + k) + vs'.length)).toArray rc blk.elem (0, 0) a1
  generalize hW : w.setRow p.b (rc.toList.take (p.base + (off + k)) ++ vs' ++ rc.toList.drop (p.base + (off + k) + vs'.length)).toArray = W at hst g1 g2
  have hsize : W.heap.size = w.heap.size := by rw [← hW]; unfold World.setRow; simp
  have hbr : BR (mput m nx ⟨p.b, p.base + off, p.room - off, k + vs.length, p.sz, true⟩) ⟨blk.cells.drop off ++ vs, blk.elem, blk.sz, false, true⟩ ⟨p.b, p.base + off, p.room - off, k + vs.length, p.sz, true⟩ W := by
    refine ⟨by simp; omega, br.sz, rfl, by show k + vs.length ≤ p.room - off; omega, ?_, _, _, _, g1, by simp; omega, fun _ => ⟨rfl, rfl⟩, ?_⟩
    · have := br.one
      simp only [List.all_eq_true] at this h1 ⊢
      intro x hx
      simp only [List.mem_append] at hx
      rcases hx with hx | hx
      · exact this x (List.mem_of_mem_drop hx)
      · exact h1 x hx
    · intro i v hv'
      have hsp := splice_get rc.toList (p.base + (off + k)) vs' (by simp; omega) (p.base + off + i)
      unfold splice at hsp
      simp only [List.getElem?_toArray]
      rw [hsp]
      dsimp only at hv'
      by_cases c1 : i < k
      · rw [List.getElem?_append_left (by simp; omega), List.getElem?_drop] at hv'
        rw [if_pos (by omega)]
        obtain ⟨v', b1, b2⟩ := a4 _ v hv'
        exact ⟨v', by simpa [Nat.add_assoc] using b1, b2.mono hx⟩
      · rw [List.getElem?_append_right (by simp; omega)] at hv'
        rw [if_neg (by omega)]
        have hd : (blk.cells.drop off).length = k := by simp; omega
        rw [hd] at hv'
        obtain ⟨v', b1, b2⟩ := hv.get hv'
        have hi : i - k < vs'.length := by rcases Nat.lt_or_ge (i - k) vs'.length with h | h; exact h; simp [List.getElem?_eq_none h] at b1
        rw [if_pos (by omega), show p.base + off + i - (p.base + (off + k)) = i - k by omega]
        exact ⟨v', b1, b2.mono hx⟩
  refine ⟨W, hst, ⟨?_, ?_, ?_⟩, ⟨hx, Nat.le_succ _, by omega, ?_, ?_, by rw [← hW]; exact ⟨rfl, rfl, rfl⟩⟩⟩
  · intro i b hb
    rw [look_cons] at hb
    by_cases hi : i = nx
    · rw [if_pos hi] at hb; cases hb; subst hi; exact ⟨_, by unfold mput; rw [if_pos rfl], hbr⟩
    · rw [if_neg hi, look_del] at hb
      split at hb
      · cases hb
      · rename_i hid
        obtain ⟨q, x, y⟩ := h.has i b hb
        exact ⟨q, by unfold mput; rw [if_neg hi]; exact x, y.mono hx (g2 _ (fun e' => h.inj id i blk b p q (fun e => hid e.symm) e hb hp x hro e'.symm))⟩
  · intro i hi
    unfold mput
    rw [if_neg (by omega)]
    exact h.top i (by omega)
  · intro i j bi bj pi pj hne e1 e2 p1 p2 hr
    rw [look_cons] at e1 e2
    unfold mput at p1 p2
    by_cases hi : i = nx
    · subst hi
      rw [if_pos rfl] at p1; cases p1
      rw [if_neg (fun e => hne e.symm), look_del] at e2
      rw [if_neg (fun e => hne e.symm)] at p2
      split at e2
      · cases e2
      · rename_i hid
        exact h.inj id j blk bj p pj (fun e => hid e.symm) e e2 hp p2 hro
    · rw [if_neg hi, look_del] at e1
      rw [if_neg hi] at p1
      split at e1
      · cases e1
      · rename_i hid
        by_cases hj : j = nx
        · subst hj
          rw [if_pos rfl] at p2; cases p2
          exact h.inj i id bi blk pi p hid e1 e p1 hp hr
        · rw [if_neg hj, look_del] at e2
          rw [if_neg hj] at p2
          split at e2
          · cases e2
          · exact h.inj i j bi bj pi pj hne e1 e2 p1 p2 hr
  · intro i bk q hb hq
    rw [look_cons] at hb
    unfold mput at hq
    by_cases hi : i = nx
    · rw [if_pos hi] at hq; cases hq; exact .inr (.inl ⟨id, blk, p, e, hro, hp, rfl⟩)
    · rw [if_neg hi, look_del] at hb
      rw [if_neg hi] at hq
      split at hb
      · cases hb
      · exact .inl ⟨bk, hb, hq, rfl⟩
  · intro b hb hn
    exact g2 b (fun e' => hn ⟨id, blk, p, e, hro, hp, e'.symm⟩)
end
end Go.Proofs.Ytoihmanhldcjhaa.Id
namespace Go.Proofs.Ytoihmanhldcjhaa.Id
open Go
set_option linter.unusedVariables false
set_option linter.unusedSimpArgs false
structure Tb where
  und : TypeId → Option TypeDesc
  inf : TypeId → Option (Nat × Nat × Value)
  eqs : TypeId → Option (List Bool)
def fieldsEq (P : Program) : Nat → List Field → List Bool → Bool
  | _, [], [] => true
  | i, f :: fs, k :: ks => f.name != "_" && f.offset == i && (match P.underlying f.type with
    | some (.int _) => k
    | some .bool => !k
    | _ => false) && fieldsEq P (i + 1) fs ks
  | _, _, _ => false
def EqOk (P : Program) (t : TypeId) (ks : List Bool) : Prop := P.stoodInHeld t = false ∧ P.eqGuardType P.depth t = false ∧ P.underlying t = some (.struct (P.fieldsOf t)) ∧ fieldsEq P 0 (P.fieldsOf t).toList ks = true
def ieqCells : List Bool → List Value → List Value → Option Bool
  | [], [], [] => some true
  | true :: ks, .int k a :: xs, .int k' b :: ys => if k = k' then match ieqCells ks xs ys with
    | some r => some ((a == b) && r)
    | none => none
    else none
  | false :: ks, .bool a :: xs, .bool b :: ys => match ieqCells ks xs ys with
    | some r => some ((a == b) && r)
    | none => none
  | _, _, _ => none
theorem eqFields_run {P : Program} (w : World) (d : Nat) (X Y : Array Value) : ∀ (fs : List Field) (ks : List Bool) (i : Nat) (xs ys : List Value) (b : Bool), fieldsEq P i fs ks = true → X.toList.drop i = xs → Y.toList.drop i = ys → ieqCells ks xs ys = some b →
    (Op.eqFields (d + 1) X Y fs).run P w = .ok b w
  | [], ks, i, xs, ys, b, h, hx, hy, hb => by
    cases ks with
    | cons k ks => cases h
    | nil =>
      cases xs <;> cases ys <;> cases hb
      rfl
  | f :: fs, [], i, xs, ys, b, h, hx, hy, hb => by cases h
  | f :: fs, k :: ks, i, xs, ys, b, h, hx, hy, hb => by
    unfold fieldsEq at h
    simp only [Bool.and_eq_true, beq_iff_eq, bne_iff_ne] at h
    obtain ⟨⟨⟨hn, ho⟩, hk⟩, ht⟩ := h
    cases xs with
    | nil => cases k <;> cases hb
    | cons x xs =>
    cases ys with
    | nil => cases k <;> cases x <;> cases hb
    | cons y ys =>
    have hx0 : X[f.offset]? = some x := by
      rw [ho]
      have : (X.toList.drop i)[0]? = some x := by rw [hx]; rfl
      simpa using this
    have hy0 : Y[f.offset]? = some y := by
      rw [ho]
      have : (Y.toList.drop i)[0]? = some y := by rw [hy]; rfl
      simpa using this
    have hx1 : X.toList.drop (i + 1) = xs := by rw [← List.drop_drop, hx]; rfl
    have hy1 : Y.toList.drop (i + 1) = ys := by rw [← List.drop_drop, hy]; rfl
    have pt : ∀ {v : Value} {R : Array Value}, R[f.offset]? = some v → (part f.type R f.offset).run P w = .ok v w := by
      intro v R hv
      split at hk
      · rename_i u hu; simp [part, isAgg, run_underlying hu, hv]
      · rename_i hu; simp [part, isAgg, run_underlying hu, hv]
      · cases hk
    have step : ∀ (r r2 : Bool), (Op.equalIn (d + 1) f.type x y).run P w = .ok r w → ieqCells ks xs ys = some r2 → b = (r && r2) → (Op.eqFields (d + 1) X Y (f :: fs)).run P w = .ok b w := by
      intro r r2 h1 h2 h3
      unfold Op.eqFields
      rw [if_pos hn]
      simp only [Sem.run_bind, pt hx0, pt hy0, Result.andThen_ok, h1]
      cases r with
      | false => rw [h3]; simp
      | true =>
        simp only [Bool.not_true, Bool.false_eq_true, if_false]
        rw [eqFields_run w d X Y fs ks (i + 1) xs ys r2 ht hx1 hy1 h2, h3]
        simp
    cases k with
    | true =>
      split at hk
      · rename_i u hu
        cases x with
        | int k1 a =>
          cases y with
          | int k2 c =>
            rw [ieqCells] at hb
            split at hb
            · rename_i hkk
              subst hkk
              cases hr : ieqCells ks xs ys with
              | none => rw [hr] at hb; cases hb
              | some r => rw [hr] at hb; cases hb; exact step _ _ (run_equalIn_int w d f.type k1 u a c hu) hr rfl
            · cases hb
          | _ => cases hb
        | _ => cases hb
      · cases hk
      · cases hk
    | false =>
      split at hk
      · cases hk
      · rename_i hu
        cases x with
        | bool a =>
          cases y with
          | bool c =>
            rw [ieqCells] at hb
            cases hr : ieqCells ks xs ys with
            | none => rw [hr] at hb; cases hb
            | some r => rw [hr] at hb; cases hb; exact step _ _ (run_equalIn_bool w d f.type a c hu) hr rfl
          | _ => cases hb
        | _ => cases hb
      · cases hk
structure TbOk (P : Program) (T : Tb) : Prop where
  und : ∀ t d, T.und t = some d → P.underlying t = some d
  inf : ∀ t s b z, T.inf t = some (s, b, z) → ∃ i, P.info? t = some i ∧ i.size = s ∧ i.bytes = b ∧ i.zero = some z
  zero : ∀ t s b z, T.inf t = some (s, b, z) → z.cells.toList.all flat1 = true ∧ z.cells.size = s
  eqs : ∀ t ks, T.eqs t = some ks → EqOk P t ks
def isRow : TypeDesc → Bool
  | .struct _ | .array _ _ => true
  | _ => false
section
variable {P : Program} {T : Tb} (hT : TbOk P T)
include hT
theorem TbOk.size_of {t s b z} (h : T.inf t = some (s, b, z)) (w : World) : (sizeOf t).run P w = .ok s w := by
  obtain ⟨i, a, c, d, e⟩ := hT.inf t s b z h
  simp [sizeOf, typeInfo, a, c]
theorem TbOk.zero_value {t s b z} (h : T.inf t = some (s, b, z)) (w : World) : (zeroValue t).run P w = .ok z w := by
  obtain ⟨i, a, c, d, e⟩ := hT.inf t s b z h
  simp [zeroValue, typeInfo, a, e]
theorem TbOk.is_agg {t d} (h : T.und t = some d) (w : World) : (isAgg t).run P w = .ok (isRow d) w := by
  unfold isAgg
  rw [Sem.run_bind, run_underlying (hT.und t d h) w]
  cases d <;> rfl
end
structure Res where
  v : Value
  F : Hp
  nx : Nat
  vc : Prop
def OpS (P : Program) (run : Sem Next) (m : Mp) (F : Hp) (nx : Nat) (w : World) (r : Res) : Prop :=
  ∃ m' w' x, run.run P w = .ok x w' ∧ HR m' r.F r.nx w' ∧ Stp m F nx w m' r.F r.nx w' ∧ ((∃ v', x = .value v' ∧ VR m' r.v v') ∨ (x = .skip ∧ r.v = undef))
def putc (cs : List Value) (off : Nat) : List Value → List Value
  | [v] => cs.set off v
  | vs => splice cs off vs
theorem putc_eq (cs : List Value) (off : Nat) (vs : List Value) (h : off + vs.length ≤ cs.length) : putc cs off vs = splice cs off vs := by
  match vs with
  | [] => rfl
  | [v] =>
    simp only [putc, splice]
    simp at h
    apply List.ext_getElem?
    intro i
    have := splice_get cs off [v] (by simpa using h) i
    unfold splice at this
    rw [this, List.getElem?_set]
    by_cases h1 : i < off
    · rw [if_pos h1, if_neg (by omega)]
    · rw [if_neg h1]
      by_cases h2 : off = i
      · subst h2; simp; omega
      · rw [if_neg h2, if_neg (by simp; omega)]
  | _ :: _ :: _ => rfl
def isTup : Value → Bool
  | .tuple _ => true
  | _ => false
theorem cells_one {m : Mp} {v v' : Value} (h : VR m v v') (ht : isTup v = false) : v.cells.toList.all (·.oneCell') = true := by
  cases h with
  | agg h h1 => exact h1
  | tuple h => simp [isTup] at ht
  | _ => rfl
def ibin (op : BinOp) (k : IntKind) (a b : Int) : Option (Value × Prop) :=
  match op with
  | .add => some (.int k (k.wrap (a + b)), True)
  | .sub => some (.int k (k.wrap (a - b)), True)
  | .mul => some (.int k (k.wrap (a * b)), True)
  | .quo => some (.int k (k.wrap (a.tdiv b)), b ≠ 0)
  | .rem => some (.int k (a.tmod b), b ≠ 0)
  | .and => some (.int k (k.wrap (BitVec.ofInt k.bits a &&& BitVec.ofInt k.bits b).toNat), True)
  | .or => some (.int k (k.wrap (BitVec.ofInt k.bits a ||| BitVec.ofInt k.bits b).toNat), True)
  | .xor => some (.int k (k.wrap (BitVec.ofInt k.bits a ^^^ BitVec.ofInt k.bits b).toNat), True)
  | .andNot => some (.int k (k.wrap (BitVec.ofInt k.bits a &&& ~~~BitVec.ofInt k.bits b).toNat), True)
  | .eql => some (.bool (a == b), True)
  | .neq => some (.bool (a != b), True)
  | .lss => some (.bool (decide (a < b)), True)
  | .leq => some (.bool (decide (a ≤ b)), True)
  | .gtr => some (.bool (decide (a > b)), True)
  | .geq => some (.bool (decide (a ≥ b)), True)
  | _ => none
def ishift (op : BinOp) (k : IntKind) (a b : Int) : Option (Value × Prop) :=
  match op with
  | .shl => some (.int k (k.wrap (a * 2 ^ (min b.toNat k.bits))), 0 ≤ b)
  | .shr => some (.int k (a.fdiv (2 ^ (min b.toNat k.bits))), 0 ≤ b)
  | _ => none
def istr (op : BinOp) (x y : ByteArray) : Option (Value × Prop) :=
  match op with
  | .add => some (.string (x ++ y), ((x.size + y.size : Nat) : Int) ≤ 9223372036854775807)
  | .eql => some (.bool (x.toList == y.toList), True)
  | .neq => some (.bool (!(x.toList == y.toList)), True)
  | _ => none
def isShift : BinOp → Bool
  | .shl | .shr => true
  | _ => false
def ibinOp (T : Tb) (op : BinOp) (t : TypeId) (x y : Value) : Option (Value × Prop) :=
  match x, y with
  | .int k a, .int k' b => if isShift op then ishift op k a b else if k = k' then ibin op k a b else none
  | .string a, .string b => istr op a b
  | .bool a, .bool b => match T.und t with
    | some .bool => match op with
      | .eql => some (.bool (a == b), True)
      | .neq => some (.bool (a != b), True)
      | _ => none
    | _ => none
  | _, _ => none
theorem equal_bool {P : Program} {t : TypeId} (hu : P.underlying t = some .bool) (a b : Bool) (w : World) : (Op.equal t (.bool a) (.bool b)).run P w = .ok (a == b) w := by
  show (Op.equalIn (9999 + 1) t (.bool a) (.bool b)).run P w = _
  generalize 9999 = d
  simp [Op.equalIn, run_underlying hu]
theorem ibinOp_run {P : Program} {T : Tb} (hT : TbOk P T) {op : BinOp} {t : TypeId} {x y v : Value} {vc : Prop} (h : ibinOp T op t x y = some (v, vc)) (hv : vc) (w : World) (X Y : Operand) :
    ((do eqGuard op t X Y x y; binOp op t x y : Sem Value)).run P w = .ok v w ∧ flat1 x = true ∧ flat1 y = true ∧ flat1 v = true := by
  unfold ibinOp at h
  split at h
  · rename_i k a k' b
    refine ⟨?_, rfl, rfl, ?_⟩
    · have hg : (eqGuard op t X Y (.int k a) (.int k' b)).run P w = .ok () w := by
        unfold eqGuard; cases op <;> simp
      simp only [Sem.run_bind, hg, Result.andThen_ok]
      split at h
      · rename_i hs
        unfold ishift at h
        split at h <;> cases h
        · simp [binOp, Op.shift, show ¬ b < 0 by omega]
        · simp [binOp, Op.shift, show ¬ b < 0 by omega]
      · rename_i hs
        split at h
        · rename_i hk; subst hk
          unfold ibin at h
          split at h <;> cases h <;> first | (simp [isShift] at hs; done) | simp_all [binOp, Op.intArith, Op.intDiv, Op.intBits, Op.intCmp]
        · cases h
    · split at h
      · unfold ishift at h; split at h <;> cases h <;> rfl
      · split at h
        · unfold ibin at h; split at h <;> cases h <;> rfl
        · cases h
  · rename_i a b
    refine ⟨?_, rfl, rfl, ?_⟩
    · have hg : (eqGuard op t X Y (.string a) (.string b)).run P w = .ok () w := by
        unfold eqGuard; cases op <;> simp
      simp only [Sem.run_bind, hg, Result.andThen_ok]
      unfold istr at h
      split at h <;> cases h
      · have : ¬ (((a.size + b.size : Nat) : Int) > IntKind.i64.max) := by simp only [IntKind.max, IntKind.signed, IntKind.bits]; omega
        simp only [binOp, Op.stringOp, if_neg this, Sem.run_pure]
      · simp [binOp, Op.stringOp]
      · simp [binOp, Op.stringOp]
    · unfold istr at h; split at h <;> cases h <;> rfl
  · rename_i a b
    split at h
    · rename_i hu
      refine ⟨?_, rfl, rfl, ?_⟩
      · have hg : (eqGuard op t X Y (.bool a) (.bool b)).run P w = .ok () w := by
          unfold eqGuard; cases op <;> simp
        simp only [Sem.run_bind, hg, Result.andThen_ok]
        split at h <;> cases h
        · simp only [binOp, Sem.run_bind, equal_bool (hT.und _ _ hu), Result.andThen_ok, Sem.run_pure]
        · simp only [binOp, Sem.run_bind, equal_bool (hT.und _ _ hu), Result.andThen_ok, Sem.run_pure, bne]
      · split at h <;> cases h <;> rfl
    · cases h
  · cases h
end Go.Proofs.Ytoihmanhldcjhaa.Id
namespace Go.Proofs.Ytoihmanhldcjhaa.Id
open Go
set_option linter.unusedVariables false
set_option linter.unusedSimpArgs false
def iload (T : Tb) (F : Hp) (t : TypeId) (a : Value) : Option (Value × Prop) :=
  match a with
  | .pointer (some ⟨id, off, none⟩) =>
    match look id F, T.und t with
    | some blk, some d =>
      if isRow d then match T.inf t with
        | some (s, _, _) => some (.agg ((blk.cells.drop off).take s).toArray, off + s ≤ blk.cells.length)
        | none => none
      else match blk.cells[off]? with
        | some v => some (v, True)
        | none => none
    | _, _ => none
  | _ => none
def istore (T : Tb) (F : Hp) (t : TypeId) (a v : Value) : Option (Hp × Prop) :=
  match a with
  | .pointer (some ⟨id, off, none⟩) =>
    match look id F, T.inf t with
    | some blk, some (s, _, _) =>
      if blk.ro || isTup v then none
      else some ((id, { blk with cells := putc blk.cells off v.cells.toList }) :: F, v.cells.toList.length = s ∧ off + s ≤ blk.cells.length)
    | _, _ => none
  | _ => none
def ifieldAddr (T : Tb) (t : TypeId) (a : Value) (i : Nat) : Option Value :=
  match a with
  | .pointer (some ⟨id, off, none⟩) =>
    match T.und t with
    | some (.struct fields) => match fields[i]? with
      | some f => match T.inf f.type with
        | some (s, _, _) => if s = 0 then none else some (.pointer (some ⟨id, off + f.offset, none⟩))
        | none => none
      | none => none
    | _ => none
  | _ => none
def iindexAddr (T : Tb) (t : TypeId) (a i : Value) : Option (Value × Prop) :=
  match T.und t, a, i with
  | some (.slice e), .slice (some ⟨id, off, none⟩) len cap, .int k n => match T.inf e with
    | some (s, _, _) => some (.pointer (some ⟨id, off + n.toNat * s, none⟩), 0 ≤ n ∧ n < len)
    | none => none
  | some (.array len e), .pointer (some ⟨id, off, none⟩), .int k n => match T.inf e with
    | some (s, _, _) => some (.pointer (some ⟨id, off + n.toNat * s, none⟩), 0 ≤ n ∧ n < len)
    | none => none
  | _, _, _ => none
def ipart (T : Tb) (t : TypeId) (cs : List Value) (off : Nat) : Option (Value × Prop) :=
  match T.und t with
  | some d =>
    if isRow d then match T.inf t with
      | some (s, _, _) => some (.agg ((cs.drop off).take s).toArray, True)
      | none => none
    else match cs[off]? with
      | some v => some (v, True)
      | none => none
  | none => none
def ifield (T : Tb) (t : TypeId) (x : Value) (i : Nat) : Option (Value × Prop) :=
  match T.und t, x with
  | some (.struct fields), .agg cs => match fields[i]? with
    | some f => ipart T f.type cs.toList f.offset
    | none => none
  | _, _ => none
def iindex (T : Tb) (t : TypeId) (x i : Value) : Option (Value × Prop) :=
  match T.und t, x, i with
  | some (.array len e), .agg cs, .int k n => match T.inf e with
    | some (s, _, _) => match ipart T e cs.toList (n.toNat * s) with
      | some (v, vc) => some (v, vc ∧ 0 ≤ n ∧ n < len)
      | none => none
    | none => none
  | _, _, _ => none
def iun (op : UnOp) (x : Value) : Option Value :=
  match op, x with
  | .neg, .int k n => some (.int k (k.wrap (0 - n)))
  | .xor, .int k n => some (.int k (k.wrap (BitVec.ofInt k.bits (if k.signed then -1 else k.max) ^^^ BitVec.ofInt k.bits n).toNat))
  | .not, .bool b => some (.bool !b)
  | _, _ => none
def iconv (T : Tb) (src dst : TypeId) (x : Value) : Option Value :=
  match T.und src, T.und dst, x with
  | some (.int _), some (.int k), .int _ n => some (.int k (k.wrap n))
  | _, _, _ => none
def ilen (T : Tb) (t : TypeId) (x : Value) : Option Value :=
  match T.und t, x with
  | some .string, .string s => some (.int .i64 s.size)
  | some (.array n _), _ => some (.int .i64 n)
  | some (.slice _), .slice _ n _ => some (.int .i64 n)
  | _, _ => none
def inil (x : Value) : Option Value :=
  match x with
  | .pointer (some a) => some x
  | .func (.func f) a b => some x
  | _ => none
def iextract (x : Value) (i : Nat) : Option Value :=
  match x with
  | .tuple vs => vs.toList[i]?
  | _ => none
def iassert (T : Tb) (x : Value) (t : TypeId) (ok : Bool) : Option (Value × Prop) :=
  match T.und t, x with
  | some (.interface _), _ => none
  | some _, .iface u v => if ok then none else some (v, u = t)
  | _, _ => none
section
variable {P : Program} {T : Tb} {m : Mp} {F : Hp} {nx : Nat} {w : World}
theorem OpS.val {run : Sem Next} {v v' : Value} {vc : Prop} (h : run.run P w = .ok (.value v') w) (hh : HR m F nx w) (hv : VR m v v') : OpS P run m F nx w ⟨v, F, nx, vc⟩ :=
  ⟨m, w, _, h, hh, Stp.refl _ _ _ _, .inl ⟨v', rfl, hv⟩⟩
variable (hT : TbOk P T)
include hT
theorem iload_run {t : TypeId} {a a' v : Value} {vc : Prop} (hh : HR m F nx w) (ha : VR m a a') (h : iload T F t a = some (v, vc)) (hv : vc) :
    ∃ v', (Instr.loadAt t a').run P w = .ok v' w ∧ VR m v v' := by
  unfold iload at h
  split at h
  · rename_i id off
    split at h
    · rename_i blk d hb hu
      cases ha with
      | ptr off hp =>
        rename_i p
        obtain ⟨q, e, br⟩ := hh.has id blk hb
        rw [hp] at e; cases e
        split at h
        · rename_i hrow
          split at h
          · rename_i s b z hi
            cases h
            obtain ⟨cs', h1, h2, h3⟩ := br.range off s hv
            obtain ⟨i, a1, a2, a3, a4⟩ := hT.inf t s b z hi
            have hl : (loadCells ⟨p.b, p.base + off, none⟩ s).run P w = .ok cs'.toArray w := by
              have := run_loadCells_list (P := P) w ⟨p.b, p.base + off, none⟩ cs' (fun j v hv => by
                have e : (⟨p.b, p.base + off, none⟩ : Addr).add j = ⟨p.b, p.base + off + j, none⟩ := by unfold Addr.add; split <;> simp_all
                rw [e]; exact h3 j v hv)
              rwa [h1] at this
            refine ⟨.agg cs'.toArray, ?_, .agg (by simpa using h2) ?_⟩
            · simp only [Instr.loadAt, Instr.sureAddr, Sem.run_bind, Sem.run_pure, Result.andThen_ok, loadVar, hT.is_agg hu, hrow, if_true, hT.size_of hi, hl]
            · have := br.one
              rw [List.all_eq_true] at this ⊢
              exact fun x hx => this x (List.mem_of_mem_drop (List.mem_of_mem_take (by simpa using hx)))
          · cases h
        · rename_i hrow
          split at h
          · rename_i u hc
            cases h
            obtain ⟨v', h1, h2⟩ := br.cell hc
            refine ⟨v', ?_, h2⟩
            have hrow' : isRow d = false := by simpa using hrow
            simp [Instr.loadAt, Instr.sureAddr, loadVar, hT.is_agg hu, hrow', h1]
          · cases h
    · cases h
  · cases h
theorem istore_run {t : TypeId} {a a' v v' : Value} {vc : Prop} {F' : Hp} (hh : HR m F nx w) (ha : VR m a a') (hvv : VR m v v') (h : istore T F t a v = some (F', vc)) (hv : vc) :
    ∃ w', (Instr.storeAt t a' v').run P w = .ok () w' ∧ HR m F' nx w' ∧ Stp m F nx w m F' nx w' := by
  unfold istore at h
  split at h
  · rename_i id off
    split at h
    · rename_i blk s b z hb hi
      cases ha with
      | ptr off hp =>
        rename_i p
        split at h
        · cases h
        · rename_i hc
          simp only [Bool.or_eq_true, not_or, Bool.not_eq_true] at hc
          cases h
          rw [putc_eq _ _ _ (by omega)]
          obtain ⟨w', h1, h2, h3⟩ := hh.store (P := P) hb hp hc.1 off v.cells.toList v'.cells.toList (by omega) hvv.cells (cells_one hvv hc.2)
          refine ⟨w', ?_, h2, h3⟩
          have hs : v'.cells.size = s := by have := hvv.cells.length; simp at this; have := hv.1; simp at this; omega
          simp [Instr.storeAt, Instr.sureAddr, storeVar, hT.size_of hi, hs, h1]
    · cases h
  · cases h
omit hT in
theorem addr_add (b o n : Nat) : (⟨b, o, none⟩ : Addr).add n = ⟨b, o + n, none⟩ := by unfold Addr.add; split <;> simp_all
theorem ifieldAddr_run {t : TypeId} {a a' v : Value} {i : Nat} (ha : VR m a a') (h : ifieldAddr T t a i = some v) :
    ∃ v', (Instr.fieldAt t a' i).run P w = .ok v' w ∧ VR m v v' := by
  unfold ifieldAddr at h
  split at h
  · rename_i id off
    cases ha with
    | ptr off hp =>
      rename_i p
      split at h
      · rename_i fields hu
        split at h
        · rename_i f hf
          split at h
          · rename_i s b z hi
            split at h
            · cases h
            · rename_i hs
              cases h
              refine ⟨_, ?_, .ptr (off + f.offset) hp⟩
              simp [Instr.fieldAt, Instr.sureAddr, run_underlying (hT.und _ _ hu), hf, fieldPlace, hT.size_of hi, hs, addr_add, Nat.add_assoc]
          · cases h
        · cases h
      · cases h
  · cases h
theorem iindexAddr_run {t : TypeId} {a a' i i' v : Value} {vc : Prop} (ha : VR m a a') (hi : VR m i i') (h : iindexAddr T t a i = some (v, vc)) (hv : vc) :
    ∃ v', (Instr.indexAt t a' i').run P w = .ok v' w ∧ VR m v v' := by
  unfold iindexAddr at h
  split at h
  · rename_i e id off len cap k n hu
    split at h
    · rename_i s b z hs
      cases h
      cases hi
      cases ha with
      | sl off l c c' hp hc hr hl =>
        rename_i p
        refine ⟨_, ?_, by exact .ptr (off + n.toNat * s) hp⟩
        simp [Instr.indexAt, asIntOf, run_underlying (hT.und _ _ hu), hv.1, hv.2, hT.size_of hs, addr_add, Nat.add_assoc]
      | se => exact absurd hv.2 (by have := hv.1; simp; omega)
    · cases h
  · rename_i len e id off k n hu
    split at h
    · rename_i s b z hs
      cases h
      cases hi
      cases ha with
      | ptr off hp =>
        rename_i p
        refine ⟨_, ?_, by exact .ptr (off + n.toNat * s) hp⟩
        simp [Instr.indexAt, asIntOf, Instr.sureAddr, run_underlying (hT.und _ _ hu), hv.1, hv.2, hT.size_of hs, addr_add, Nat.add_assoc]
    · cases h
  · cases h
theorem ipart_run {t : TypeId} {cs cs' : List Value} {off : Nat} {v : Value} {vc : Prop} (hc : VRs m cs cs') (h1 : cs.all (·.oneCell') = true) (h : ipart T t cs off = some (v, vc)) :
    ∃ v', (part t cs'.toArray off).run P w = .ok v' w ∧ VR m v v' := by
  unfold ipart at h
  split at h
  · rename_i d hu
    split at h
    · rename_i hrow
      split at h
      · rename_i s b z hs
        cases h
        refine ⟨.agg ((cs'.drop off).take s).toArray, ?_, .agg (by simpa using (hc.drop off).take s) ?_⟩
        · simp only [part, Sem.run_bind, hT.is_agg hu, hrow, Result.andThen_ok, if_true, hT.size_of hs, Sem.run_pure]
          congr 2
          simp [List.extract_eq_take_drop]
        · rw [List.all_eq_true] at h1 ⊢
          exact fun x hx => h1 x (List.mem_of_mem_drop (List.mem_of_mem_take (by simpa using hx)))
      · cases h
    · rename_i hrow
      split at h
      · rename_i u hu2
        cases h
        obtain ⟨v', a, b⟩ := hc.get hu2
        refine ⟨v', ?_, b⟩
        have hrow' : isRow d = false := by simpa using hrow
        simp [part, hT.is_agg hu, hrow', a]
      · cases h
  · cases h
theorem ifield_run {t : TypeId} {x x' v : Value} {i : Nat} {vc : Prop} (hx : VR m x x') (h : ifield T t x i = some (v, vc)) :
    ∃ v', (Instr.field t x' i).run P w = .ok v' w ∧ VR m v v' := by
  unfold ifield at h
  split at h
  · rename_i fields cs hu
    split at h
    · rename_i f hf
      cases hx with
      | agg hc h1 =>
        rename_i cs'
        obtain ⟨v', a, b⟩ := ipart_run hT (w := w) hc h1 h
        exact ⟨v', by simp [Instr.field, run_underlying (hT.und _ _ hu), hf, asAgg, a], b⟩
    · cases h
  · cases h
theorem iindex_run {t : TypeId} {x x' i i' v : Value} {vc : Prop} (hx : VR m x x') (hi : VR m i i') (h : iindex T t x i = some (v, vc)) (hv : vc) :
    ∃ v', (Instr.index t x' i').run P w = .ok v' w ∧ VR m v v' := by
  unfold iindex at h
  split at h
  · rename_i len e cs k n hu
    split at h
    · rename_i s b z hs
      split at h
      · rename_i u uc hp
        cases h
        cases hi
        cases hx with
        | agg hc h1 =>
          rename_i cs'
          obtain ⟨v', a, b⟩ := ipart_run hT (w := w) hc h1 hp
          exact ⟨v', by simp [Instr.index, asIntOf, run_underlying (hT.und _ _ hu), hv.2.1, hv.2.2, hT.size_of hs, a], b⟩
      · cases h
    · cases h
  · cases h
theorem iconv_run {s d : TypeId} {x x' v : Value} (hx : VR m x x') (h : iconv T s d x = some v) : (convert s d x').run P w = .ok v w ∧ flat1 v = true := by
  unfold iconv at h
  split at h
  · rename_i k1 k k2 n h1 h2
    cases h
    cases hx
    exact ⟨by simp [convert, run_underlying (hT.und _ _ h1), run_underlying (hT.und _ _ h2), Conv.intToInt], rfl⟩
  · cases h
theorem ilen_run {t : TypeId} {x x' v : Value} {ty : TypeId} (hx : VR m x x') (h : ilen T t x = some v) : (Builtin.len_ #[t] ty #[x']).run P w = .ok v w ∧ flat1 v = true := by
  unfold ilen at h
  split at h
  · rename_i s hu
    cases h; cases hx
    exact ⟨by simp [Builtin.len_, run_underlying (hT.und _ _ hu), goInt], rfl⟩
  · rename_i n e hu
    cases h
    exact ⟨by simp [Builtin.len_, run_underlying (hT.und _ _ hu), goInt], rfl⟩
  · rename_i e a n c hu
    cases h
    cases hx with
    | snil => exact ⟨by simp [Builtin.len_, run_underlying (hT.und _ _ hu), goInt], rfl⟩
    | sl => exact ⟨by simp [Builtin.len_, run_underlying (hT.und _ _ hu), goInt], rfl⟩
    | se => exact ⟨by simp [Builtin.len_, run_underlying (hT.und _ _ hu), goInt], rfl⟩
  · cases h
omit hT in
theorem iun_run {op : UnOp} {x x' v : Value} (hx : VR m x x') (h : iun op x = some v) : (Op.unary op x').run P w = .ok v w ∧ flat1 v = true := by
  unfold iun at h
  split at h <;> cases h <;> cases hx
  · exact ⟨by simp [Op.unary, Op.intArith], rfl⟩
  · exact ⟨by simp [Op.unary, Op.intBits], rfl⟩
  · exact ⟨by simp [Op.unary], rfl⟩
theorem iassert_run {x x' v : Value} {xt t : TypeId} {ok : Bool} {vc : Prop} (hx : VR m x x') (h : iassert T x t ok = some (v, vc)) (hv : vc) :
    ∃ v', (Instr.typeAssert x' xt t ok).run P w = .ok v' w ∧ VR m v v' := by
  unfold iassert at h
  split at h
  · cases h
  · rename_i d u v hn hu
    split at h
    · cases h
    · rename_i hok
      cases h
      cases hx with
      | iface t h =>
        rename_i v'
        subst hv
        refine ⟨v', ?_, h⟩
        have hok' : ok = false := by simpa using hok
        subst hok'
        simp only [Instr.typeAssert, Sem.run_bind, run_underlying (hT.und _ _ hu), Result.andThen_ok]
        cases d <;> first | (exact absurd hu (hn _)) | simp
  · cases h
end
end Go.Proofs.Ytoihmanhldcjhaa.Id
namespace Go.Proofs.Ytoihmanhldcjhaa.Id
open Go
set_option linter.unusedVariables false
set_option linter.unusedSimpArgs false
def ifill (place : Nat → Option (Nat × Nat)) (cs : List Value) : List (Nat × Value) → Option (List Value)
  | [] => some cs
  | (i, v) :: rest => match place i with
    | none => none
    | some (off, size) => if isTup v = true then none else if v.cells.toList.length = size ∧ off + size ≤ cs.length then ifill place (putc cs off v.cells.toList) rest else none
def rep (z : List Value) : Nat → List Value
  | 0 => []
  | n + 1 => z ++ rep z n
def iparts (ρ : Operand → Option Value) : List (Nat × Operand) → Option (List (Nat × Value))
  | [] => some []
  | (i, x) :: rest => match ρ x, iparts ρ rest with
    | some v, some l => some ((i, v) :: l)
    | _, _ => none
def iplaces (T : Tb) : List Field → Option (List (Nat × Nat))
  | [] => some []
  | f :: fs => match T.inf f.type, iplaces T fs with
    | some (s, _, _), some l => some ((f.offset, s) :: l)
    | _, _ => none
def ibuild (T : Tb) (t : TypeId) (parts : List (Nat × Value)) : Option Value :=
  match T.und t, T.inf t with
  | some (.struct fields), some (_, _, z) => match iplaces T fields.toList with
    | some ps => match ifill (fun i => ps[i]?) z.cells.toList parts with
      | some cs => some (.agg cs.toArray)
      | none => none
    | none => none
  | some (.array _ e), some (_, _, z) => match T.inf e with
    | some (s, _, _) => match ifill (fun i => some (i * s, s)) z.cells.toList parts with
      | some cs => some (.agg cs.toArray)
      | none => none
    | none => none
  | _, _ => none
def ibuildSlice (T : Tb) (F : Hp) (nx : Nat) (t : TypeId) (len : Nat) (parts : List (Nat × Value)) : Option Res :=
  match T.und t with
  | some (.slice e) => match T.inf e with
    | some (s, _, z) => match ifill (fun i => some (i * s, s)) (rep z.cells.toList len) parts with
      | some cs => if len * s = 0 then none else some ⟨.slice (some ⟨nx, 0, none⟩) len len, (nx, ⟨cs, e, s, false, false⟩) :: F, nx + 1, len * s ≤ 16777216⟩
      | none => none
    | none => none
  | _ => none
def imakeSlice (T : Tb) (F : Hp) (nx : Nat) (t : TypeId) (l c : Value) : Option Res :=
  match T.und t, l, c with
  | some (.slice e), .int _ l, .int _ c => match T.inf e with
    | some (s, b, z) => if s = 0 then none else some ⟨.slice (some ⟨nx, 0, none⟩) l.toNat c.toNat, (nx, ⟨rep z.cells.toList c.toNat, e, s, false, false⟩) :: F, nx + 1, 0 ≤ l ∧ l ≤ c ∧ b * c ≤ 281474976710656 ∧ c ≤ 9223372036854775807⟩
    | none => none
  | _, _, _ => none
section
variable {P : Program} {T : Tb} {m : Mp} {F : Hp} {nx : Nat} {w : World}
theorem foldl_splice (off : Nat) : ∀ (vs : List Value) (j : Nat) (cells : Array Value), off + j + vs.length ≤ cells.size →
    ((vs.zipIdx j).foldl (fun (cs : Array Value) (x : Value × Nat) => cs.setIfInBounds (off + x.2) x.1) cells).toList = splice cells.toList (off + j) vs
  | [], j, cells, h => by simp [splice]
  | v :: vs, j, cells, h => by
    simp only [List.zipIdx_cons, List.foldl_cons]
    rw [foldl_splice off vs (j + 1) _ (by simp at h ⊢; omega)]
    apply List.ext_getElem?
    intro i
    simp at h
    rw [splice_get _ _ _ (by simp; omega), splice_get _ _ _ (by simp; omega)]
    simp only [Array.toList_setIfInBounds, List.getElem?_set, List.length_cons]
    by_cases c1 : i < off + j
    · rw [if_pos c1, if_pos (by omega), if_neg (by omega)]
    · rw [if_neg c1]
      by_cases c2 : i = off + j
      · subst c2
        have hsz : cells.toList.length = cells.size := by simp
        rw [if_pos (by omega), if_pos rfl, if_pos (by omega), if_pos (by omega)]
        simp
      · rw [if_neg (show ¬ i < off + (j + 1) by omega)]
        by_cases c3 : i < off + j + (vs.length + 1)
        · rw [if_pos (by omega), if_pos c3, show i - (off + j) = (i - (off + (j + 1))) + 1 by omega]; simp
        · rw [if_neg (by omega), if_neg c3, if_neg (by omega)]
theorem fill_step (off : Nat) (v : Array Value) (cells : Array Value) (h : off + v.size ≤ cells.size) :
    (v.zipIdx.foldl (fun (cs : Array Value) (x : Value × Nat) => cs.setIfInBounds (off + x.2) x.1) cells).toList = splice cells.toList off v.toList := by
  have := foldl_splice off v.toList 0 cells (by simpa using h)
  simp only [Nat.add_zero] at this
  rw [← this, ← Array.foldl_toList]
  simp
inductive PR (m : Mp) : List (Nat × Value) → List (Nat × Value) → Prop
  | nil : PR m [] []
  | cons (i : Nat) {v v' : Value} {l l' : List (Nat × Value)} (h : VR m v v') (t : PR m l l') : PR m ((i, v) :: l) ((i, v') :: l')
theorem all_one_splice {cs vs : List Value} {off : Nat} (h : cs.all (·.oneCell') = true) (h1 : vs.all (·.oneCell') = true) : (splice cs off vs).all (·.oneCell') = true := by
  rw [List.all_eq_true] at h h1 ⊢
  intro x hx
  simp only [splice, List.mem_append] at hx
  rcases hx with (hx | hx) | hx
  · exact h x (List.mem_of_mem_take hx)
  · exact h1 x hx
  · exact h x (List.mem_of_mem_drop hx)
theorem VRs.splice {cs cs' vs vs' : List Value} (off : Nat) (h : VRs m cs cs') (h2 : VRs m vs vs') : VRs m (splice cs off vs) (splice cs' off vs') := by
  unfold Id.splice
  rw [h2.length]
  exact ((h.take _).append h2).append (h.drop _)
theorem fill_rel (place : Nat → Option (Nat × Nat)) : ∀ {ps ps' : List (Nat × Value)} {cs r : List Value} {cs' : Array Value}, PR m ps ps' → VRs m cs cs'.toList → cs.all (·.oneCell') = true → ifill place cs ps = some r →
    ∃ r', Instr.fill place cs' ps' = some r' ∧ VRs m r r'.toList ∧ r.all (·.oneCell') = true
  | _, _, cs, r, cs', .nil, hc, h1, h => by cases h; exact ⟨cs', rfl, hc, h1⟩
  | _, _, cs, r, cs', .cons i (v := v) (v' := v') hv ht, hc, h1, h => by
    unfold ifill at h
    cases hp : place i with
    | none => rw [hp] at h; cases h
    | some x =>
      obtain ⟨off, size⟩ := x
      rw [hp] at h
      dsimp only at h
      split at h
      · cases h
      · rename_i hu
        split at h
        · rename_i hfit
          have hl := hv.cells.length
          have hl2 := hc.length
          simp at hl hl2
          have hsz : v.cells.toList.length = v.cells.size := by simp
          rw [putc_eq _ _ _ (by omega)] at h
          have hst := fill_step off v'.cells cs' (by omega)
          obtain ⟨r', a, b, c⟩ := fill_rel place (cs := splice cs off v.cells.toList) (cs' := v'.cells.zipIdx.foldl (fun (cs : Array Value) (x : Value × Nat) => cs.setIfInBounds (off + x.2) x.1) cs') ht
            (by rw [hst]; exact hc.splice off hv.cells) (all_one_splice h1 (cells_one hv (by simpa using hu))) h
          refine ⟨r', ?_, b, c⟩
          unfold Instr.fill
          rw [hp]
          dsimp only
          rw [if_neg]
          · exact a
          · simp; omega
        · cases h
theorem rep_length (z : List Value) (n : Nat) : (rep z n).length = n * z.length := by
  induction n with
  | zero => simp [rep]
  | succ n ih => simp [rep, ih, Nat.add_mul]; omega
theorem rep_get (z : List Value) (hz : 0 < z.length) : ∀ (n i : Nat), i < n * z.length → (rep z n)[i]? = z[i % z.length]?
  | 0, i, h => by simp at h
  | n + 1, i, h => by
    rw [rep]
    by_cases hi : i < z.length
    · rw [List.getElem?_append_left hi, Nat.mod_eq_of_lt hi]
    · rw [List.getElem?_append_right (by omega), rep_get z hz n _ (by rw [Nat.add_mul] at h; omega), ← Nat.mod_eq_sub_mod (by omega)]
theorem range_rep (z : Array Value) (hz : 0 < z.size) (n : Nat) : ((Array.range (n * z.size)).map (z[· % z.size]!)).toList = rep z.toList n := by
  apply List.ext_getElem?
  intro i
  by_cases hi : i < n * z.size
  · rw [rep_get _ (by simpa using hz) _ _ (by simpa using hi)]
    have hm : i % z.size < z.size := Nat.mod_lt _ hz
    simp [hi, hm]
  · rw [List.getElem?_eq_none (by simp; omega), List.getElem?_eq_none (by rw [rep_length]; simp; omega)]
theorem rep_flat {z : List Value} (h : z.all flat1 = true) (n : Nat) : (rep z n).all flat1 = true := by
  induction n with
  | zero => rfl
  | succ n ih => rw [rep, List.all_append, h, ih]; rfl
variable (hT : TbOk P T)
include hT
theorem iplaces_ok : ∀ {fs : List Field} {l : List (Nat × Nat)}, iplaces T fs = some l → fs.mapM (fun f => (P.info? f.type).map fun i => (f.offset, i.size)) = some l
  | [], l, h => by cases h; rfl
  | f :: fs, l, h => by
    unfold iplaces at h
    split at h
    · rename_i s b z l' h1 h2
      cases h
      obtain ⟨i, a1, a2, a3, a4⟩ := hT.inf _ _ _ _ h1
      simp [List.mapM_cons, a1, iplaces_ok h2, a2]
    · cases h
theorem ibuild_run {t : TypeId} {ps ps' : List (Nat × Value)} {v : Value} (hp : PR m ps ps') (h : ibuild T t ps = some v) :
    ∃ v', (Instr.build t ps'.toArray).run P w = .ok v' w ∧ VR m v v' := by
  unfold ibuild at h
  split at h
  · rename_i fields sz b z hu hi
    split at h
    · rename_i pl hpl
      split at h
      · rename_i cs hf
        cases h
        obtain ⟨i, a1, a2, a3, a4⟩ := hT.inf _ _ _ _ hi
        obtain ⟨z1, z2⟩ := hT.zero _ _ _ _ hi
        obtain ⟨r', b1, b2, b3⟩ := fill_rel (m := m) (fun i => pl[i]?) hp (VRs.of_flat1 z1) (all_one_flat1 z1) hf
        refine ⟨.agg r', run_build w t _ r' ?_, .agg (by simpa using b2) (by simpa using b3)⟩
        unfold Program.built
        rw [a1, hT.und _ _ hu]
        simp only [a4, iplaces_ok hT hpl]
        simpa using b1
      · cases h
    · cases h
  · rename_i n e sz b z hu hi
    split at h
    · rename_i s b2 z2 he
      split at h
      · rename_i cs hf
        cases h
        obtain ⟨i, a1, a2, a3, a4⟩ := hT.inf _ _ _ _ hi
        obtain ⟨j, c1, c2, c3, c4⟩ := hT.inf _ _ _ _ he
        obtain ⟨z1, z2⟩ := hT.zero _ _ _ _ hi
        obtain ⟨r', b1, b2, b3⟩ := fill_rel (m := m) _ hp (VRs.of_flat1 z1) (all_one_flat1 z1) hf
        refine ⟨.agg r', run_build w t _ r' ?_, .agg (by simpa using b2) (by simpa using b3)⟩
        unfold Program.built
        rw [a1, hT.und _ _ hu]
        simp only [a4, c1, c2]
        simpa using b1
      · cases h
    · cases h
  · cases h
theorem ibuildSlice_run {t : TypeId} {len : Nat} {ps ps' : List (Nat × Value)} {r : Res} (hh : HR m F nx w) (hp : PR m ps ps') (h : ibuildSlice T F nx t len ps = some r) (hv : r.vc) :
    ∃ m' w' v', (Instr.buildSlice t len ps'.toArray).run P w = .ok v' w' ∧ HR m' r.F r.nx w' ∧ Stp m F nx w m' r.F r.nx w' ∧ VR m' r.v v' := by
  unfold ibuildSlice at h
  split at h
  · rename_i e hu
    split at h
    · rename_i s b z hi
      split at h
      · rename_i cs hf
        split at h
        · cases h
        · rename_i hne
          cases h
          dsimp only at hv ⊢
          obtain ⟨i, a1, a2, a3, a4⟩ := hT.inf _ _ _ _ hi
          obtain ⟨z1, z2⟩ := hT.zero _ _ _ _ hi
          have hs0 : 0 < z.cells.size := by rw [z2]; exact Nat.pos_of_ne_zero (fun e => hne (by rw [e]; rfl))
          have hrr := range_rep z.cells hs0 len
          obtain ⟨r', b1, b2, b3⟩ := fill_rel (m := m) (fun i => some (i * s, s)) (cs' := (Array.range (len * z.cells.size)).map (z.cells[· % z.cells.size]!)) hp (by rw [hrr]; exact VRs.of_flat1 (rep_flat z1 len)) (all_one_flat1 (rep_flat z1 len)) hf
          have hrun := run_buildSlice (P := P) w t e len ps'.toArray r' i z (hT.und _ _ hu) a1 a4 (by rw [a2]; omega) (by rw [a2]; exact hne) (by rw [a2]; rw [z2] at b1; simpa [z2] using b1)
          obtain ⟨n1, n2⟩ := hh.new cs r'.toList e s b2 b3
          have hlen : cs.length = len * s := by
            have : ∀ (ps : List (Nat × Value)) (c r : List Value), ifill (fun i => some (i * s, s)) c ps = some r → r.length = c.length := by
              intro ps
              induction ps with
              | nil => intro c r h; cases h; rfl
              | cons x ps ih =>
                intro c r h
                obtain ⟨j, v⟩ := x
                unfold ifill at h
                dsimp only at h
                split at h
                · cases h
                · split at h
                  · rename_i hfit
                    rw [ih _ _ h, putc_eq _ _ _ (by omega), splice_length _ _ _ (by omega)]
                  · cases h
            rw [this _ _ _ hf, rep_length]
            simp [z2]
          refine ⟨_, _, _, hrun, n1, n2, ?_⟩
          exact .sl (p := ⟨w.heap.size, 0, cs.length, cs.length, s, false⟩) 0 len len len (by unfold mput; rw [if_pos rfl]) (.inl rfl) (by show 0 + len * s ≤ cs.length; omega) (Nat.le_refl _)
      · cases h
    · cases h
  · cases h
theorem imakeSlice_run {t : TypeId} {l l' c c' : Value} {r : Res} (hh : HR m F nx w) (hl : VR m l l') (hc : VR m c c') (h : imakeSlice T F nx t l c = some r) (hv : r.vc) :
    ∃ m' w' v', (Instr.makeSlice t l' c').run P w = .ok v' w' ∧ HR m' r.F r.nx w' ∧ Stp m F nx w m' r.F r.nx w' ∧ VR m' r.v v' := by
  unfold imakeSlice at h
  split at h
  · rename_i e kl l kc c hu
    split at h
    · rename_i s b z hi
      split at h
      · cases h
      · rename_i hs
        cases h
        dsimp only at hv ⊢
        cases hl; cases hc
        obtain ⟨i, a1, a2, a3, a4⟩ := hT.inf _ _ _ _ hi
        obtain ⟨z1, z2⟩ := hT.zero _ _ _ _ hi
        have hrun := run_make (P := P) w t e i z (hT.und _ _ hu) a1 a4 kl kc l c hv.1 hv.2.1 (by rw [a3]; exact hv.2.2.1) hv.2.2.2
        have hrr := range_rep z.cells (by rw [z2]; omega) c.toNat
        have hm : (madeCells z.cells (c.toNat * i.size)).toList = rep z.cells.toList c.toNat := by
          unfold madeCells; rw [a2]; rw [z2] at hrr; simpa [z2] using hrr
        obtain ⟨n1, n2⟩ := hh.new (rep z.cells.toList c.toNat) (madeCells z.cells (c.toNat * i.size)).toList e s (by rw [hm]; exact VRs.of_flat1 (rep_flat z1 _)) (all_one_flat1 (rep_flat z1 _))
        refine ⟨_, _, _, hrun, n1, n2, ?_⟩
        have hlen : (rep z.cells.toList c.toNat).length = c.toNat * s := by rw [rep_length]; simp [z2]
        exact .sl (p := ⟨w.heap.size, 0, (rep z.cells.toList c.toNat).length, (rep z.cells.toList c.toNat).length, s, false⟩) 0 l.toNat c.toNat c.toNat (by unfold mput; rw [if_pos rfl]) (.inl rfl) (by show 0 + c.toNat * s ≤ (rep z.cells.toList c.toNat).length; rw [hlen]; omega) (by omega)
    · cases h
  · cases h
end
end Go.Proofs.Ytoihmanhldcjhaa.Id
namespace Go.Proofs.Ytoihmanhldcjhaa.Id
open Go
set_option linter.unusedVariables false
set_option linter.unusedSimpArgs false
def iopt : Option Value → Option (Option Int)
  | none => some none
  | some (.int _ n) => some (some n)
  | _ => none
def islice (T : Tb) (F : Hp) (t : TypeId) (x : Value) (lo hi mx : Option Value) : Option (Value × Prop) :=
  match iopt lo, iopt hi, iopt mx with
  | some lo, some hi, some mx =>
    match T.und t, x with
    | some (.slice e), .slice a len cap => match T.inf e with
      | some (s, _, _) =>
        match a with
        | none => some (.slice none 0 0, lo.getD 0 = 0 ∧ hi.getD 0 = 0 ∧ mx.getD 0 = 0 ∧ (mx ≠ none → hi ≠ none))
        | some ⟨id, off, none⟩ => match look id F with
          | some blk => some (.slice (some ⟨id, off + (lo.getD 0).toNat * s, none⟩) ((hi.getD len).toNat - (lo.getD 0).toNat) ((mx.getD cap).toNat - (lo.getD 0).toNat),
              blk.sz = s ∧ 0 ≤ lo.getD 0 ∧ lo.getD 0 ≤ hi.getD len ∧ hi.getD len ≤ mx.getD cap ∧ mx.getD cap ≤ cap ∧ (mx ≠ none → hi ≠ none))
          | none => none
        | _ => none
      | none => none
    | some .string, .string b => if mx = none then some (.string (b.extract (lo.getD 0).toNat (hi.getD b.size).toNat), 0 ≤ lo.getD 0 ∧ lo.getD 0 ≤ hi.getD b.size ∧ hi.getD b.size ≤ b.size) else none
    | _, _ => none
  | _, _, _ => none
def isrc (T : Tb) (F : Hp) (size : Nat) (t : TypeId) (x : Value) : Option (Nat × List Value × Prop) :=
  match T.und t, x with
  | some (.slice _), .slice (some ⟨id, off, none⟩) n c => match look id F with
    | some blk => some (n, (blk.cells.drop off).take (n * size), off + n * size ≤ blk.cells.length)
    | none => none
  | some (.slice _), .slice none n c => some (0, [], True)
  | some .string, .string s => if size = 1 then some (s.size, byteCells s, True) else none
  | _, _ => none
def iappend (T : Tb) (F : Hp) (nx : Nat) (t t2 : TypeId) (s x : Value) : Option Res :=
  match T.und t with
  | some (.slice e) => match T.inf e with
    | some (sz, b, z) => match isrc T F sz t2 x with
      | some (n, news, vc) =>
        match s with
        | .slice none l c => if n = 0 then some ⟨.slice none 0 0, F, nx, vc⟩
          else some ⟨.slice (some ⟨nx, 0, none⟩) n n, (nx, ⟨news, e, sz, false, true⟩) :: F, nx + 1, vc ∧ n * b ≤ 140737488355328 ∧ n ≤ 9223372036854775807⟩
        | .slice (some ⟨id, off, none⟩) l c => if n = 0 then some ⟨.slice (some ⟨id, off, none⟩) l c, F, nx, vc⟩
          else match look id F with
            | some blk =>
              if l + n ≤ c then
                if blk.ro = true then none
                else some ⟨.slice (some ⟨id, off, none⟩) (l + n) c, (id, { blk with cells := putc blk.cells (off + l * sz) news }) :: F, nx, vc ∧ off + (l + n) * sz ≤ blk.cells.length⟩
              else if blk.loose = true ∧ off + c * sz = blk.cells.length then
                if blk.ro = true then none
                else some ⟨.slice (some ⟨nx, 0, none⟩) (l + n) (l + n), (nx, ⟨blk.cells.drop off ++ news, e, sz, false, true⟩) :: del id F, nx + 1, vc ∧ blk.sz = sz ∧ blk.elem = e ∧ l = c ∧ (l + n) * b ≤ 140737488355328 ∧ l + n ≤ 9223372036854775807⟩
              else some ⟨.slice (some ⟨nx, 0, none⟩) (l + n) (l + n), (nx, ⟨(blk.cells.drop off).take (l * sz) ++ news, e, sz, false, true⟩) :: F, nx + 1, vc ∧ blk.sz = sz ∧ off + l * sz ≤ blk.cells.length ∧ (l + n) * b ≤ 140737488355328 ∧ l + n ≤ 9223372036854775807⟩
            | none => none
        | _ => none
      | none => none
    | none => none
  | _ => none
section
variable {P : Program} {T : Tb} {m : Mp} {F : Hp} {nx : Nat} {w : World}
theorem iopt_run {x x' : Value} {r : Option Int} (h : iopt (some x) = some r) (hx : VR m x x') : ∃ k n, x' = .int k n ∧ r = some n := by
  cases hx <;> simp [iopt] at h
  exact ⟨_, _, rfl, h.symm⟩
inductive OR (m : Mp) : Option Value → Option Value → Prop
  | none : OR m none none
  | some {v v' : Value} (h : VR m v v') : OR m (some v) (some v')
theorem bounds_run {lo lo' hi hi' mx mx' : Option Value} {l h q : Option Int} (hl : OR m lo lo') (hh : OR m hi hi') (hm : OR m mx mx') (el : iopt lo = some l) (eh : iopt hi = some h) (em : iopt mx = some q)
    (isS : Bool) (len cap : Nat) (h0 : 0 ≤ l.getD 0) (h1 : l.getD 0 ≤ h.getD len) (h2 : h.getD len ≤ q.getD cap) (h3 : q.getD cap ≤ cap) (h4 : q ≠ none → h ≠ none) :
    (Instr.sliceBounds isS len cap lo' hi' mx').run P w = .ok ((l.getD 0).toNat, (h.getD len).toNat, (q.getD cap).toNat) w := by
  have e : ∀ x : Int, 0 ≤ x → ((x.toNat : Nat) : Int) = x := fun x h => Int.toNat_of_nonneg h
  cases hm with
  | none =>
    cases em
    cases hh with
    | none =>
      cases eh
      cases hl with
      | none => cases el; simp [Instr.sliceBounds]
      | some hl =>
        obtain ⟨k, n, rfl, rfl⟩ := iopt_run el hl
        simp only [Option.getD_some, Option.getD_none] at *
        simp [Instr.sliceBounds, run_sliceBound, h0, h1]
    | some hh =>
      obtain ⟨k, n, rfl, rfl⟩ := iopt_run eh hh
      cases hl with
      | none =>
        cases el
        simp only [Option.getD_some, Option.getD_none] at *
        simp [Instr.sliceBounds, run_sliceBound, h1, h2]
      | some hl =>
        obtain ⟨k2, n2, rfl, rfl⟩ := iopt_run el hl
        simp only [Option.getD_some, Option.getD_none] at *
        have : 0 ≤ n := by omega
        simp [Instr.sliceBounds, run_sliceBound, this, h0, h1, h2, e n this]
  | some hm =>
    obtain ⟨k, n, rfl, rfl⟩ := iopt_run em hm
    cases hh with
    | none => cases eh; exact absurd rfl (h4 (by simp))
    | some hh =>
      obtain ⟨k3, n3, rfl, rfl⟩ := iopt_run eh hh
      cases hl with
      | none =>
        cases el
        simp only [Option.getD_some, Option.getD_none] at *
        have : 0 ≤ n := by omega
        simp [Instr.sliceBounds, run_sliceBound, h1, h2, h3, this, e n this]
      | some hl =>
        obtain ⟨k2, n2, rfl, rfl⟩ := iopt_run el hl
        simp only [Option.getD_some, Option.getD_none] at *
        have : 0 ≤ n := by omega
        have : 0 ≤ n3 := by omega
        simp [Instr.sliceBounds, run_sliceBound, h0, h1, h2, h3, *, e n (by omega), e n3 this]
variable (hT : TbOk P T)
include hT
theorem islice_run {t : TypeId} {x x' v : Value} {lo lo' hi hi' mx mx' : Option Value} {vc : Prop} (hh : HR m F nx w) (hx : VR m x x') (hl : OR m lo lo') (hhi : OR m hi hi') (hm : OR m mx mx')
    (h : islice T F t x lo hi mx = some (v, vc)) (hv : vc) : ∃ v', (Instr.sliceAt t x' lo' hi' mx').run P w = .ok v' w ∧ VR m v v' := by
  unfold islice at h
  split at h
  · rename_i l h2 q el eh em
    split at h
    · rename_i e a len cap hu
      split at h
      · rename_i s b z hi2
        have hslice : ∀ (A : Option Addr) (n c : Nat), (Instr.sliceAt t (.slice A n c) lo' hi' mx').run P w =
            ((Instr.sliceBounds true n c lo' hi' mx').run P w).andThen fun b w => .ok (sliced A b.1 b.2.1 b.2.2 s) w := fun A n c => by
          have hPu := hT.und _ _ hu
          have he : P.elem t = e := by simp [Program.elem, hPu]
          rw [run_sliceAt_slice _ _ _ _ _ _ (by rw [he]; exact hPu), run_slice_any _ _ _ _ _ (by rw [he]; exact hPu), he]
          cases (Instr.sliceBounds true n c lo' hi' mx').run P w with
          | ok y w2 =>
            obtain ⟨i, a1, a2, a3, a4⟩ := hT.inf _ _ _ _ hi2
            simp [Result.andThen, sizeOf, typeInfo, a1, a2]
          | halt => rfl
        split at h
        · cases h
          cases hx
          obtain ⟨v1, v2, v3, v4⟩ := hv
          have hb := bounds_run (P := P) (w := w) hl hhi hm el eh em true 0 0 (by omega) (by cases h2 <;> simp at * <;> omega) (by cases h2 <;> cases q <;> simp at * <;> omega) (by cases q <;> simp at * <;> omega) v4
          refine ⟨_, by rw [hslice, hb]; rfl, ?_⟩
          have z1 : (h2.getD ((0 : Nat) : Int)).toNat = 0 := by cases h2 <;> simp at * ; omega
          have z2 : (q.getD ((0 : Nat) : Int)).toNat = 0 := by cases q <;> simp at * ; omega
          simp only [sliced, z1, z2, Option.map_none, ite_self, Nat.zero_sub]
          exact .snil
        · rename_i id off
          split at h
          · rename_i blk hb
            cases h
            obtain ⟨v0, v1, v2, v3, v4, v5⟩ := hv
            obtain ⟨p, hp, br⟩ := hh.has _ _ hb
            have hsz := br.sz
            cases hx with
            | sl off l0 c0 c' hp' hc hr hl0 =>
              rename_i p'
              rw [hp] at hp'; cases hp'
              have hcc : (cap : Int) ≤ c' := by rcases hc with rfl | ⟨_, _, h⟩ <;> omega
              have hq : q.getD (cap : Int) ≤ q.getD (c' : Int) := by cases q <;> simp; omega
              have hq2 : q.getD (c' : Int) ≤ c' := by cases q <;> simp at *; omega
              have hbr := bounds_run (P := P) (w := w) hl hhi hm el eh em true len c' v1 v2 (by omega) hq2 v5
              have hL : ((l.getD 0).toNat : Int) = l.getD 0 := Int.toNat_of_nonneg v1
              refine ⟨_, by rw [hslice, hbr]; rfl, ?_⟩
              have hbase : p.base + off + (l.getD 0).toNat * s = p.base + (off + (l.getD 0).toNat * s) := by omega
              by_cases hml : (q.getD (c' : Int)).toNat = (l.getD 0).toNat
              · have e1 : (h2.getD (len : Int)).toNat - (l.getD 0).toNat = 0 := by omega
                have e2 : (q.getD (cap : Int)).toNat - (l.getD 0).toNat = 0 := by omega
                have e3 : (q.getD (c' : Int)).toNat - (l.getD 0).toNat = 0 := by omega
                simp only [sliced, if_pos hml, e1, e2, e3]
                exact .se _ _ hp
              · simp only [sliced, if_neg hml, Option.map_some, addr_add, hbase]
                have hroom : off + (l.getD 0).toNat * s + ((q.getD (c' : Int)).toNat - (l.getD 0).toNat) * p.sz ≤ p.room := by
                  rw [hsz, v0]
                  have : (l.getD 0).toNat * s + ((q.getD (c' : Int)).toNat - (l.getD 0).toNat) * s = (q.getD (c' : Int)).toNat * s := by rw [← Nat.add_mul]; congr 1; omega
                  have h5 : (q.getD (c' : Int)).toNat * s ≤ c' * s := Nat.mul_le_mul_right _ (by omega)
                  rw [hsz, v0] at hr
                  omega
                refine .sl _ _ _ _ hp ?_ hroom (by omega)
                cases q with
                | some n => exact .inl rfl
                | none =>
                  simp only [Option.getD_none, Int.toNat_natCast] at *
                  rcases hc with rfl | ⟨a1, a2, a3⟩
                  · exact .inl rfl
                  · refine .inr ⟨a1, ?_, by omega⟩
                    rw [hsz, v0] at a2 ⊢
                    have : (l.getD 0).toNat * s + (cap - (l.getD 0).toNat) * s = cap * s := by rw [← Nat.add_mul]; congr 1; omega
                    omega
            | se off o hp' =>
              rw [hp] at hp'; cases hp'
              have l0 : (l.getD 0).toNat = 0 := by cases q <;> cases h2 <;> simp at * <;> omega
              have hq : (q.getD ((0 : Nat) : Int)).toNat = 0 := by cases q <;> simp at * ; omega
              have hH : (h2.getD ((0 : Nat) : Int)).toNat = 0 := by cases q <;> cases h2 <;> simp at * <;> omega
              have hbr := bounds_run (P := P) (w := w) hl hhi hm el eh em true 0 0 v1 v2 v3 v4 v5
              refine ⟨_, by rw [hslice, hbr]; rfl, ?_⟩
              simp only [sliced, l0, hq, hH, if_true, Nat.sub_self]
              exact .se _ _ hp
          · cases h
        · cases h
      · cases h
    · rename_i b hu
      split at h
      · rename_i hq
        cases h
        cases hx
        subst hq
        obtain ⟨v1, v2, v3⟩ := hv
        have hmx : mx' = none := by
          cases hm with
          | none => rfl
          | some h => obtain ⟨k, n, _, e⟩ := iopt_run em h; cases e
        subst hmx
        have hbr := bounds_run (P := P) (w := w) hl hhi (.none) el eh rfl false b.size b.size v1 v2 (by simpa using v3) (by simp) (by simp)
        refine ⟨_, ?_, .string _⟩
        simp [Instr.sliceAt, Instr.slice, run_underlying (hT.und _ _ hu), hbr]
      · cases h
    · cases h
  · cases h
theorem isrc_run {size : Nat} {t : TypeId} {x x' : Value} {n : Nat} {news : List Value} {vc : Prop} (hh : HR m F nx w) (hx : VR m x x') (h : isrc T F size t x = some (n, news, vc)) (hv : vc) :
    ∃ news', Src P size t x' n news' w ∧ VRs m news news' ∧ news.all (·.oneCell') = true := by
  unfold isrc at h
  split at h
  · rename_i e id off l c hu
    split at h
    · rename_i blk hb
      cases h
      obtain ⟨p, hp, br⟩ := hh.has _ _ hb
      have hone : ((blk.cells.drop off).take (n * size)).all (·.oneCell') = true := by
        have := br.one
        rw [List.all_eq_true] at this ⊢
        exact fun x hx => this x (List.mem_of_mem_drop (List.mem_of_mem_take hx))
      cases hx with
      | sl off l0 c0 c' hp' hc hr hl0 =>
        rename_i p'
        rw [hp] at hp'; cases hp'
        obtain ⟨cs', h1, h2, h3⟩ := br.range off _ hv
        refine ⟨cs', Src.ofSlice w (hT.und _ _ hu) ⟨p.b, p.base + off, none⟩ _ c' cs' h1 (fun j u hj => by rw [addr_add]; exact h3 j u hj) ?_, h2, hone⟩
        have := h2.all_one hone
        rwa [List.all_eq_true] at this
      | se off o hp' =>
        refine ⟨[], Src.ofSlice w (hT.und _ _ hu) ⟨_, o, none⟩ 0 0 [] (by simp) (fun j u hj => by simp at hj) (fun u hu => by cases hu), by simp; exact .nil, by simp⟩
    · cases h
  · rename_i e l c hu
    cases h
    cases hx
    exact ⟨[], Src.ofNil w (hT.und _ _ hu) 0, .nil, rfl⟩
  · rename_i s hu
    split at h
    · rename_i hs
      cases h
      cases hx
      subst hs
      have hf : (byteCells s).all flat1 = true := by
        rw [List.all_eq_true]
        intro x hx
        obtain ⟨_, _, rfl⟩ := List.mem_map.1 hx
        rfl
      exact ⟨byteCells s, Src.ofString w (hT.und _ _ hu) s, VRs.of_flat1 hf, all_one_flat1 hf⟩
    · cases h
  · cases h
omit hT in
theorem run_append_room' {t tx ty e : TypeId} {i : TypeInfo} (ht : P.underlying t = some (.slice e)) (hi : P.info? e = some i) (b off sLen sCap : Nat) (x : Value) (n : Nat) (news : List Value) (hs : Src P i.size tx x n news w)
    (hroom : sLen + n ≤ sCap) {w' : World} (hst : (storeCells ⟨b, off + sLen * i.size, none⟩ news).run P w = .ok () w') :
    (Builtin.append_ #[t, tx] ty #[.slice (some ⟨b, off, none⟩) sLen sCap, x]).run P w = .ok (.slice (some ⟨b, off, none⟩) (sLen + n) sCap) w' := by
  rcases hs.kind with ⟨e', hk⟩ | hk <;> simp [Builtin.append_, run_underlying ht, run_underlying hk, sizeOf, typeInfo, hi, hs.len, hroom, hs.cells, addr_add, hst]
theorem iappend_run {t t2 ty : TypeId} {s s' x x' : Value} {r : Res} (hh : HR m F nx w) (hs : VR m s s') (hx : VR m x x') (h : iappend T F nx t t2 s x = some r) (hv : r.vc) :
    ∃ m' w' v', (Builtin.append_ #[t, t2] ty #[s', x']).run P w = .ok v' w' ∧ HR m' r.F r.nx w' ∧ Stp m F nx w m' r.F r.nx w' ∧ VR m' r.v v' := by
  unfold iappend at h
  split at h
  · rename_i e hu
    split at h
    · rename_i sz b z hi
      split at h
      · rename_i n news vc hsrc
        obtain ⟨i, a1, a2, a3, a4⟩ := hT.inf _ _ _ _ hi
        obtain ⟨z1, z2⟩ := hT.zero _ _ _ _ hi
        have hPu := hT.und _ _ hu
        have hvc : vc := by
          revert h
          split
          · split
            · intro h; cases h; exact hv
            · intro h; cases h; exact hv.1
          · split
            · intro h; cases h; exact hv
            · split
              · split
                · split
                  · intro h; cases h
                  · intro h; cases h; exact hv.1
                · split
                  · split
                    · intro h; cases h
                    · intro h; cases h; exact hv.1
                  · intro h; cases h; exact hv.1
              · intro h; cases h
          · intro h; cases h
        obtain ⟨news', src, hnv, hn1⟩ := isrc_run hT hh hx hsrc hvc
        have hnl := src.newsLen
        have hnl2 := hnv.length
        subst a2
        have grow : ∀ (base : Option Addr) (l c : Nat) (olds olds' : List Value), (Builtin.firstCells i.size l (.slice base l c)).run P w.drew = .ok olds'.toArray w.drew → VRs m olds olds' → olds.all (·.oneCell') = true → olds.length = l * i.size →
            c < l + n → (l + n) * i.bytes ≤ 140737488355328 → l + n ≤ 9223372036854775807 →
            ∃ m' w' v', (Builtin.append_ #[t, t2] ty #[.slice base l c, x']).run P w = .ok v' w' ∧ HR m' ((nx, ⟨olds ++ news, e, i.size, false, true⟩) :: F) (nx + 1) w' ∧
              Stp m F nx w m' ((nx, ⟨olds ++ news, e, i.size, false, true⟩) :: F) (nx + 1) w' ∧ VR m' (.slice (some ⟨nx, 0, none⟩) (l + n) (l + n)) v' := by
          intro base l c olds olds' hold ho ho1 hol hlt hb1 hb2
          have hrun := run_append_grow_src (P := P) w t t2 ty e i z hPu a1 a4 base l c olds' hold x' n news' src hlt (by omega) (growslice_fits hlt hb1)
          have hcap := grownCap_ge w (l + n) c e
          have hd : HR m F nx w.drew := hh.heap rfl
          obtain ⟨n1, n2⟩ := hd.newx (olds ++ news) (olds' ++ news') (Builtin.zeroCells z.cells (grownCap w (l + n) c e - (l + n))).toList e i.size true (ho.append hnv) (by rw [List.all_append, ho1, hn1]; rfl)
          have hex : ((olds' ++ news') ++ (Builtin.zeroCells z.cells (grownCap w (l + n) c e - (l + n))).toList).toArray = (olds' ++ news').toArray ++ Builtin.zeroCells z.cells (grownCap w (l + n) c e - (l + n)) := by
            apply Array.ext'; simp
          rw [hex] at n1 n2
          refine ⟨_, _, _, hrun, n1, (Stp.heap rfl : Stp m F nx w m F nx w.drew).trans n2, ?_⟩
          have hzl : (Builtin.zeroCells z.cells (grownCap w (l + n) c e - (l + n))).toList.length = (grownCap w (l + n) c e - (l + n)) * i.size := by simp [size_zeroCells, z2]
          have hol2 := ho.length
          refine .sl (p := ⟨w.heap.size, 0, (olds ++ news).length + (Builtin.zeroCells z.cells (grownCap w (l + n) c e - (l + n))).toList.length, (olds ++ news).length, i.size, true⟩) 0 (l + n) (l + n) (grownCap w (l + n) c e) (by unfold mput; rw [if_pos rfl]; rfl) (.inr ⟨rfl, ?_, hcap⟩) ?_ (Nat.le_refl _)
          · show 0 + (l + n) * i.size = (olds ++ news).length
            rw [List.length_append, hol, ← hnl2, hnl, Nat.add_mul]; omega
          · show 0 + grownCap w (l + n) c e * i.size ≤ (olds ++ news).length + _
            rw [hzl, List.length_append, hol, ← hnl2, hnl, ← Nat.add_mul, ← Nat.add_mul]
            rw [show l + n + (grownCap w (l + n) c e - (l + n)) = grownCap w (l + n) c e by omega]; omega
        split at h
        · rename_i l c
          cases hs
          split at h
          · rename_i hn0
            cases h
            subst hn0
            have : news' = [] := List.eq_nil_of_length_eq_zero (by simpa using hnl)
            subst this
            exact ⟨m, w, _, run_append_nothing w t t2 ty e i hPu a1 none 0 0 (Nat.le_refl _) x' src, hh, Stp.refl _ _ _ _, .snil⟩
          · cases h
            obtain ⟨v1, v2, v3⟩ := hv
            have := grow none 0 0 [] [] (run_firstCells_none w.drew _ 0 0 0) .nil rfl (by simp) (by omega) (by simpa using a3 ▸ v2) (by simpa using v3)
            simpa using this
        · rename_i id off l c
          split at h
          · rename_i hn0
            cases h
            subst hn0
            have hne : news' = [] := List.eq_nil_of_length_eq_zero (by simpa using hnl)
            subst hne
            cases hs with
            | sl off l0 c0 c' hp' hc hr hl0 =>
              exact ⟨m, w, _, run_append_nothing w t t2 ty e i hPu a1 _ l c' (by rcases hc with rfl | ⟨_, _, h⟩ <;> omega) x' src, hh, Stp.refl _ _ _ _, .sl off l c c' hp' hc hr hl0⟩
            | se off o hp' => exact ⟨m, w, _, run_append_nothing w t t2 ty e i hPu a1 _ 0 0 (Nat.le_refl _) x' src, hh, Stp.refl _ _ _ _, .se off o hp'⟩
          · rename_i hn0
            split at h
            · rename_i blk hb
              obtain ⟨p, hp, br⟩ := hh.has _ _ hb
              have hlen := br.len
              have hsz := br.sz
              have hlo := br.loose
              split at h
              · rename_i hroom
                split at h
                · cases h
                · rename_i hro
                  cases h
                  obtain ⟨v1, v2⟩ := hv
                  cases hs with
                  | sl off l0 c0 c' hp' hc hr hl0 =>
                    rw [hp] at hp'; cases hp'
                    have hfit : off + l * i.size + news.length ≤ blk.cells.length := by rw [← hnl2, hnl]; rw [Nat.add_mul] at v2; omega
                    obtain ⟨w', q1, q2, q3⟩ := hh.store (P := P) hb hp (by simpa using hro) (off + l * i.size) news news' hfit hnv hn1
                    rw [← putc_eq _ _ _ hfit] at q2 q3
                    rw [← Nat.add_assoc] at q1
                    exact ⟨m, w', _, run_append_room' hPu a1 p.b (p.base + off) l c' x' n news' src (by rcases hc with rfl | ⟨_, _, h⟩ <;> omega) q1, q2, q3, .sl off (l + n) c c' hp hc hr hroom⟩
                  | se off o hp' => omega
              · rename_i hroom
                split at h
                · rename_i hloose
                  split at h
                  · cases h
                  · rename_i hro
                    cases h
                    obtain ⟨v1, v2, v6, rfl, v4, v5⟩ := hv
                    dsimp only
                    have hoffl : off + l * i.size = blk.cells.length := hloose.2
                    have hdl : (blk.cells.drop off).length = l * i.size := by rw [List.length_drop]; omega
                    have finish : ∀ (base : Option Addr) (c' : Nat), c' < l + n → (∃ olds', (Builtin.firstCells i.size l (.slice base l c')).run P w.drew = .ok olds'.toArray w.drew ∧ VRs m (blk.cells.drop off) olds') →
                        ∃ m' w' v', (Builtin.append_ #[t, t2] ty #[.slice base l c', x']).run P w = .ok v' w' ∧ HR m' ((nx, ⟨blk.cells.drop off ++ news, e, i.size, false, true⟩) :: del id F) (nx + 1) w' ∧
                          Stp m F nx w m' ((nx, ⟨blk.cells.drop off ++ news, e, i.size, false, true⟩) :: del id F) (nx + 1) w' ∧ VR m' (.slice (some ⟨nx, 0, none⟩) (l + n) (l + n)) v' := by
                      rintro base c' hlt ⟨olds', h1, h2⟩
                      have h3 : (blk.cells.drop off).all (·.oneCell') = true := by
                        have := br.one
                        rw [List.all_eq_true] at this ⊢
                        exact fun x hx => this x (List.mem_of_mem_drop hx)
                      obtain ⟨m', w', v', g1, g2, g3, g4⟩ := grow base l c' (blk.cells.drop off) olds' h1 h2 h3 hdl hlt (a3 ▸ v4) v5
                      have hsub : ∀ j bk, look j ((nx, (⟨blk.cells.drop off ++ news, e, i.size, false, true⟩ : Blk)) :: del id F) = some bk → look j ((nx, (⟨blk.cells.drop off ++ news, e, i.size, false, true⟩ : Blk)) :: F) = some bk := by
                        intro j bk hj
                        rw [look_cons] at hj ⊢
                        split at hj
                        · rename_i hjn; rw [if_pos hjn]; exact hj
                        · rename_i hjn
                          rw [if_neg hjn]
                          rw [look_del] at hj
                          split at hj
                          · cases hj
                          · exact hj
                      exact ⟨m', w', v', g1, g2.drop hsub, g3.drop hsub, g4⟩
                    have ho0 : ∀ (o : Nat), o = p.base + off → ∃ olds', (∀ (c' : Nat), (Builtin.firstCells i.size l (.slice (some ⟨p.b, o, none⟩) l c')).run P w.drew = .ok olds'.toArray w.drew) ∧ VRs m (blk.cells.drop off) olds' := by
                      rintro o rfl
                      obtain ⟨cs', h1, h2, h3⟩ := br.range off (l * i.size) (by omega)
                      rw [List.take_of_length_le (by omega)] at h2
                      exact ⟨cs', fun c' => run_firstCells_some w.drew i.size l ⟨p.b, p.base + off, none⟩ l c' cs' h1 (fun j v hj => by rw [addr_add]; exact h3 j v hj), h2⟩
                    cases hs with
                    | sl off l0 c0 c' hp' hc hr hl0 =>
                      rename_i p'
                      rw [hp] at hp'; cases hp'
                      by_cases hin : l + n ≤ c'
                      · have hsz2 : p.sz = i.size := hsz.trans v2
                        have hroom2 : off + l * i.size + news.length ≤ p.room := by
                          rw [← hnl2, hnl]
                          have : (l + n) * i.size ≤ c' * i.size := Nat.mul_le_mul_right _ hin
                          rw [Nat.add_mul] at this
                          rw [hsz2] at hr
                          omega
                        obtain ⟨w', q1, q2, q3⟩ := hh.regrow (P := P) hb hp (by simpa using hro) off (l * i.size) hoffl news news' hroom2 hnv hn1
                        rw [← Nat.add_assoc] at q1
                        rw [v2, v6] at q2 q3
                        refine ⟨_, w', _, run_append_room' hPu a1 p.b (p.base + off) l c' x' n news' src hin q1, q2, q3,
                          .sl (p := ⟨p.b, p.base + off, p.room - off, l * i.size + news.length, p.sz, true⟩) 0 (l + n) (l + n) c' (by unfold mput; rw [if_pos rfl]) (.inr ⟨rfl, ?_, hin⟩) ?_ (Nat.le_refl _)⟩
                        · show 0 + (l + n) * p.sz = l * i.size + news.length
                          rw [hsz2, ← hnl2, hnl, Nat.add_mul]; omega
                        · show 0 + c' * p.sz ≤ p.room - off
                          omega
                      · exact finish _ c' (by omega) (let ⟨o', x1, x2⟩ := ho0 _ rfl; ⟨o', x1 c', x2⟩)
                    | se off o hp' =>
                      refine finish _ 0 (by omega) ⟨[], ?_, ?_⟩
                      · simp [Builtin.firstCells, loadCells, loadCellsFrom]
                      · rw [List.length_drop] at hdl
                        rw [List.drop_eq_nil_of_le (by omega)]
                        exact .nil
                · rename_i hloose
                  cases h
                  obtain ⟨v1, v2, v3, v4, v5⟩ := hv
                  dsimp only
                  have hone : ((blk.cells.drop off).take (l * i.size)).all (·.oneCell') = true := by
                    have := br.one
                    rw [List.all_eq_true] at this ⊢
                    exact fun x hx => this x (List.mem_of_mem_drop (List.mem_of_mem_take hx))
                  obtain ⟨cs', h1, h2, h3⟩ := br.range off (l * i.size) v3
                  cases hs with
                  | sl off l0 c0 c' hp' hc hr hl0 =>
                    rw [hp] at hp'; cases hp'
                    have hcc : c' = c := by
                      rcases hc with rfl | ⟨x1, x2, x3⟩
                      · rfl
                      · exact absurd ⟨hlo ▸ x1, by rw [← v2, ← hsz, x2, hlen]⟩ hloose
                    subst hcc
                    exact grow _ l c' _ cs' (run_firstCells_some w.drew i.size l ⟨p.b, p.base + off, none⟩ l c' cs' h1 (fun j v hj => by rw [addr_add]; exact h3 j v hj)) h2 hone (by rw [List.length_take, List.length_drop]; omega) (by omega) (a3 ▸ v4) v5
                  | se off o hp' =>
                    have := grow (some ⟨p.b, o, none⟩) 0 0 [] [] (by simp [Builtin.firstCells, loadCells, loadCellsFrom]) .nil rfl (by simp) (by omega) (a3 ▸ v4) v5
                    rw [hp] at hp'; cases hp'
                    simpa using this
            · cases h
        · cases h
      · cases h
    · cases h
  · cases h
end
end Go.Proofs.Ytoihmanhldcjhaa.Id
namespace Go.Proofs.Ytoihmanhldcjhaa.Id
open Go
set_option linter.unusedVariables false
set_option linter.unusedSimpArgs false
def iargs (ρ : Operand → Option Value) : List Operand → Option (List Value)
  | [] => some []
  | x :: l => match ρ x, iargs ρ l with
    | some v, some vs => some (v :: vs)
    | _, _ => none
def iov (ρ : Operand → Option Value) : Option Operand → Option (Option Value)
  | none => some none
  | some x => match ρ x with
    | some v => some (some v)
    | none => none
def one2 (F : Hp) (nx : Nat) : Option (Value × Prop) → Option Res
  | some (v, vc) => some ⟨v, F, nx, vc⟩
  | none => none
def one1 (F : Hp) (nx : Nat) : Option Value → Option Res
  | some v => some ⟨v, F, nx, True⟩
  | none => none
def bytesOf : List Value → Option (List UInt8)
  | [] => some []
  | .int .u8 n :: l => match bytesOf l with
    | some s => some (UInt8.ofNat n.toNat :: s)
    | none => none
  | _ => none
def istring (T : Tb) (F : Hp) (src dst : TypeId) (x : Value) : Option (Value × Prop) :=
  match T.und src, T.und dst, x with
  | some (.slice e), some .string, .slice (some ⟨id, off, none⟩) n c => match T.und e, look id F with
    | some (.int .u8), some blk => match bytesOf ((blk.cells.drop off).take n) with
      | some l => some (.string ⟨l.toArray⟩, off + n ≤ blk.cells.length)
      | none => none
    | _, _ => none
  | some (.slice e), some .string, .slice none n c => match T.und e with
    | some (.int .u8) => some (.string .empty, True)
    | _ => none
  | _, _, _ => none
def imakeIface (T : Tb) (t : TypeId) (v : Value) : Option Value :=
  match T.und t with
  | some (.interface _) => none
  | some _ => some (.iface t v)
  | none => none
def inilEq (T : Tb) (t : TypeId) (c : Bool) (x y : Value) : Option Bool :=
  match x, y with
  | .iface _ _, .nilIface => match T.und t with
    | some (.interface _) => some false
    | _ => none
  | .nilIface, .iface _ _ => match T.und t with
    | some (.interface _) => some false
    | _ => none
  | .nilIface, .nilIface => match T.und t, c with
    | some (.interface _), true => some true
    | _, _ => none
  | .pointer (some _), .pointer none => match T.und t with
    | some (.pointer _) => some false
    | _ => none
  | .pointer none, .pointer none => match T.und t with
    | some (.pointer _) => some true
    | _ => none
  | .slice (some _) _ _, .slice none _ _ => match T.und t with
    | some (.slice _) => some false
    | _ => none
  | .slice none _ _, .slice none _ _ => match T.und t with
    | some (.slice _) => some true
    | _ => none
  | _, _ => none
def nilish : Value → Bool
  | .iface _ _ | .nilIface | .pointer _ | .slice _ _ _ => true
  | _ => false
def isConst : Operand → Bool
  | .const _ => true
  | _ => false
def ieqOp (T : Tb) (op : BinOp) (t : TypeId) (x y : Value) : Option Value :=
  match x, y with
  | .agg xs, .agg ys => match T.eqs t with
    | some ks => match ieqCells ks xs.toList ys.toList with
      | some b => match op with
        | .eql => some (.bool b)
        | .neq => some (.bool (!b))
        | _ => none
      | none => none
    | none => none
  | _, _ => none
def inilOp (T : Tb) (op : BinOp) (t : TypeId) (c : Bool) (x y : Value) : Option Value :=
  match op, inilEq T t c x y with
  | .eql, some b => some (.bool b)
  | .neq, some b => some (.bool (!b))
  | _, _ => ieqOp T op t x y
def ibuiltin (T : Tb) (F : Hp) (nx : Nat) (b : Builtin) (ts : List TypeId) (vs : List Value) : Option Res :=
  match b, ts, vs with
  | .len, [t], [x] => one1 F nx (ilen T t x)
  | .append, [t, t2], [s, x] => iappend T F nx t t2 s x
  | .max, _, [.int k a, .int k' b] => some ⟨.int k (if b > a then b else a), F, nx, True⟩
  | .min, _, [.int k a, .int k' b] => some ⟨.int k (if b < a then b else a), F, nx, True⟩
  | _, _, _ => none
def iop (T : Tb) (ρ : Operand → Option Value) (F : Hp) (nx : Nat) (op : Op) : Option Res :=
  match op with
  | .move x => one1 F nx (ρ x)
  | .assign x => one1 F nx (ρ x)
  | .pick c a b => match ρ c with
    | some (.bool t) => one1 F nx (if t = true then ρ a else ρ b)
    | _ => none
  | .alloc e => match T.inf e with
    | some (s, b, z) => some ⟨.pointer (some ⟨nx, 0, none⟩), (nx, ⟨z.cells.toList, e, s, false, false⟩) :: F, nx + 1, True⟩
    | none => none
  | .box e x => match ρ x, T.inf e with
    | some v, some (s, _, _) => if isTup v = true then none else some ⟨.pointer (some ⟨nx, 0, none⟩), (nx, ⟨v.cells.toList, e, s, false, false⟩) :: F, nx + 1, True⟩
    | _, _ => none
  | .build t ps => match iparts ρ ps.toList with
    | some l => one1 F nx (ibuild T t l)
    | none => none
  | .buildSlice t n ps => match iparts ρ ps.toList with
    | some l => ibuildSlice T F nx t n l
    | none => none
  | .load t a => match ρ a with
    | some v => one2 F nx (iload T F t v)
    | none => none
  | .store t a x => match ρ a, ρ x with
    | some a, some v => match istore T F t a v with
      | some (F', vc) => some ⟨undef, F', nx, vc⟩
      | none => none
    | _, _ => none
  | .nilCheck x => match ρ x with
    | some v => one1 F nx (inil v)
    | none => none
  | .binOp op t x y _ => match ρ x, ρ y with
    | some a, some b => match ibinOp T op t a b with
      | some r => one2 F nx (some r)
      | none => one1 F nx (inilOp T op t (isConst x || isConst y) a b)
    | _, _ => none
  | .unOp op _ x => match ρ x with
    | some v => one1 F nx (iun op v)
    | none => none
  | .convert s d x => match ρ x with
    | some v => match iconv T s d v with
      | some v' => some ⟨v', F, nx, True⟩
      | none => one2 F nx (istring T F s d v)
    | none => none
  | .makeInterface t x => match ρ x with
    | some v => one1 F nx (imakeIface T t v)
    | none => none
  | .makeFunc fn first cap => match iargs ρ first.toList, iargs ρ cap.toList with
    | some f, some c => some ⟨.func fn f.toArray c.toArray, F, nx, True⟩
    | _, _ => none
  | .makeSlice t l c => match ρ l, ρ c with
    | some l, some c => imakeSlice T F nx t l c
    | _, _ => none
  | .slice t x lo hi mx => match ρ x, iov ρ lo, iov ρ hi, iov ρ mx with
    | some v, some lo, some hi, some mx => one2 F nx (islice T F t v lo hi mx)
    | _, _, _, _ => none
  | .fieldAddr t x i => match ρ x with
    | some v => one1 F nx (ifieldAddr T t v i)
    | none => none
  | .field t x i => match ρ x with
    | some v => one2 F nx (ifield T t v i)
    | none => none
  | .indexAddr t x i => match ρ x, ρ i with
    | some v, some n => one2 F nx (iindexAddr T t v n)
    | _, _ => none
  | .index t x i => match ρ x, ρ i with
    | some v, some n => one2 F nx (iindex T t v n)
    | _, _ => none
  | .typeAssert x xt t ok => match ρ x with
    | some v => one2 F nx (iassert T v t ok)
    | none => none
  | .extract x i => match ρ x with
    | some v => one1 F nx (iextract v i)
    | none => none
  | .call c => match c.callee with
    | .builtin b => match iargs ρ c.args.toList with
      | some vs => ibuiltin T F nx b c.argTypes.toList vs
      | none => none
    | _ => none
  | _ => none
section
variable {P : Program} {T : Tb} {m : Mp} {F : Hp} {nx : Nat} {w : World}
theorem iargs_run {ρ : Operand → Option Value} {ρ' : Operand → Value} (hρ : ∀ x v, ρ x = some v → VR m v (ρ' x)) : ∀ {l : List Operand} {vs : List Value}, iargs ρ l = some vs → VRs m vs (l.map ρ')
  | [], vs, h => by cases h; exact .nil
  | x :: l, vs, h => by
    unfold iargs at h
    split at h
    · rename_i v vs' h1 h2
      cases h
      exact .cons (hρ _ _ h1) (iargs_run hρ h2)
    · cases h
theorem iparts_run {ρ : Operand → Option Value} {ρ' : Operand → Value} (hρ : ∀ x v, ρ x = some v → VR m v (ρ' x)) : ∀ {l : List (Nat × Operand)} {vs : List (Nat × Value)}, iparts ρ l = some vs →
    PR m vs (l.map fun (i, x) => (i, ρ' x))
  | [], vs, h => by cases h; exact .nil
  | (i, x) :: l, vs, h => by
    unfold iparts at h
    split at h
    · rename_i v vs' h1 h2
      cases h
      exact .cons i (hρ _ _ h1) (iparts_run hρ h2)
    · cases h
theorem iov_run {ρ : Operand → Option Value} {ρ' : Operand → Value} (hρ : ∀ x v, ρ x = some v → VR m v (ρ' x)) {x : Option Operand} {r : Option Value} (h : iov ρ x = some r) : OR m r (x.map ρ') := by
  cases x with
  | none => cases h; exact .none
  | some x =>
    unfold iov at h
    dsimp only at h
    split at h
    · rename_i v hv; cases h; exact .some (hρ _ _ hv)
    · cases h
theorem one1_run {run : Sem Value} {r : Res} {o : Option Value} (hh : HR m F nx w) (h : one1 F nx o = some r) (hr : ∀ v, o = some v → ∃ v', run.run P w = .ok v' w ∧ VR m v v') :
    OpS P (do pure (.value (← run))) m F nx w r := by
  unfold one1 at h
  split at h
  · rename_i v
    cases h
    obtain ⟨v', a, b⟩ := hr v rfl
    exact OpS.val (by simp [a]) hh b
  · cases h
theorem one2_run {run : Sem Value} {r : Res} {o : Option (Value × Prop)} (hh : HR m F nx w) (h : one2 F nx o = some r) (hv : r.vc) (hr : ∀ v vc, o = some (v, vc) → vc → ∃ v', run.run P w = .ok v' w ∧ VR m v v') :
    OpS P (do pure (.value (← run))) m F nx w r := by
  unfold one2 at h
  split at h
  · rename_i v vc
    cases h
    obtain ⟨v', a, b⟩ := hr v vc rfl hv
    exact OpS.val (by simp [a]) hh b
  · cases h
theorem res_run {run : Sem Value} {r : Res} (h : ∃ m' w' v', run.run P w = .ok v' w' ∧ HR m' r.F r.nx w' ∧ Stp m F nx w m' r.F r.nx w' ∧ VR m' r.v v') : OpS P (do pure (.value (← run))) m F nx w r := by
  obtain ⟨m', w', v', a, b, c, d⟩ := h
  exact ⟨m', w', _, by simp [a], b, c, .inl ⟨v', rfl, d⟩⟩
theorem bytesOf_run {g : Value → ByteArray → Sem (ForInStep ByteArray)} (hg : ∀ n s, g (.int .u8 n) s = pure (.yield (s.push (UInt8.ofNat n.toNat)))) : ∀ {cs cs' : List Value} {l : List UInt8}, VRs m cs cs' → bytesOf cs = some l →
    cs' = cs ∧ ∀ (acc : ByteArray) (w : World), (forIn cs acc g).run P w = .ok (acc ++ ⟨l.toArray⟩) w
  | [], cs', l, hc, h => by cases h; cases hc; exact ⟨rfl, fun acc w => by
      have : acc ++ (⟨#[]⟩ : ByteArray) = acc := by apply ByteArray.ext; simp
      simp [this]⟩
  | c :: cs, cs', l, hc, h => by
    unfold bytesOf at h
    split at h
    · rename_i heq; cases heq
    · rename_i n l' heq
      cases heq
      split at h
      · rename_i l2 h2
        cases h
        cases hc with
        | cons hv ht =>
          cases hv
          obtain ⟨e, ih⟩ := bytesOf_run hg ht h2
          subst e
          refine ⟨rfl, fun acc w => ?_⟩
          have e2 : (acc.push (UInt8.ofNat n.toNat)) ++ (⟨l2.toArray⟩ : ByteArray) = acc ++ ⟨(UInt8.ofNat n.toNat :: l2).toArray⟩ := by
            apply ByteArray.ext; simp
          have := ih (acc.push (UInt8.ofNat n.toNat)) w
          rw [e2] at this
          simpa [hg] using this
      · cases h
    · cases h
variable (hT : TbOk P T)
include hT
theorem istring_run {s d : TypeId} {x x' v : Value} {vc : Prop} (hh : HR m F nx w) (hx : VR m x x') (h : istring T F s d x = some (v, vc)) (hv : vc) :
    (convert s d x').run P w = .ok v w ∧ flat1 v = true := by
  unfold istring at h
  split at h
  · rename_i e id off n c h1 h2
    split at h
    · rename_i blk h3 h4
      split at h
      · rename_i l hl
        cases h
        obtain ⟨p, hp, br⟩ := hh.has _ _ h4
        cases hx with
        | sl off l0 c0 c' hp' hc hr hl0 =>
          rename_i p'
          rw [hp] at hp'; cases hp'
          obtain ⟨cs', b1, b2, b3⟩ := br.range off n hv
          have hb : cs' = (blk.cells.drop off).take n := by
            cases n with
            | zero => simp at b1 ⊢; exact b1
            | succ n => exact (bytesOf_run (P := P) (g := fun c s => match c with | .int .u8 n => pure (.yield (s.push (UInt8.ofNat n.toNat))) | _ => stuck "") (fun _ _ => rfl) b2 hl).1
          have hl2 : (loadCells ⟨p.b, p.base + off, none⟩ n).run P w = .ok cs'.toArray w := by
            have := run_loadCells_list (P := P) w ⟨p.b, p.base + off, none⟩ cs' (fun j v hj => by rw [addr_add]; exact b3 j v hj)
            rwa [b1] at this
          refine ⟨?_, rfl⟩
          have e0 : ByteArray.empty ++ (⟨l.toArray⟩ : ByteArray) = ⟨l.toArray⟩ := by apply ByteArray.ext; simp
          subst hb
          simp only [convert, Sem.run_bind, run_underlying (hT.und _ _ h1), run_underlying (hT.und _ _ h2), run_underlying (hT.und _ _ h3), Result.andThen_ok, Conv.bytesToString, hl2]
          simp only [List.forIn_toArray]
          have hb0 := fun g hg => (bytesOf_run (P := P) (m := m) (g := g) hg b2 hl).2 ByteArray.empty w
          simp only [e0] at hb0
          rw [hb0 _ (fun _ _ => rfl)]
          rfl
        | se off o hp' =>
          simp [bytesOf] at hl
          subst hl
          refine ⟨?_, rfl⟩
          simp [convert, run_underlying (hT.und _ _ h1), run_underlying (hT.und _ _ h2), run_underlying (hT.und _ _ h3), Conv.bytesToString, loadCells, loadCellsFrom]
          rfl
      · cases h
    · cases h
  · rename_i e n c h1 h2
    split at h
    · rename_i h3
      cases h
      cases hx
      exact ⟨by simp [convert, run_underlying (hT.und _ _ h1), run_underlying (hT.und _ _ h2), run_underlying (hT.und _ _ h3), Conv.bytesToString], rfl⟩
    · cases h
  · cases h
theorem ibuiltin_run {b : Builtin} {ts : Array TypeId} {ty : TypeId} {cs : Array Bool} {vs : List Value} {vs' : Array Value} {r : Res} (hh : HR m F nx w) (hx : VRs m vs vs'.toList) (h : ibuiltin T F nx b ts.toList vs = some r) (hv : r.vc) :
    OpS P (builtin b ts ty cs vs') m F nx w r := by
  obtain ⟨ts⟩ := ts
  obtain ⟨vs'⟩ := vs'
  unfold ibuiltin at h
  split at h
  · rename_i t x heq
    cases hx with
    | cons h1 h2 => cases h2; dsimp only at heq; subst heq; exact one1_run hh h fun v hv => let ⟨a, b⟩ := ilen_run hT (w := w) (ty := ty) h1 hv; ⟨v, a, VR.of_flat1 b⟩
  · rename_i t t2 s x heq
    cases hx with
    | cons h1 h2 =>
      cases h2 with
      | cons h2 h3 => cases h3; dsimp only at heq; subst heq; exact res_run (iappend_run hT hh h1 h2 h hv)
  · rename_i k a k' b
    cases h
    cases hx with
    | cons h1 h2 =>
      cases h2 with
      | cons h2 h3 =>
        cases h3; cases h1; cases h2
        exact OpS.val (v' := .int k (if b > a then b else a)) (by simp [builtin, Builtin.max_, Builtin.max2]) hh (.int _ _)
  · rename_i k a k' b
    cases h
    cases hx with
    | cons h1 h2 =>
      cases h2 with
      | cons h2 h3 =>
        cases h3; cases h1; cases h2
        exact OpS.val (v' := .int k (if b < a then b else a)) (by simp [builtin, Builtin.min_, Builtin.min2]) hh (.int _ _)
  · cases h
omit hT in
theorem ieqCells_eq : ∀ {ks : List Bool} {xs ys xs' ys' : List Value} {b : Bool}, ieqCells ks xs ys = some b → VRs m xs xs' → VRs m ys ys' → xs' = xs ∧ ys' = ys
  | [], xs, ys, xs', ys', b, h, hx, hy => by
    cases xs <;> cases ys <;> cases h
    cases hx; cases hy; exact ⟨rfl, rfl⟩
  | true :: ks, x :: xs, y :: ys, xs', ys', b, h, hx, hy => by
    cases x with
    | int k1 a =>
      cases y with
      | int k2 c =>
        rw [ieqCells] at h
        split at h
        · cases hr : ieqCells ks xs ys with
          | none => rw [hr] at h; cases h
          | some r =>
            cases hx with
            | cons h1 t1 => cases hy with
              | cons h2 t2 =>
                cases h1; cases h2
                obtain ⟨e1, e2⟩ := ieqCells_eq hr t1 t2
                rw [e1, e2]; exact ⟨rfl, rfl⟩
        · cases h
      | _ => cases h
    | _ => cases h
  | false :: ks, x :: xs, y :: ys, xs', ys', b, h, hx, hy => by
    cases x with
    | bool a =>
      cases y with
      | bool c =>
        rw [ieqCells] at h
        cases hr : ieqCells ks xs ys with
        | none => rw [hr] at h; cases h
        | some r =>
          cases hx with
          | cons h1 t1 => cases hy with
            | cons h2 t2 =>
              cases h1; cases h2
              obtain ⟨e1, e2⟩ := ieqCells_eq hr t1 t2
              rw [e1, e2]; exact ⟨rfl, rfl⟩
      | _ => cases h
    | _ => cases h
  | k :: ks, [], ys, xs', ys', b, h, hx, hy => by cases k <;> cases h
  | k :: ks, x :: xs, [], xs', ys', b, h, hx, hy => by cases k <;> cases x <;> cases h
theorem ieqOp_run {op : BinOp} {t : TypeId} {X Y : Operand} {x y x' y' v : Value} (hx : VR m x x') (hy : VR m y y') (h : ieqOp T op t x y = some v) :
    ((do eqGuard op t X Y x' y'; binOp op t x' y' : Sem Value)).run P w = .ok v w ∧ VR m v v := by
  unfold ieqOp at h
  split at h
  · rename_i xs ys
    split at h
    · rename_i ks hk
      split at h
      · rename_i b hb
        obtain ⟨e1, e2, e3, e4⟩ := hT.eqs _ _ hk
        cases hx with
        | agg hvx _ => cases hy with
          | agg hvy _ =>
            rename_i cx _ cy _
            obtain ⟨q1, q2⟩ := ieqCells_eq hb hvx hvy
            have hr := eqFields_run (P := P) w 9998 cx cy (P.fieldsOf t).toList ks 0 _ _ b e4 rfl rfl (by rw [List.drop_zero, List.drop_zero, q1, q2]; exact hb)
            have hE := (run_equalIn_agg (P := P) w 9999 t cx cy e3 e1).trans hr
            split at h
            · cases h
              refine ⟨?_, .bool _⟩
              simp only [Sem.run_bind, run_eqGuard_agg (P := P) w .eql t X Y cx cy e2, Result.andThen_ok, run_eql_struct (P := P) w t cx cy, hE]
            · cases h
              refine ⟨?_, .bool _⟩
              simp only [Sem.run_bind, run_eqGuard_agg (P := P) w .neq t X Y cx cy e2, Result.andThen_ok, run_neq_struct (P := P) w t cx cy, hE]
            · cases h
      · cases h
    · cases h
  · cases h
omit hT in
theorem binOp_eql {t : TypeId} {x y : Value} (h : nilish x = true) (b : Bool) (he : (Op.equal t x y).run P w = .ok b w) :
    (binOp .eql t x y).run P w = .ok (.bool b) w ∧ (binOp .neq t x y).run P w = .ok (.bool (!b)) w := by
  cases x <;> first | cases h | skip
  all_goals cases y <;> exact ⟨by simp [binOp, he], by simp [binOp, he]⟩
theorem inilEq_run {t : TypeId} {X Y : Operand} {x y x' y' : Value} {b : Bool} (hx : VR m x x') (hy : VR m y y') (h : inilEq T t (isConst X || isConst Y) x y = some b) (op : BinOp) :
    (eqGuard op t X Y x' y').run P w = .ok () w ∧ (Op.equal t x' y').run P w = .ok b w ∧ nilish x' = true := by
  show _ ∧ (Op.equalIn (9999 + 1) t x' y').run P w = _ ∧ _
  generalize 9999 = d
  unfold inilEq at h
  split at h <;> first | cases h | (split at h <;> first | cases h | skip)
  all_goals rename_i hu
  all_goals cases hx <;> cases hy <;> refine ⟨?_, ?_, rfl⟩
  all_goals first
    | (simp [Op.equalIn, run_underlying (hT.und _ _ hu)]; done)
    | (unfold eqGuard; cases op <;> simp <;> done)
    | skip
  · rename_i i0 c0 hq
    unfold eqGuard; cases op <;> simp only [Bool.not_true, Bool.not_false, Bool.false_eq_true, if_false, if_true, Sem.run_bind, Sem.run_pure, Result.andThen_ok] <;> try rfl
    all_goals (cases X <;> cases Y <;> first | (simp [isConst] at hu; done) | simp)
  · rename_i i0 c0 hq
    simp [Op.equalIn, run_underlying (hT.und _ _ hq)]
theorem iop_run {ρ : Operand → Option Value} {ρ' : Operand → Value} (hρ : ∀ x v, ρ x = some v → VR m v (ρ' x)) {o : Oper} {r : Res} (hh : HR m F nx w) (h : iop T ρ F nx o.op = some r) (hv : r.vc) :
    OpS P (execOp ρ' o) m F nx w r := by
  unfold iop at h
  unfold execOp
  split at h <;> (first | (rename_i heq; rw [heq]; dsimp only) | skip)
  · unfold one1 at h; split at h
    · rename_i v hv2; cases h; exact OpS.val rfl hh (hρ _ _ hv2)
    · cases h
  · unfold one1 at h; split at h
    · rename_i v hv2; cases h; exact OpS.val rfl hh (hρ _ _ hv2)
    · cases h
  · rename_i c a b
    split at h
    · rename_i t ht
      have hc := hρ _ _ ht
      generalize ρ' c = c' at hc
      cases hc
      unfold one1 at h; split at h
      · rename_i v hv2
        cases h
        refine OpS.val (v' := if t then ρ' a else ρ' b) (by simp [asBool]) hh ?_
        cases t
        · exact hρ _ _ (by simpa using hv2)
        · exact hρ _ _ (by simpa using hv2)
      · cases h
    · cases h
  · rename_i e
    split at h
    · rename_i s b z hi
      cases h
      obtain ⟨z1, z2⟩ := hT.zero _ _ _ _ hi
      obtain ⟨n1, n2⟩ := hh.new z.cells.toList z.cells.toList e s (VRs.of_flat1 z1) (all_one_flat1 z1)
      refine res_run ⟨_, _, _, ?_, n1, n2, .ptr (p := ⟨w.heap.size, 0, z.cells.toList.length, z.cells.toList.length, s, false⟩) 0 (by unfold mput; rw [if_pos rfl])⟩
      simp [Instr.alloc, hT.zero_value hi, newVar, newRow]
    · cases h
  · rename_i e x
    split at h
    · rename_i v s b z hx hi
      split at h
      · cases h
      · rename_i htup
        cases h
        have hx' := hρ _ _ hx
        obtain ⟨n1, n2⟩ := hh.new v.cells.toList (ρ' x).cells.toList e s hx'.cells (cells_one hx' (by simpa using htup))
        refine res_run ⟨_, _, _, ?_, n1, n2, .ptr (p := ⟨w.heap.size, 0, v.cells.toList.length, v.cells.toList.length, s, false⟩) 0 (by unfold mput; rw [if_pos rfl])⟩
        simp [Instr.box, newVar, newRow]
    · cases h
  · rename_i t ps
    split at h
    · rename_i l hl
      have hp := iparts_run hρ hl
      refine one1_run hh h fun v hv2 => ?_
      have := ibuild_run hT (w := w) hp hv2
      have e : (ps.toList.map fun (i, x) => (i, ρ' x)).toArray = ps.map fun (i, x) => (i, ρ' x) := by apply Array.ext'; simp
      rw [e] at this
      exact this
    · cases h
  · rename_i t n ps
    split at h
    · rename_i l hl
      have hp := iparts_run hρ hl
      refine res_run ?_
      have := ibuildSlice_run hT hh hp h hv
      have e : (ps.toList.map fun (i, x) => (i, ρ' x)).toArray = ps.map fun (i, x) => (i, ρ' x) := by apply Array.ext'; simp
      rw [e] at this
      exact this
    · cases h
  · rename_i t a
    split at h
    · rename_i v hx
      exact one2_run hh h hv fun v vc h1 h2 => iload_run hT hh (hρ _ _ hx) h1 h2
    · cases h
  · rename_i t a x
    split at h
    · rename_i a1 v ha hx
      split at h
      · rename_i F' vc hs
        cases h
        obtain ⟨w', b1, b2, b3⟩ := istore_run hT hh (hρ _ _ ha) (hρ _ _ hx) hs hv
        exact ⟨m, w', .skip, by simp [b1], b2, b3, .inr ⟨rfl, rfl⟩⟩
      · cases h
    · cases h
  · rename_i x
    split at h
    · rename_i v hx
      have hx' := hρ _ _ hx
      generalize ρ' x = x' at hx'
      unfold one1 at h
      split at h
      · rename_i v2 hv2
        cases h
        unfold inil at hv2
        split at hv2 <;> cases hv2 <;> cases hx'
        · exact OpS.val rfl hh (.ptr _ (by assumption))
        · exact OpS.val rfl hh (.func _ (by assumption) (by assumption))
      · cases h
    · cases h
  · rename_i op t x y yt
    split at h
    · rename_i a b ha hb
      split at h
      case h_2 =>
        refine one1_run hh h fun v h1 => ?_
        unfold inilOp at h1
        split at h1
        · rename_i b2 hb3 hz
          cases h1
          obtain ⟨g1, g2, g3⟩ := inilEq_run hT (w := w) (hρ _ _ ha) (hρ _ _ hb) hb3 .eql
          exact ⟨_, by simp only [Sem.run_bind, g1, Result.andThen_ok]; exact (binOp_eql g3 _ g2).1, .bool _⟩
        · rename_i b2 hb3 hz
          cases h1
          obtain ⟨g1, g2, g3⟩ := inilEq_run hT (w := w) (hρ _ _ ha) (hρ _ _ hb) hb3 .neq
          exact ⟨_, by simp only [Sem.run_bind, g1, Result.andThen_ok]; exact (binOp_eql g3 _ g2).2, .bool _⟩
        · obtain ⟨g1, g2⟩ := ieqOp_run hT (w := w) (X := x) (Y := y) (hρ _ _ ha) (hρ _ _ hb) h1
          exact ⟨_, g1, g2⟩
      rename_i rr hrr
      rw [← hrr] at h
      refine one2_run hh h hv fun v vc h1 h2 => ?_
      obtain ⟨c1, c2, c3, c4⟩ := ibinOp_run hT h1 h2 w x y
      have ea : ρ' x = a := by have := VRs.eq_flat1 (.cons (hρ _ _ ha) .nil) (l := [a]) (by simp [c2]); simpa using this
      have eb : ρ' y = b := by have := VRs.eq_flat1 (.cons (hρ _ _ hb) .nil) (l := [b]) (by simp [c3]); simpa using this
      rw [ea, eb]
      exact ⟨v, c1, VR.of_flat1 c4⟩
    · cases h
  · rename_i op t x
    split at h
    · rename_i v hx
      exact one1_run hh h fun v hv2 => let ⟨a, b⟩ := iun_run (P := P) (w := w) (hρ _ _ hx) hv2; ⟨v, a, VR.of_flat1 b⟩
    · cases h
  · rename_i s d x
    split at h
    · rename_i v hx
      split at h
      · rename_i v2 hv2
        cases h
        obtain ⟨a, b⟩ := iconv_run hT (w := w) (hρ _ _ hx) hv2
        exact OpS.val (v' := v2) (by simp [a]) hh (VR.of_flat1 b)
      · exact one2_run hh h hv fun v vc h1 h2 => let ⟨a, b⟩ := istring_run hT hh (hρ _ _ hx) h1 h2; ⟨v, a, VR.of_flat1 b⟩
    · cases h
  · rename_i t x
    split at h
    · rename_i v hx
      refine one1_run hh h fun v2 hv2 => ?_
      unfold imakeIface at hv2
      split at hv2
      · cases hv2
      · rename_i d hu hd
        cases hv2
        refine ⟨.iface t (ρ' x), ?_, .iface t (hρ _ _ hx)⟩
        cases d <;> first | (exact (hu _ rfl).elim) | simp [Instr.makeInterface, run_underlying (hT.und _ _ hd)]
      · cases hv2
    · cases h
  · rename_i fn first cap
    split at h
    · rename_i f c h1 h2
      cases h
      refine OpS.val (v' := .func fn (first.map ρ') (cap.map ρ')) rfl hh (.func fn ?_ ?_)
      · simpa using iargs_run hρ h1
      · simpa using iargs_run hρ h2
    · cases h
  · rename_i t l c
    split at h
    · rename_i l2 c2 h1 h2
      exact res_run (imakeSlice_run hT hh (hρ _ _ h1) (hρ _ _ h2) h hv)
    · cases h
  · rename_i t x lo hi mx
    split at h
    · rename_i v lo2 hi2 mx2 h1 h2 h3 h4
      exact one2_run hh h hv fun v vc g1 g2 => islice_run hT hh (hρ _ _ h1) (iov_run hρ h2) (iov_run hρ h3) (iov_run hρ h4) g1 g2
    · cases h
  · rename_i t x i
    split at h
    · rename_i v hx
      exact one1_run hh h fun v2 hv2 => ifieldAddr_run hT (hρ _ _ hx) hv2
    · cases h
  · rename_i t x i
    split at h
    · rename_i v hx
      exact one2_run hh h hv fun v2 vc g1 g2 => ifield_run hT (hρ _ _ hx) g1
    · cases h
  · rename_i t x i
    split at h
    · rename_i v n hx hn
      exact one2_run hh h hv fun v2 vc g1 g2 => iindexAddr_run hT (hρ _ _ hx) (hρ _ _ hn) g1 g2
    · cases h
  · rename_i t x i
    split at h
    · rename_i v n hx hn
      exact one2_run hh h hv fun v2 vc g1 g2 => iindex_run hT (hρ _ _ hx) (hρ _ _ hn) g1 g2
    · cases h
  · rename_i x xt t ok
    split at h
    · rename_i v hx
      exact one2_run hh h hv fun v2 vc g1 g2 => iassert_run hT (hρ _ _ hx) g1 g2
    · cases h
  · rename_i x i
    split at h
    · rename_i v hx
      have hx' := hρ _ _ hx
      generalize ρ' x = x' at hx'
      refine one1_run hh h fun v2 hv2 => ?_
      unfold iextract at hv2
      split at hv2
      · cases hx' with
        | tuple hc =>
          rename_i c c'
          obtain ⟨v', a, b⟩ := hc.get hv2
          exact ⟨v', by simp at a; simp [Instr.extract, a], b⟩
      · cases hv2
    · cases h
  · rename_i c
    split at h
    · rename_i b hb
      split at h
      · rename_i vs hvs
        have hx := iargs_run hρ hvs
        have key : ∀ X, OpS P (builtin b c.argTypes o.type X (c.args.map ρ')) m F nx w r := fun X => ibuiltin_run hT hh (by simpa using hx) h hv
        have e : (do let d ← resolve ρ' c o.type; invoke d.target d.args : Sem Next) = builtin b c.argTypes o.type (c.args.map fun | .const _ => true | _ => false) (c.args.map ρ') := by unfold resolve; rw [hb]; rfl
        rw [e]
        exact key _
      · cases h
    · cases h
  · cases h
end
end Go.Proofs.Ytoihmanhldcjhaa.Id
namespace Go.Proofs.Ytoihmanhldcjhaa.Id
open Go
set_option linter.unusedVariables false
set_option linter.unusedSimpArgs false
inductive DRs (m : Mp) : List Deferred → List Deferred → Prop
  | nil : DRs m [] []
  | cons (fn : Fn) {c c' a a' : Array Value} {l l' : List Deferred} (hc : VRs m c.toList c'.toList) (ha : VRs m a.toList a'.toList) (t : DRs m l l') : DRs m ({ target := .fn fn c, args := a } :: l) ({ target := .fn fn c', args := a' } :: l')
theorem DRs.mono {m m' : Mp} (hm : ∀ id p, m id = some p → m' id = some p) : ∀ {l l' : List Deferred}, DRs m l l' → DRs m' l l'
  | _, _, .nil => .nil
  | _, _, .cons fn hc ha t => .cons fn (hc.mono hm) (ha.mono hm) (t.mono hm)
structure St where
  n : Nat
  fr : List (Nat × Value)
  F : Hp
  nx : Nat
  ds : List Deferred
structure SR (m : Mp) (st : St) (a : Act) (w : World) : Prop where
  n : a.tmps.size = st.n
  fr : FR st.fr m a.tmps
  hp : HR m st.F st.nx w
  ds : DRs m st.ds a.defers
def St.put (st : St) (dst : Option Nat) (v : Value) : Option St :=
  match dst with
  | none => some st
  | some d => if d < st.n then some { st with fr := (d, v) :: st.fr } else none
theorem SR.put {m m' : Mp} {st st' : St} {a : Act} {w w' : World} {dst : Option Nat} {v v' : Value} {F : Hp} {nx : Nat} (h : SR m st a w) (hm : ∀ id p, m id = some p → m' id = some p) (hh : HR m' F nx w') (hv : VR m' v v')
    (hp : St.put { st with F := F, nx := nx } dst v = some st') : SR m' st' (a.put dst v') w' ∧ st'.F = F ∧ st'.nx = nx := by
  unfold St.put at hp
  cases dst with
  | none => cases hp; exact ⟨⟨h.n, h.fr.mono hm, hh, h.ds.mono hm⟩, rfl, rfl⟩
  | some d =>
    dsimp only at hp
    split at hp
    · rename_i hd
      cases hp
      refine ⟨⟨by show (a.tmps.setIfInBounds d v').size = st.n; rw [Array.size_setIfInBounds]; exact h.n, ?_, hh, h.ds.mono hm⟩, rfl, rfl⟩
      intro k u hk
      dsimp only at hk
      rw [look_cons] at hk
      simp only [Act.put]
      by_cases hkd : k = d
      · subst hkd
        rw [if_pos rfl] at hk; cases hk
        exact ⟨v', by have := h.n; rw [Array.getElem?_setIfInBounds]; simp; omega, hv⟩
      · rw [if_neg hkd] at hk
        obtain ⟨u', x, y⟩ := h.fr k u hk
        exact ⟨u', by simpa [Array.getElem?_setIfInBounds, Ne.symm hkd] using x, y.mono hm⟩
    · cases hp
def opv (fr : List (Nat × Value)) : Operand → Option Value
  | .tmp t => look t fr
  | .const v => if flat v = true then some v else none
  | .func f => some (.func (.func f) #[] #[])
  | .global _ => none
theorem opv_run {fr : List (Nat × Value)} {m : Mp} {a : Act} (h : FR fr m a.tmps) (x : Operand) (v : Value) (hx : opv fr x = some v) : VR m v (a.eval x) := by
  cases x with
  | tmp t =>
    obtain ⟨v', e, r⟩ := h t v hx
    simp only [Act.eval, Array.getD_eq_getD_getElem?, e, Option.getD_some]
    exact r
  | const u =>
    simp only [opv] at hx
    split at hx
    · cases hx; exact VR.of_flat (by assumption)
    · cases hx
  | func f => cases hx; exact .func _ .nil .nil
  | global g => cases hx
inductive IExit where
  | normal
  | exit (id : Nat)
  | ret
  | pan (v : Value)
inductive ER (m : Mp) : IExit → Exit → Prop
  | normal : ER m .normal .normal
  | exit (id : Nat) : ER m (.exit id) (.exit id)
  | ret : ER m .ret .ret
  | pan {v v' : Value} (h : VR m v v') : ER m (.pan v) (.panic [{ v := v', recovered := false }])
def Lf (Q : IExit → St → Prop) (m0 : Mp) (F0 : Hp) (nx0 : Nat) (w0 : World) : Exit → Act → World → Prop :=
  fun e a w => ∃ ie st m, Q ie st ∧ SR m st a w ∧ Stp m0 F0 nx0 w0 m st.F st.nx w ∧ ER m ie e
def J (P : Program) (c : Code) (st : St) (Q : IExit → St → Prop) : Prop :=
  ∀ m0 F0 nx0 w0 m a w, Stp m0 F0 nx0 w0 m st.F st.nx w → SR m st a w → c.wp P (Lf Q m0 F0 nx0 w0) a w
def JL (P : Program) (ops : Array Oper) (os : List Oper) (st : St) (Q : IExit → St → Prop) : Prop :=
  ∀ m0 F0 nx0 w0 m a w, Stp m0 F0 nx0 w0 m st.F st.nx w → SR m st a w → wpList P ops (Lf Q m0 F0 nx0 w0) os a w
def seqQ (P : Program) (y : Code) (Q : IExit → St → Prop) : IExit → St → Prop
  | .normal, st => J P y st Q
  | e, st => Q e st
def blockQ (id : Nat) (Q : IExit → St → Prop) : IExit → St → Prop
  | .exit j, st => if j = id then Q .normal st else Q (.exit j) st
  | e, st => Q e st
structure St.le (s t : St) : Prop where
  n : s.n = t.n
  fr : ∀ k v, look k s.fr = some v → look k t.fr = some v
  F : ∀ k v, look k s.F = some v → look k t.F = some v
  nx : t.nx ≤ s.nx
  ds : s.ds = t.ds
theorem SR.le {m : Mp} {s t : St} {a : Act} {w : World} (h : SR m t a w) (hl : s.le t) : SR m s a w :=
  ⟨h.n.trans hl.n.symm, fun k v hk => h.fr k v (hl.fr k v hk), ⟨fun id b e => h.hp.has id b (hl.F _ _ e), fun id hid => h.hp.top id (Nat.le_trans hl.nx hid), fun i j bi bj pi pj hne e1 e2 => h.hp.inj i j bi bj pi pj hne (hl.F _ _ e1) (hl.F _ _ e2)⟩, hl.ds ▸ h.ds⟩
theorem Stp.le {m0 m : Mp} {F0 : Hp} {nx0 : Nat} {w0 w : World} {s t : St} (h : Stp m0 F0 nx0 w0 m t.F t.nx w) (hl : s.le t) : Stp m0 F0 nx0 w0 m s.F s.nx w :=
  ⟨h.ext, Nat.le_trans h.nx_le hl.nx, h.size, fun id blk p e hp => h.sub id blk p (hl.F id blk e) hp, h.keep, h.env⟩
section
variable {P : Program} {st : St} {Q Q' : IExit → St → Prop}
theorem J.mono {c : Code} (h : J P c st Q) (hq : ∀ e s, Q e s → Q' e s) : J P c st Q' := fun m0 F0 nx0 w0 m a w hs hr =>
  wp_mono (h m0 F0 nx0 w0 m a w hs hr) fun e a w ⟨ie, s, m, q, r⟩ => ⟨ie, s, m, hq _ _ q, r⟩
theorem J.le {c : Code} {s : St} (hl : s.le st) (h : J P c s Q) : J P c st Q := fun m0 F0 nx0 w0 m a w hs hr => h m0 F0 nx0 w0 m a w (hs.le hl) (hr.le hl)
theorem J_seq {x y : Code} (h : J P x st (seqQ P y Q)) : J P (.seq x y) st Q := fun m0 F0 nx0 w0 m a w hs hr =>
  wp_seq (wp_mono (h m0 F0 nx0 w0 m a w hs hr) fun e a w ⟨ie, s, m, q, r, t, u⟩ => by
    cases u with
    | normal => exact q m0 F0 nx0 w0 m a w t r
    | exit id => exact ⟨_, s, m, q, r, t, .exit id⟩
    | ret => exact ⟨_, s, m, q, r, t, .ret⟩
    | pan h => exact ⟨_, s, m, q, r, t, .pan h⟩)
theorem J_skip (h : Q .normal st) : J P .skip st Q := fun m0 F0 nx0 w0 m a w hs hr => wp_skip ⟨_, st, m, h, hr, hs, .normal⟩
theorem J_exit {id : Nat} (h : Q (.exit id) st) : J P (.exit id) st Q := fun m0 F0 nx0 w0 m a w hs hr => wp_exit ⟨_, st, m, h, hr, hs, .exit id⟩
theorem J_ret (h : Q .ret st) : J P .ret st Q := fun m0 F0 nx0 w0 m a w hs hr => wp_ret ⟨_, st, m, h, hr, hs, .ret⟩
theorem J_cond {c : Operand} {x y : Code} {t : Bool} (hc : opv st.fr c = some (.bool t)) (h1 : t = true → J P x st Q) (h2 : t = false → J P y st Q) : J P (.cond c x y) st Q := fun m0 F0 nx0 w0 m a w hs hr => by
  have hv := opv_run hr.fr c _ hc
  refine wp_cond_split (t := t) ?_ (fun h => h1 h m0 F0 nx0 w0 m a w hs hr) (fun h => h2 h m0 F0 nx0 w0 m a w hs hr)
  generalize a.eval c = v at hv
  cases hv; rfl
theorem J_block {id : Nat} {c : Code} (h : J P c st (blockQ id Q)) : J P (.block id c) st Q := fun m0 F0 nx0 w0 m a w hs hr =>
  wp_block (wp_mono (h m0 F0 nx0 w0 m a w hs hr) fun e a w ⟨ie, s, m, q, r, t, u⟩ => by
    cases u with
    | normal => exact ⟨_, s, m, q, r, t, .normal⟩
    | exit j =>
      simp only [Exit.inBlock, blockQ] at q ⊢
      split
      · rename_i hj; rw [if_pos hj] at q; exact ⟨_, s, m, q, r, t, .normal⟩
      · rename_i hj; rw [if_neg hj] at q; exact ⟨_, s, m, q, r, t, .exit j⟩
    | ret => exact ⟨_, s, m, q, r, t, .ret⟩
    | pan h => exact ⟨_, s, m, q, r, t, .pan h⟩)
def JRounds (P : Program) (c : Code) (Q : IExit → St → Prop) : Nat → St → Prop
  | 0, _ => False
  | n + 1, st => J P c st fun e s => match e with
    | .normal => JRounds P c Q n s
    | e => Q e s
theorem J_rounds {c : Code} (n : Nat) (h : JRounds P c Q n st) : J P (.loop c) st Q := fun m0 F0 nx0 w0 m a w hs hr => by
  refine wp_loop_rounds n ?_
  have key : ∀ n st m a w, JRounds P c Q n st → Stp m0 F0 nx0 w0 m st.F st.nx w → SR m st a w → Code.rounds P c (Lf Q m0 F0 nx0 w0) n a w := by
    intro n
    induction n with
    | zero => intro st m a w h _ _; exact h.elim
    | succ n ih =>
      intro st m a w h hs hr
      rw [rounds_succ]
      refine wp_mono (h m0 F0 nx0 w0 m a w hs hr) fun e a w ⟨ie, s, m, q, r, t, u⟩ => ?_
      cases u with
      | normal => exact ih s m a w q t r
      | exit id => exact ⟨_, s, m, q, r, t, .exit id⟩
      | ret => exact ⟨_, s, m, q, r, t, .ret⟩
      | pan h => exact ⟨_, s, m, q, r, t, .pan h⟩
  exact key n st m a w h hs hr
theorem JRounds.le {c : Code} {n : Nat} {s : St} (hl : s.le st) (h : JRounds P c Q n s) : JRounds P c Q n st := by
  cases n with
  | zero => exact h
  | succ n => exact J.le hl h
theorem J_loop {α : Type} {c : Code} (S : α → St) (μ : α → Nat) (x : α) (h0 : (S x).le st) (step : ∀ x, J P c (S x) fun e s => match e with
    | .normal => ∃ y, μ y < μ x ∧ (S y).le s
    | e => Q e s) : J P (.loop c) st Q := by
  refine J_rounds (μ x + 1) (JRounds.le h0 ?_)
  have key : ∀ n x, μ x < n → JRounds P c Q n (S x) := by
    intro n
    induction n with
    | zero => intro x h; omega
    | succ n ih =>
      intro x hx
      refine J.mono (step x) fun e s q => ?_
      cases e with
      | normal => obtain ⟨y, hy, hl⟩ := q; exact JRounds.le hl (ih y (by omega))
      | exit id => exact q
      | ret => exact q
      | pan v => exact q
  exact key _ x (by omega)
end
inductive Out where
  | ret (v : Value)
  | pan (v : Value)
inductive OutR (m : Mp) : Out → Ending → Prop
  | ret {v v' : Value} (h : VR m v v') : OutR m (.ret v) (.returned v')
  | pan {v v' : Value} (h : VR m v v') : OutR m (.pan v) (.panicked [{ v := v', recovered := false }])
def Able (P : Program) (f : FuncId) : Prop := ∃ fn, P.funcs[f]? = some fn ∧ fn.body.isSome = true ∧ (fn.name == "runtime.NumGoroutine") = false
def Does (P : Program) (f : FuncId) (args : Array Value) (w : World) (R : Ending → World → Prop) : Prop :=
  (Able P f ∧ Calls P f args w R) ∨ ∃ v w', (callFunc f args).run P w = .ok (.value v) w' ∧ R (.returned v) w'
theorem Does.mono {P : Program} {f : FuncId} {args : Array Value} {w : World} {R R' : Ending → World → Prop} (h : Does P f args w R) (k : ∀ e w', R e w' → R' e w') : Does P f args w R' :=
  h.imp (fun ⟨a, b⟩ => ⟨a, b.mono k⟩) fun ⟨v, w', a, b⟩ => ⟨v, w', a, k _ _ b⟩
theorem Does.upon {P : Program} {f : FuncId} {args : Array Value} {a : Act} {w : World} {o : Oper} {next : Act → World → Prop} {Q : Exit → Act → World → Prop} {R : Ending → World → Prop} (h : Does P f args w R)
    (he : (execOp a.eval o).run P w = (callFunc f args).run P w) (k : ∀ e w', R e w' → match e with
      | .returned v => next (a.put o.dst v) w'
      | .panicked chain => Q (.panic chain) a w'
      | .outgrown => LetsOut Q) : o.upon P a next Q ((execOp a.eval o).run P w) := by
  rw [he]
  rcases h with ⟨⟨fn, e1, e2, e3⟩, h⟩ | ⟨v, w', h1, h2⟩
  · have hn : ¬ fn.body = none := by cases hb : fn.body <;> simp_all
    have e4 : ¬ fn.name = "runtime.NumGoroutine" := by simpa using e3
    have e5 : (callFunc f args).run P w = .ok (.enter f args) w := by simp [callFunc, e1, e4, hn]
    rw [e5, Oper.upon_enter]
    refine h.mono fun e w' hr => ?_
    have := k e w' hr
    cases e <;> exact this
  · rw [h1, Oper.upon_value]
    exact k _ _ h2
structure CallW (P : Program) (f : FuncId) (args : List Value) (F : Hp) (nx : Nat) (K : Out → Hp → Nat → Prop) : Prop where
  run : ∀ m w (args' : Array Value), HR m F nx w → VRs m args args'.toList → Does P f args' w fun e w' => ∃ o F' nx' m', K o F' nx' ∧ HR m' F' nx' w' ∧ Stp m F nx w m' F' nx' w' ∧ OutR m' o e
theorem CallW.mono {P : Program} {f : FuncId} {args : List Value} {F : Hp} {nx : Nat} {K K' : Out → Hp → Nat → Prop} (h : CallW P f args F nx K) (hk : ∀ o F' nx', K o F' nx' → K' o F' nx') : CallW P f args F nx K' :=
  ⟨fun m w args' h1 h2 => (h.run m w args' h1 h2).mono fun e w' ⟨o, F', nx', m', k, r⟩ => ⟨o, F', nx', m', hk _ _ _ k, r⟩⟩
def rem (ids : List Nat) (F : Hp) : Hp := F.filter fun e => !ids.contains e.1
theorem look_rem (j : Nat) (ids : List Nat) (F : Hp) : look j (rem ids F) = if ids.contains j = true then none else look j F := by
  induction F with
  | nil => simp [rem, look]
  | cons e F ih =>
    obtain ⟨k, b⟩ := e
    unfold rem at ih ⊢
    rw [List.filter_cons]
    by_cases hk : ids.contains k = true
    · simp only [hk, Bool.not_true, Bool.false_eq_true, if_false, ih, look_cons]
      by_cases hj : j = k
      · subst hj; rw [if_pos hk, if_pos hk]
      · simp [hj]
    · have hk' : ids.contains k = false := by simpa using hk
      simp only [hk', Bool.not_false, if_true, look_cons, ih]
      by_cases hj : j = k
      · subst hj; rw [if_pos rfl, if_neg hk, if_pos rfl]
      · simp [hj]
theorem look_append {α : Type} (j : Nat) (A B : List (Nat × α)) : look j (A ++ B) = match look j A with | some b => some b | none => look j B := by
  induction A with
  | nil => rfl
  | cons e A ih =>
    obtain ⟨k, b⟩ := e
    rw [List.cons_append, look_cons, look_cons, ih]
    by_cases hj : j = k <;> simp [hj]
theorem look_mem {α : Type} {j : Nat} {b : α} : ∀ {A : List (Nat × α)}, look j A = some b → j ∈ A.map (·.1)
  | [], h => by cases h
  | (k, c) :: A, h => by
    rw [look_cons] at h
    split at h
    · rename_i hk; simp [hk]
    · simp [look_mem h]
theorem frame_core {L F L' : Hp} {nx nx' : Nat} {m m' : Mp} {w w' : World} (hL : ∀ id b, look id L = some b → look id F = some b) (hh : HR m F nx w) (hh' : HR m' L' nx' w') (hs : Stp m L nx w m' L' nx' w') :
    HR m' (L' ++ rem (L.map (·.1)) F) nx' w' ∧ Stp m F nx w m' (L' ++ rem (L.map (·.1)) F) nx' w' := by
  have hold : ∀ id b p, look id (rem (L.map (·.1)) F) = some b → m id = some p → look id F = some b ∧ ¬ Owned m L p.b ∧ p.b < w.heap.size := by
    intro id b p e hp
    rw [look_rem] at e
    split at e
    · cases e
    · rename_i hc
      refine ⟨e, ?_, hh.lt_size e hp⟩
      rintro ⟨j, bj, pj, e1, hro, e2, e3⟩
      have hne : j ≠ id := by
        rintro rfl
        exact hc (by simpa using look_mem e1)
      exact hh.inj j id bj b pj p hne (hL _ _ e1) e e2 hp hro e3
  have hsplit : ∀ id b, look id (L' ++ rem (L.map (·.1)) F) = some b → look id L' = some b ∨ (look id L' = none ∧ look id (rem (L.map (·.1)) F) = some b) := by
    intro id b e
    rw [look_append] at e
    cases hl : look id L' with
    | some c => rw [hl] at e; exact .inl e
    | none => rw [hl] at e; exact .inr ⟨rfl, e⟩
  have hmap : ∀ id b, look id (rem (L.map (·.1)) F) = some b → ∃ p, m id = some p ∧ m' id = some p ∧ BR m' b p w' := by
    intro id b e
    have e' : look id F = some b := by
      rw [look_rem] at e
      split at e
      · cases e
      · exact e
    obtain ⟨p, a, br⟩ := hh.has id b e'
    obtain ⟨_, h2, h3⟩ := hold id b p e a
    exact ⟨p, a, hs.ext _ _ a, br.mono hs.ext (hs.keep p.b h3 h2)⟩
  refine ⟨⟨?_, hh'.top, ?_⟩, ⟨hs.ext, hs.nx_le, hs.size, ?_, ?_, hs.env⟩⟩
  · intro id b e
    rcases hsplit id b e with e | ⟨_, e⟩
    · exact hh'.has id b e
    · obtain ⟨p, _, x, y⟩ := hmap id b e; exact ⟨p, x, y⟩
  · intro i j bi bj pi pj hne e1 e2 p1 p2 hro
    have fresh : ∀ (i j : Nat) (bi bj : Blk) (pi pj : Place), look i L' = some bi → bi.ro = false → m' i = some pi → look j (rem (L.map (·.1)) F) = some bj → m' j = some pj → pi.b ≠ pj.b := by
      intro i j bi bj pi pj e1 hro p1 e2 p2
      obtain ⟨p, a1, a2, _⟩ := hmap j bj e2
      rw [p2] at a2; cases a2
      obtain ⟨_, h2, h3⟩ := hold j bj pj e2 a1
      rcases hs.own pi.b ⟨i, bi, pi, e1, hro, p1, rfl⟩ with ho | ho
      · exact fun e => h2 (e ▸ ho)
      · omega
    rcases hsplit i bi e1 with e1 | ⟨n1, e1⟩ <;> rcases hsplit j bj e2 with e2 | ⟨n2, e2⟩
    · exact hh'.inj i j bi bj pi pj hne e1 e2 p1 p2 hro
    · exact fresh i j bi bj pi pj e1 hro p1 e2 p2
    · obtain ⟨p, a1, a2, _⟩ := hmap i bi e1
      rw [p1] at a2; cases a2
      obtain ⟨f1, h2, h3⟩ := hold i bi pi e1 a1
      intro e
      rcases hs.sub j bj pj e2 p2 with ⟨b0, x, y, z⟩ | x | x
      · exact hh.inj i j bi b0 pi pj hne f1 (hL _ _ x) a1 y hro e
      · exact h2 (e ▸ x)
      · omega
    · obtain ⟨p, a1, a2, _⟩ := hmap i bi e1
      obtain ⟨q, b1, b2, _⟩ := hmap j bj e2
      rw [p1] at a2; cases a2
      rw [p2] at b2; cases b2
      exact hh.inj i j bi bj pi pj hne (hold i bi pi e1 a1).1 (hold j bj pj e2 b1).1 a1 b1 hro
  · intro id blk p e hp
    rcases hsplit id blk e with e | ⟨_, e⟩
    · rcases hs.sub id blk p e hp with ⟨b0, x, y, z⟩ | ⟨j, bj, pj, x⟩ | h
      · exact .inl ⟨b0, hL _ _ x, y, z⟩
      · exact .inr (.inl ⟨j, bj, pj, hL _ _ x.1, x.2⟩)
      · exact .inr (.inr h)
    · obtain ⟨q, a1, a2, _⟩ := hmap id blk e
      rw [hp] at a2; cases a2
      exact .inl ⟨blk, (hold id blk p e a1).1, a1, rfl⟩
  · intro b hb hn
    exact hs.keep b hb fun ⟨j, bj, pj, x⟩ => hn ⟨j, bj, pj, hL _ _ x.1, x.2⟩
theorem CallW.frame {P : Program} {f : FuncId} {args : List Value} {L F : Hp} {nx : Nat} {K : Out → Hp → Nat → Prop} (h : CallW P f args L nx K) (hL : ∀ id b, look id L = some b → look id F = some b) :
    CallW P f args F nx fun o F' nx' => ∃ L', K o L' nx' ∧ F' = L' ++ rem (L.map (·.1)) F := by
  refine ⟨fun m w args' hh hv => (h.run m w args' (hh.drop hL) hv).mono ?_⟩
  rintro e w' ⟨o, L', nx', m', k, hh', hs, ho⟩
  obtain ⟨a, b⟩ := frame_core hL hh hh' hs
  exact ⟨o, _, nx', m', ⟨L', k, rfl⟩, a, b, ho⟩
def leL {α : Type} (t : List (Nat × α)) : List (Nat × α) → Prop
  | [] => True
  | (k, v) :: s => look k t = some v ∧ leL t s
theorem leL_look {α : Type} {t : List (Nat × α)} : ∀ {s : List (Nat × α)}, leL t s → ∀ k v, look k s = some v → look k t = some v
  | [], _, k, v, h => by cases h
  | (j, u) :: s, hl, k, v, h => by
    rw [look_cons] at h
    split at h
    · rename_i hk; cases h; rw [hk]; exact hl.1
    · exact leL_look hl.2 k v h
end Go.Proofs.Ytoihmanhldcjhaa.Id
namespace Go.Proofs.Ytoihmanhldcjhaa.Id
open Go
set_option linter.unusedVariables false
set_option linter.unusedSimpArgs false
def gslot (all : List Oper) (j : Nat) : Option Nat :=
  match all[j]? with
  | some o => o.dst
  | none => none
def iguard (all : List Oper) (fr : List (Nat × Value)) (g : Option (Nat × Bool)) : Option Bool :=
  match g with
  | none => some true
  | some (j, want) => match gslot all j with
    | some d => match look d fr with
      | some (.bool b) => some (b == want)
      | some _ => some false
      | none => none
    | none => none
def icall (fr : List (Nat × Value)) (op : Op) : Option (FuncId × List Value) :=
  match op with
  | .call c => match c.callee with
    | .value x => match opv fr x with
      | some (.func (.func f) first cap) => match iargs (opv fr) c.args.toList with
        | some vs => some (f, first.toList ++ vs ++ cap.toList)
        | none => none
      | _ => none
    | _ => none
  | _ => none
def idefer (fr : List (Nat × Value)) (c : Call) : Option Deferred :=
  match c.callee with
  | .value x => match opv fr x with
    | some (.func fn first cap) => match iargs (opv fr) c.args.toList with
      | some vs => some { target := .fn fn cap, args := first ++ vs.toArray }
      | none => none
    | _ => none
  | _ => none
inductive R1 where
  | done (st : St)
  | call (f : FuncId) (args : List Value) (dst : Option Nat) (os : List Oper) (st : St)
  | pan (v : Value) (st : St)
def irun (T : Tb) (all : List Oper) : List Oper → St → Option (R1 × Prop)
  | [], st => some (.done st, True)
  | o :: os, st =>
    match iguard all st.fr o.guard with
    | none => none
    | some false => match St.put st o.dst undef with
      | some st' => irun T all os st'
      | none => none
    | some true =>
      match o.op with
      | .panic x => match opv st.fr x with
        | some (.iface t v) => some (.pan (.iface t v) st, True)
        | _ => none
      | .defer c => match idefer st.fr c with
        | some d => match St.put { st with ds := d :: st.ds } o.dst undef with
          | some st' => irun T all os st'
          | none => none
        | none => none
      | op => match icall st.fr op with
        | some (f, args) => some (.call f args o.dst os st, True)
        | none => match iop T (opv st.fr) st.F st.nx op with
          | some r => match St.put { st with F := r.F, nx := r.nx } o.dst r.v with
            | some st' => match irun T all os st' with
              | some (out, vc) => some (out, r.vc ∧ vc)
              | none => none
            | none => none
          | none => none
def callQ (P : Program) (ops : Array Oper) (os : List Oper) (st : St) (dst : Option Nat) (Q : IExit → St → Prop) : Out → Hp → Nat → Prop
  | .ret v, F', nx' => ∃ st', St.put { st with F := F', nx := nx' } dst v = some st' ∧ JL P ops os st' Q
  | .pan v, F', nx' => Q (.pan v) { st with F := F', nx := nx' }
def R1J (P : Program) (ops : Array Oper) (Q : IExit → St → Prop) : R1 → Prop
  | .done st => Q .normal st
  | .pan v st => Q (.pan v) st
  | .call f args dst os st => CallW P f args st.F st.nx (callQ P ops os st dst Q)
section
variable {P : Program} {T : Tb} {ops : Array Oper} {st : St} {Q : IExit → St → Prop}
theorem iguard_run {m : Mp} {a : Act} {o : Oper} {b : Bool} (hf : FR st.fr m a.tmps) (h : iguard ops.toList st.fr o.guard = some b) : Region.wanted o (yielded ops a.tmps) = b := by
  unfold iguard at h
  unfold Region.wanted
  split at h
  · rename_i hg; cases h; rw [hg]
  · rename_i j want hg
    rw [hg]
    dsimp only
    split at h
    · rename_i d hd
      have hd' : (ops[j]?).bind (·.dst) = some d := by
        unfold gslot at hd
        rw [Array.getElem?_toList] at hd
        split at hd
        · rename_i o2 e; rw [e]; exact hd
        · cases hd
      split at h
      · rename_i b2 hb
        cases h
        obtain ⟨v', e, r⟩ := hf _ _ hb
        cases r
        unfold yielded
        rw [hd', Option.bind_some, e]
        cases b2 <;> cases want <;> rfl
      · rename_i v hn hv
        cases h
        obtain ⟨v', e, r⟩ := hf _ _ hv
        unfold yielded
        rw [hd', Option.bind_some, e]
        cases r <;> first | rfl | exact (hn _ rfl).elim
      · cases h
    · cases h
theorem icall_run {m : Mp} {F : Hp} {nx : Nat} {a : Act} {w : World} {o : Oper} {f : FuncId} {args : List Value} (hf : FR st.fr m a.tmps) (h : icall st.fr o.op = some (f, args)) :
    ∃ args' : Array Value, (execOp a.eval o).run P w = (callFunc f args').run P w ∧ VRs m args args'.toList := by
  unfold icall at h
  split at h
  · rename_i c ho
    split at h
    · rename_i x hc
      split at h
      · rename_i f2 first cap hx
        split at h
        · rename_i vs hvs
          cases h
          have hv := opv_run hf x _ hx
          have ha := iargs_run (opv_run hf) hvs
          generalize hax : a.eval x = fv at hv
          cases hv with
          | func fn h1 h2 =>
            rename_i first' cap'
            refine ⟨first' ++ c.args.map a.eval ++ cap', ?_, ?_⟩
            · unfold execOp
              simp [ho, resolve, hc, hax, Deferred.ofValue, invoke]
            · simpa using (h1.append ha).append h2
        · cases h
      · cases h
    · cases h
  · cases h
theorem JL_run (hT : TbOk P T) : ∀ {os : List Oper} {st : St} {r : R1} {vc : Prop}, irun T ops.toList os st = some (r, vc) → vc → R1J P ops Q r → JL P ops os st Q
  | [], st, r, vc, h, hv, hr => by
    cases h
    exact fun m0 F0 nx0 w0 m a w hs hr' => ⟨_, st, m, hr, hr', hs, .normal⟩
  | o :: os, st, r, vc, h, hv, hr => by
    intro m0 F0 nx0 w0 m a w hs hsr
    unfold irun at h
    split at h
    · cases h
    · rename_i hg
      have hw := iguard_run hsr.fr hg
      unfold wpList
      rw [hw]
      simp only [Bool.false_eq_true, if_false]
      split at h
      · rename_i st' hp
        obtain ⟨s1, s2, s3⟩ := hsr.put (fun _ _ h => h) hsr.hp (v' := undef) (by unfold undef; exact .tuple .nil) (st := st) (F := st.F) (nx := st.nx) hp
        exact JL_run hT h hv hr m0 F0 nx0 w0 m _ w (by rw [s2, s3]; exact hs) s1
      · cases h
    · rename_i hg
      have hw := iguard_run hsr.fr hg
      unfold wpList
      rw [hw]
      simp only [if_true]
      refine .inl ?_
      split at h
      · rename_i x ho
        split at h
        · rename_i t v hx
          cases h
          have hvx := opv_run hsr.fr x _ hx
          generalize hax : a.eval x = u at hvx
          cases hvx with
          | iface t hv2 =>
            rename_i v'
            unfold Oper.wp execOp
            simp only [ho, hax, Instr.panic, Sem.run_bind, run_goPanic, Result.andThen_halt]
            rw [Oper.upon_panic]
            exact ⟨_, st, m, hr, hsr, hs, .pan (.iface t hv2)⟩
        · cases h
      · rename_i c ho
        split at h
        · rename_i d hd
          split at h
          · rename_i st' hp
            unfold idefer at hd
            split at hd
            · rename_i x hc
              split at hd
              · rename_i fn first cap hx
                split at hd
                · rename_i vs hvs
                  cases hd
                  have hvx := opv_run hsr.fr x _ hx
                  have ha := iargs_run (opv_run hsr.fr) hvs
                  generalize hax : a.eval x = u at hvx
                  cases hvx with
                  | func fn h1 h2 =>
                    rename_i first' cap'
                    unfold Oper.wp execOp
                    simp only [ho, resolve, hc, hax, Deferred.ofValue, Sem.run_bind, Sem.run_pure, Result.andThen_ok]
                    rw [Oper.upon_defer]
                    have hsr2 : SR m { st with ds := { target := .fn fn cap, args := first ++ vs.toArray } :: st.ds } { a with defers := { target := .fn fn cap', args := first' ++ c.args.map a.eval } :: a.defers } w :=
                      ⟨hsr.n, hsr.fr, hsr.hp, .cons fn h2 (by simpa using h1.append ha) hsr.ds⟩
                    obtain ⟨s1, s2, s3⟩ := hsr2.put (fun _ _ h => h) hsr.hp (v' := undef) (by unfold undef; exact .tuple .nil) hp
                    exact JL_run hT h hv hr m0 F0 nx0 w0 m _ w (by rw [s2, s3]; exact hs) s1
                · cases hd
              · cases hd
            · cases hd
          · cases h
        · cases h
      · rename_i op hn1 hn2 hop
        split at h
        · rename_i f args hc
          cases h
          obtain ⟨hrun⟩ := hr
          obtain ⟨args', e1, e2⟩ := icall_run (P := P) (F := st.F) (nx := st.nx) (w := w) hsr.fr hc
          unfold Oper.wp
          refine (hrun m w args' hsr.hp e2).upon e1 ?_
          rintro e w' ⟨ou, F', nx', m', hk, hh, hst, hou⟩
          cases hou with
          | ret hv2 =>
            obtain ⟨st', hp, hj⟩ := hk
            obtain ⟨s1, s2, s3⟩ := hsr.put hst.ext hh hv2 hp
            exact hj m0 F0 nx0 w0 m' _ w' (by rw [s2, s3]; exact hs.trans hst) s1
          | pan hv2 =>
            exact ⟨_, _, m', hk, ⟨hsr.n, hsr.fr.mono hst.ext, hh, hsr.ds.mono hst.ext⟩, hs.trans hst, .pan hv2⟩
        · split at h
          · rename_i r2 hi
            split at h
            · rename_i st' hp
              split at h
              · rename_i out vc2 hrest
                cases h
                obtain ⟨m', w', x, a1, a2, a3, a4⟩ := iop_run hT (opv_run hsr.fr) hsr.hp hi hv.1
                unfold Oper.wp
                rw [a1]
                rcases a4 with ⟨v', rfl, hv2⟩ | ⟨rfl, hu⟩
                · rw [Oper.upon_value]
                  obtain ⟨s1, s2, s3⟩ := hsr.put a3.ext a2 hv2 hp
                  exact JL_run hT hrest hv.2 hr m0 F0 nx0 w0 m' _ w' (by rw [s2, s3]; exact hs.trans a3) s1
                · rw [Oper.upon_skip]
                  obtain ⟨s1, s2, s3⟩ := hsr.put a3.ext a2 (v' := undef) (by rw [hu]; unfold undef; exact .tuple .nil) hp
                  exact JL_run hT hrest hv.2 hr m0 F0 nx0 w0 m' _ w' (by rw [s2, s3]; exact hs.trans a3) s1
              · cases h
            · cases h
          · cases h
def iress (T : Tb) (st : St) : List ResultVar → Option (List Value × Prop)
  | [] => some ([], True)
  | .tmp t :: l => match look t st.fr, iress T st l with
    | some v, some (vs, vc) => some (v :: vs, vc)
    | _, _ => none
  | .cell a t :: l => match look a st.fr, iress T st l with
    | some p, some (vs, vc) => match iload T st.F t p with
      | some (v, vc2) => some (v :: vs, vc2 ∧ vc)
      | none => none
    | _, _ => none
def ires (T : Tb) (rs : List ResultVar) (st : St) : Option (Value × Prop) :=
  match iress T st rs with
  | some ([v], vc) => some (v, vc)
  | some (vs, vc) => some (.tuple vs.toArray, vc)
  | none => none
def resOne (tmps : Array Value) : ResultVar → Sem Value
  | .tmp t => pure (tmps.getD t undef)
  | .cell c t => do loadVar t (← asAddr (tmps.getD c undef))
theorem results_eq (fn : Func) (tmps : Array Value) : results fn tmps = (do let vs ← fn.results.toList.mapM (resOne tmps); pure (if h : vs.toArray.size = 1 then vs.toArray[0] else .tuple vs.toArray)) := by
  unfold results
  rw [Array.mapM_eq_mapM_toList]
  have : (fun (x : ResultVar) => (match x with
      | .tmp t => pure (tmps.getD t undef)
      | .cell a t => do loadVar t (← asAddr (tmps.getD a undef)) : Sem Value)) = resOne tmps := by funext r; cases r <;> rfl
  rw [← this]
  simp only [map_eq_pure_bind, bind_assoc, pure_bind]
  rfl
theorem iress_run (hT : TbOk P T) {m : Mp} {a : Act} {w : World} (hs : SR m st a w) : ∀ {l : List ResultVar} {vs : List Value} {vc : Prop}, iress T st l = some (vs, vc) → vc →
    ∃ vs', (l.mapM (resOne a.tmps)).run P w = .ok vs' w ∧ VRs m vs vs'
  | [], vs, vc, h, hv => by cases h; exact ⟨[], by simp, .nil⟩
  | .tmp t :: l, vs, vc, h, hv => by
    unfold iress at h
    split at h
    · rename_i v vs2 vc2 h1 h2
      cases h
      obtain ⟨vs', e1, e2⟩ := iress_run hT hs h2 hv
      obtain ⟨v', f1, f2⟩ := hs.fr _ _ h1
      refine ⟨v' :: vs', ?_, .cons f2 e2⟩
      have ht : a.tmps.getD t undef = v' := by simp [f1]
      simp only [List.mapM_cons, resOne, Sem.run_bind, Sem.run_pure, Result.andThen_ok, e1, ht]
    · cases h
  | .cell c t :: l, vs, vc, h, hv => by
    unfold iress at h
    split at h
    · rename_i p vs2 vc2 h1 h2
      split at h
      · rename_i v vc3 h3
        cases h
        obtain ⟨vs', e1, e2⟩ := iress_run hT hs h2 hv.2
        obtain ⟨p', f1, f2⟩ := hs.fr _ _ h1
        obtain ⟨v', g1, g2⟩ := iload_run hT hs.hp f2 h3 hv.1
        refine ⟨v' :: vs', ?_, .cons g2 e2⟩
        have hp : ∃ ad, p' = .pointer (some ad) := by
          unfold iload at h3
          split at h3
          · cases f2; exact ⟨_, rfl⟩
          · cases h3
        obtain ⟨ad, rfl⟩ := hp
        simp only [Instr.loadAt, Instr.sureAddr, Sem.run_bind, Sem.run_pure, Result.andThen_ok] at g1
        have ht : a.tmps.getD c undef = .pointer (some ad) := by simp [f1]
        have hA : (asAddr (.pointer (some ad))).run P w = .ok ad w := rfl
        simp only [List.mapM_cons, resOne, Sem.run_bind, Sem.run_pure, Result.andThen_ok, e1, ht, hA, g1]
      · cases h
    · cases h
theorem ires_run (hT : TbOk P T) {m : Mp} {a : Act} {w : World} {fn : Func} (hs : SR m st a w) {v : Value} {vc : Prop} (h : ires T fn.results.toList st = some (v, vc)) (hv : vc) : ∃ v', (results fn a.tmps).run P w = .ok v' w ∧ VR m v v' := by
  unfold ires at h
  split at h
  · rename_i u vc2 h1
    cases h
    obtain ⟨vs', e1, e2⟩ := iress_run hT hs h1 hv
    cases e2 with
    | cons g1 g2 =>
      cases g2
      refine ⟨_, ?_, g1⟩
      rw [results_eq]
      simp only [Sem.run_bind, e1, Result.andThen_ok, Sem.run_pure]
      simp
  · rename_i vs vc2 hn h1
    cases h
    obtain ⟨vs', e1, e2⟩ := iress_run hT hs h1 hv
    refine ⟨.tuple vs'.toArray, ?_, .tuple (by simpa using e2)⟩
    rw [results_eq]
    simp only [Sem.run_bind, e1, Result.andThen_ok, Sem.run_pure]
    have hl := e2.length
    have : ¬ (vs'.toArray.size = 1) := by
      intro hone
      simp at hone
      rw [hone] at hl
      match vs, hl with
      | [x], _ => exact hn x rfl
    rw [dif_neg this]
  · cases h
def bodyQ (T : Tb) (rs : List ResultVar) (K : Out → Hp → Nat → Prop) : IExit → St → Prop
  | .normal, st | .ret, st => st.ds = [] ∧ ∃ v vc, ires T rs st = some (v, vc) ∧ vc ∧ ∃ F', (∀ id b, look id F' = some b → look id st.F = some b) ∧ K (.ret v) F' st.nx
  | .pan v, st => st.ds = [] ∧ ∃ F', (∀ id b, look id F' = some b → look id st.F = some b) ∧ K (.pan v) F' st.nx
  | .exit _, _ => False
def params : Nat → List Value → List (Nat × Value)
  | _, [] => []
  | i, v :: vs => (i, v) :: params (i + 1) vs
theorem params_look {m : Mp} : ∀ {vs vs' : List Value} (i k : Nat) (v : Value), VRs m vs vs' → look k (params i vs) = some v → ∃ v', i ≤ k ∧ vs'[k - i]? = some v' ∧ VR m v v'
  | [], _, i, k, v, _, h => by cases h
  | x :: xs, _, i, k, v, .cons (v' := y) hx ht, h => by
    rw [params, look_cons] at h
    split at h
    · rename_i hk; cases h; subst hk; exact ⟨y, Nat.le_refl _, by simp, hx⟩
    · obtain ⟨v', a, b, c⟩ := params_look (i + 1) k v ht h
      exact ⟨v', by omega, by rw [show k - i = (k - (i + 1)) + 1 by omega]; simpa using b, c⟩
theorem CallW_of (hT : TbOk P T) {f : FuncId} {fn : Func} (N : Nat) (rs : List ResultVar) {c : Code} {args : List Value} {F : Hp} {nx : Nat} {K : Out → Hp → Nat → Prop} (hf : P.funcs[f]? = some fn) (hb : fn.body = some c)
    (hname : (fn.name == "runtime.NumGoroutine") = false) (hN : fn.ntmps = N) (hrs : fn.results.toList = rs) (hn : args.length ≤ N)
    (h : (∀ id b, look id F = some b → id < nx) → J P c { n := N, fr := params 0 args, F := F, nx := nx, ds := [] } (bodyQ T rs K)) : CallW P f args F nx K := by
  subst hN hrs
  refine ⟨fun m w args' hh hv => .inl ⟨⟨fn, hf, by rw [hb]; rfl, hname⟩, ?_⟩⟩
  refine calls_of_wp hf hb ?_
  have hl := hv.length
  simp at hl
  have hsr : SR m { n := fn.ntmps, fr := params 0 args, F := F, nx := nx, ds := [] } { tmps := args' ++ Array.replicate (fn.ntmps - args'.size) undef, defers := [] } w := by
    refine ⟨by simp; omega, ?_, hh, .nil⟩
    intro k v hk
    obtain ⟨v', _, e, r⟩ := params_look 0 k v hv hk
    refine ⟨v', ?_, r⟩
    simp at e
    have : k < args'.size := by rcases Nat.lt_or_ge k args'.size with h | h; exact h; simp [Array.getElem?_eq_none h] at e
    rw [Array.getElem?_append_left this]
    exact e
  refine wp_mono (h (fun id b e => hh.lt e) m F nx w m _ w (Stp.refl _ _ _ _) hsr) ?_
  rintro e a w' ⟨ie, s, m', q, r, t, u⟩
  have fin : ∀ (s : St), SR m' s a w' → Stp m F nx w m' s.F s.nx w' → (s.ds = [] ∧ ∃ v vc, ires T fn.results.toList s = some (v, vc) ∧ vc ∧ ∃ F', (∀ id b, look id F' = some b → look id s.F = some b) ∧ K (.ret v) F' s.nx) →
      a.defers = [] ∧ ∃ v, (results fn a.tmps).run P w' = .ok v w' ∧ ∃ o F' nx' m', K o F' nx' ∧ HR m' F' nx' w' ∧ Stp m F nx w m' F' nx' w' ∧ OutR m' o (.returned v) := by
    rintro s r t ⟨q0, v, vc, q1, q2, F', q3, q4⟩
    have hd := r.ds
    rw [q0] at hd
    obtain ⟨v', e1, e2⟩ := ires_run hT r q1 q2
    refine ⟨?_, v', e1, _, F', _, m', q4, r.hp.drop q3, t.drop q3, .ret e2⟩
    generalize a.defers = ds at hd
    cases hd; rfl
  cases u with
  | normal => exact fin s r t q
  | ret => exact fin s r t q
  | exit id => exact q.elim
  | pan hv2 =>
    obtain ⟨q0, F', q3, q4⟩ := q
    have hd := r.ds
    rw [q0] at hd
    refine ⟨?_, _, F', _, m', q4, r.hp.drop q3, t.drop q3, .pan hv2⟩
    generalize a.defers = ds at hd
    cases hd; rfl
end
end Go.Proofs.Ytoihmanhldcjhaa.Id
namespace Go.Proofs.Ytoihmanhldcjhaa.Id
open Go
def fieldKs (P : Program) : List Field → Option (List Bool)
  | [] => some []
  | f :: fs => match P.underlying f.type, fieldKs P fs with
    | some (.int _), some ks => some (true :: ks)
    | some .bool, some ks => some (false :: ks)
    | _, _ => none
def eqK (P : Program) (t : TypeId) : Option (List Bool) :=
  match P.underlying t with
  | some (.struct fs) => match fieldKs P fs.toList with
    | some ks => if P.stoodInHeld t = false ∧ P.eqGuardType P.depth t = false ∧ fieldsEq P 0 fs.toList ks = true then some ks else none
    | none => none
  | _ => none
theorem eqK_ok {P : Program} {t : TypeId} {ks : List Bool} (h : eqK P t = some ks) : EqOk P t ks := by
  unfold eqK at h
  split at h
  · rename_i fs hf
    split at h
    · rename_i ks' hk
      split at h
      · rename_i hc
        cases h
        have e : P.fieldsOf t = fs := by unfold Program.fieldsOf; rw [hf]
        exact ⟨hc.1, hc.2.1, by rw [e]; exact hf, by rw [e]; exact hc.2.2⟩
      · cases h
    · cases h
  · cases h
def tbOf (P : Program) : Tb where
  und := P.underlying
  inf t := match P.info? t with
    | some i => match i.zero with
      | some z => if z.cells.toList.all flat1 = true ∧ z.cells.size = i.size then some (i.size, i.bytes, z) else none
      | none => none
    | none => none
  eqs t := eqK P t
theorem tbOk (P : Program) : TbOk P (tbOf P) := by
  refine ⟨fun t d h => h, ?_, ?_, fun t ks h => eqK_ok h⟩
  · intro t s b z h
    simp only [tbOf] at h
    split at h
    · rename_i i hi
      split at h
      · rename_i z2 hz
        split at h
        · cases h; exact ⟨i, hi, rfl, rfl, hz⟩
        · cases h
      · cases h
    · cases h
  · intro t s b z h
    simp only [tbOf] at h
    split at h
    · rename_i i hi
      split at h
      · rename_i z2 hz
        split at h
        · rename_i hc; cases h; exact hc
        · cases h
      · cases h
    · cases h
theorem und_eq (P : Program) (t : TypeId) : (tbOf P).und t = P.underlying t := rfl
end Go.Proofs.Ytoihmanhldcjhaa.Id
namespace Go.Proofs.Ytoihmanhldcjhaa.Id
open Go
set_option linter.unusedVariables false
set_option linter.unusedSimpArgs false
structure Plan where
  wr : List (Nat × Nat)
  anc : List (List Nat)
  ch : List (Nat × List Nat)
  ac : List (List Nat)
  nw : List (List Nat)
  fl : List (List Nat)
def Plan.an (p : Plan) (i : Nat) : List Nat := p.anc.getD i []
def isMaker : Op → Bool
  | .alloc _ | .box .. | .buildSlice .. | .makeSlice .. => true
  | _ => false
def edgesOk (ops : List Oper) : Bool := ops.zipIdx.all fun (o, i) => o.after.toList.all fun e => !Region.binds .any e || decide (e.on < i)
def ancOk (ops : List Oper) (p : Plan) : Bool := ops.zipIdx.all fun (o, i) => (p.an i).all fun j => o.after.toList.any fun e => Region.binds .any e && (e.on == j || (p.an e.on).contains j)
def wrOk (ops : List Oper) (p : Plan) : Bool := ops.zipIdx.all fun (o, i) => match o.dst with
  | some d => look d p.wr == some i
  | none => true
def wrOk2 (ops : List Oper) (p : Plan) : Bool := p.wr.all fun (d, w) => match ops[w]? with
  | some o => o.dst == some d
  | none => false
def guardOk (ops : List Oper) (p : Plan) : Bool := ops.zipIdx.all fun (o, i) => match o.guard with
  | some (j, _) => (p.an i).contains j && (match ops[j]? with
    | some oj => oj.dst.isSome
    | none => false)
  | none => true
def lateB (ops : List Oper) (p : Plan) (c d : Nat) : Bool :=
  (match ops[d]? with
    | some o => (match o.op with
      | .alloc _ => true
      | _ => false) && o.guard.isNone && o.dst.isSome
    | none => false) && (List.range ops.length).all fun y => !(p.an y).contains d || (p.an y).contains c
def chOk (ops : List Oper) (p : Plan) : List (Nat × List Nat) → Bool
  | [] => true
  | (c, _) :: cs => (cs.all fun (d, _) => d != c && ((p.an d).contains c || lateB ops p c d)) && chOk ops p cs
def acOk (n : Nat) (p : Plan) : List Nat → List (Nat × List Nat) → List (List Nat) → Bool
  | done, cs, a :: aks => ((List.range n).all fun x => done.contains x || (cs.any fun (c, _) => c == x || (p.an x).contains c) || (done.any fun c => (p.an c).contains x) || a.contains x) &&
    match cs with
    | [] => true
    | (c, _) :: cs' => acOk n p (c :: done) cs' aks
  | _, _, [] => false
def flOk : List (List Nat) → List (List Nat) → List (List Nat) → Bool
  | n :: ns, f :: fs, a :: aks => (a.all fun x => n.contains x || f.contains x) && flOk ns fs aks
  | [], [], [] => true
  | _, _, _ => false
def planOk (ops : List Oper) (p : Plan) : Bool :=
  edgesOk ops && ancOk ops p && wrOk ops p && wrOk2 ops p && guardOk ops p && chOk ops p p.ch && acOk ops.length p [] p.ch p.ac && flOk p.nw p.fl p.ac && (p.ch.all fun (c, _) => decide (c < ops.length))
def opD (p : Plan) (fr : List (Nat × Value)) (E : List (Nat × Value)) (x : Nat) : Operand → Option Value
  | .tmp d => match look d p.wr with
    | some w => if (p.an x).contains w = true then look w E else if (p.an w).contains x = true then look d fr else none
    | none => look d fr
  | .const v => if flat v = true then some v else none
  | .func f => some (.func (.func f) #[] #[])
  | .global _ => none
def guardD (E : List (Nat × Value)) : Option (Nat × Bool) → Option Bool
  | none => some true
  | some (j, want) => match look j E with
    | some (.bool b) => some (b == want)
    | some _ => some false
    | none => none
def Obl (T : Tb) (p : Plan) (fr E : List (Nat × Value)) (F : Hp) (nx : Nat) (x : Nat) (o : Oper) : Prop :=
  match guardD E o.guard with
  | some false => look x E = some undef
  | some true => ∃ v vc, iop T (opD p fr E x) F nx o.op = some ⟨v, F, nx, vc⟩ ∧ vc ∧ look x E = some v ∧ isMaker o.op = false
  | none => False
def endFr (ops : List Oper) (E : List (Nat × Value)) : Nat → List (Nat × Value)
  | 0 => []
  | i + 1 => match ops[i]? with
    | some o => match o.dst, look i E with
      | some d, some v => (d, v) :: endFr ops E i
      | _, _ => endFr ops E i
    | none => endFr ops E i
def keepFr (wr : List (Nat × Nat)) : List (Nat × Value) → List (Nat × Value)
  | [] => []
  | (d, v) :: l => match look d wr with
    | none => (d, v) :: keepFr wr l
    | some _ => keepFr wr l
theorem look_keep {wr : List (Nat × Nat)} {k : Nat} {v : Value} : ∀ {l : List (Nat × Value)}, look k (keepFr wr l) = some v → look k l = some v ∧ look k wr = none
  | [], h => by cases h
  | (d, u) :: l, h => by
    rw [keepFr] at h
    split at h
    · rename_i hn
      rw [look_cons] at h ⊢
      split at h
      · rename_i e; subst e; rw [if_pos rfl]; exact ⟨h, hn⟩
      · rename_i e; rw [if_neg e]; exact look_keep h
    · rename_i x hs
      obtain ⟨a, b⟩ := look_keep h
      refine ⟨?_, b⟩
      rw [look_cons, if_neg ?_]
      · exact a
      · intro e; subst e; rw [b] at hs; cases hs
def stepD (P : Program) (T : Tb) (p : Plan) (ops : List Oper) (st : St) (E : List (Nat × Value)) (F : Hp) (nx : Nat) (x : Nat) (o : Oper) (K : Value → Hp → Nat → Prop) (Q : IExit → St → Prop) : Prop :=
  match guardD E o.guard with
  | some false => K undef F nx
  | some true =>
    match icallD (opD p st.fr E x) o.op with
    | some (f, args) => CallW P f args F nx fun ou F' nx' => match ou with
      | .ret v => K v F' nx'
      | .pan v => Q (.pan v) { st with fr := keepFr p.wr st.fr, F := F', nx := nx' }
    | none => ∃ r, iop T (opD p st.fr E x) F nx o.op = some r ∧ r.vc ∧ K r.v r.F r.nx
  | none => False
where icallD (ρ : Operand → Option Value) (op : Op) : Option (FuncId × List Value) :=
  match op with
  | .call c => match c.callee with
    | .value y => match ρ y with
      | some (.func (.func f) first cap) => match iargs ρ c.args.toList with
        | some vs => some (f, first.toList ++ vs ++ cap.toList)
        | none => none
      | _ => none
    | _ => none
  | _ => none
def HD (P : Program) (T : Tb) (p : Plan) (ops : List Oper) (st : St) (Q : IExit → St → Prop) : List (Nat × List Nat) → List (List Nat) → List (Nat × Value) → Hp → Nat → Prop
  | [], a :: _, E, F, nx => (∀ x ∈ a, ∀ o, ops[x]? = some o → Obl T p st.fr E F nx x o) ∧ Q .normal { st with fr := endFr ops E ops.length ++ st.fr, F := F, nx := nx }
  | (c, _) :: cs, a :: aks, E, F, nx => (∀ x ∈ a, ∀ o, ops[x]? = some o → Obl T p st.fr E F nx x o) ∧ ∀ o, ops[c]? = some o → (stepD P T p ops st E F nx c o (fun v F' nx' => ∃ E', (∀ i u, look i ((c, v) :: E) = some u → look i E' = some u) ∧ HD P T p ops st Q cs aks E' F' nx') Q)
  | _, [], _, _, _ => False
theorem icallD_run {P : Program} {ρ : Operand → Option Value} {m : Mp} {a : Act} {w : World} {o : Oper} {f : FuncId} {args : List Value} (hf : ∀ y ∈ o.op.operands.toList, ∀ v, ρ y = some v → VR m v (a.eval y)) (h : stepD.icallD ρ o.op = some (f, args)) :
    ∃ args' : Array Value, (execOp a.eval o).run P w = (callFunc f args').run P w ∧ VRs m args args'.toList := by
  unfold stepD.icallD at h
  split at h
  · rename_i c ho
    split at h
    · rename_i x hc
      have hops : o.op.operands = #[x] ++ c.args := by rw [ho]; simp [Op.operands, Call.operands, hc]
      split at h
      · rename_i f2 first cap hx
        split at h
        · rename_i vs hvs
          cases h
          have hv := hf x (by rw [hops]; simp) _ hx
          have ha : VRs m vs (c.args.toList.map a.eval) := by
            have : ∀ (l : List Operand) (vs : List Value), (∀ y ∈ l, y ∈ o.op.operands.toList) → iargs ρ l = some vs → VRs m vs (l.map a.eval) := by
              intro l
              induction l with
              | nil => intro vs _ h; cases h; exact .nil
              | cons y l ih =>
                intro vs hy h
                unfold iargs at h
                split at h
                · rename_i v vs2 h1 h2
                  cases h
                  exact .cons (hf y (hy y (by simp)) _ h1) (ih _ (fun z hz => hy z (by simp [hz])) h2)
                · cases h
            exact this _ _ (fun y hy => by rw [hops]; simp; exact .inr (by simpa using hy)) hvs
          generalize hax : a.eval x = fv at hv
          cases hv with
          | func fn h1 h2 =>
            rename_i first' cap'
            refine ⟨first' ++ c.args.map a.eval ++ cap', ?_, ?_⟩
            · unfold execOp
              simp [ho, resolve, hc, hax, Deferred.ofValue, invoke]
            · simpa using (h1.append ha).append h2
        · cases h
      · cases h
    · cases h
  · cases h
theorem countP_lt {α : Type} {p q : α → Bool} : ∀ {l : List α}, (∀ x ∈ l, q x = true → p x = true) → (∃ x ∈ l, p x = true ∧ q x = false) → l.countP q < l.countP p
  | [], _, ⟨x, hx, _⟩ => by cases hx
  | y :: l, h, ⟨x, hx, h1, h2⟩ => by
    rw [List.countP_cons, List.countP_cons]
    have hle : l.countP q ≤ l.countP p := List.countP_mono_left fun z hz => h z (by simp [hz])
    rcases List.mem_cons.1 hx with rfl | hx
    · simp [h1, h2]; omega
    · have ih := countP_lt (l := l) (fun z hz => h z (by simp [hz])) ⟨x, hx, h1, h2⟩
      have hy := h y (by simp)
      cases hq : q y <;> cases hp : p y <;> simp_all <;> omega
def Ls (D : Array Bool) (i : Nat) : Prop := D.getD i false = true
theorem mem_ready {ops : Array Oper} {D : Array Bool} {i : Nat} (h : i ∈ Region.ready .any ops D) (hD : D.size = ops.size) :
    ∃ o, ops[i]? = some o ∧ i < ops.size ∧ ¬ Ls D i ∧ ∀ e ∈ o.after.toList, Region.binds .any e = true → Ls D e.on := by
  unfold Region.ready at h
  rw [List.mem_filter, List.mem_range] at h
  obtain ⟨hi, h⟩ := h
  rw [Bool.and_eq_true] at h
  obtain ⟨h1, h2⟩ := h
  have ho : ops[i]? = some ops[i] := by simp [hi]
  rw [ho] at h2
  refine ⟨_, ho, hi, ?_, ?_⟩
  · unfold Ls
    have : D.getD i true = D.getD i false := by simp [show i < D.size by omega]
    rw [← this]; simpa using h1
  · intro e he hb
    simp only [Option.map_some, Option.getD_some] at h2
    have := (Array.all_eq_true_iff_forall_mem.1 h2) e (by simpa using he)
    unfold Ls
    rw [hb] at this
    simpa using this
theorem all_listed {ops : Array Oper} {D : Array Bool} (hD : D.size = ops.size) (he : edgesOk ops.toList = true) (h : Region.ready .any ops D = []) : ∀ i, i < ops.size → Ls D i := by
  intro i
  induction i using Nat.strongRecOn with
  | _ i ih =>
    intro hi
    apply Classical.byContradiction
    intro hn
    have : i ∈ Region.ready .any ops D := by
      unfold Region.ready
      rw [List.mem_filter, List.mem_range]
      refine ⟨hi, ?_⟩
      have ho : ops[i]? = some ops[i] := by simp [hi]
      rw [ho]
      have e1 : D.getD i true = D.getD i false := by simp [show i < D.size by omega]
      unfold Ls at hn
      rw [e1]
      simp only [Bool.not_eq_true] at hn
      rw [hn]
      simp only [Bool.not_false, Option.map_some, Option.getD_some, Bool.true_and]
      rw [Array.all_eq_true_iff_forall_mem]
      intro e hm
      unfold edgesOk at he
      rw [List.all_eq_true] at he
      have h2 := he (ops[i], i) (by rw [List.mem_zipIdx_iff_getElem?]; simp [hi])
      dsimp only at h2
      rw [List.all_eq_true] at h2
      have h3 := h2 e (by simpa using hm)
      cases hb : Region.binds .any e with
      | false => rfl
      | true =>
        rw [hb] at h3
        simp at h3
        have := ih e.on h3 (by omega)
        unfold Ls at this
        simpa using this
    rw [h] at this
    cases this
theorem endFr_look {ops : List Oper} {E : List (Nat × Value)} : ∀ {N : Nat} {k : Nat} {v : Value}, look k (endFr ops E N) = some v → ∃ i o, ops[i]? = some o ∧ o.dst = some k ∧ look i E = some v
  | 0, k, v, h => by cases h
  | N + 1, k, v, h => by
    unfold endFr at h
    split at h
    · rename_i o ho
      split at h
      · rename_i d u hd hu
        rw [look_cons] at h
        split at h
        · rename_i hk; cases h; subst hk; exact ⟨N, o, ho, hd, hu⟩
        · exact endFr_look h
      · exact endFr_look h
    · exact endFr_look h
theorem endFr_some {ops : List Oper} {E : List (Nat × Value)} {i k : Nat} {o : Oper} {v : Value} (ho : ops[i]? = some o) (hd : o.dst = some k) (hv : look i E = some v) : ∀ {N : Nat}, i < N → look k (endFr ops E N) ≠ none
  | 0, h => by omega
  | N + 1, h => by
    unfold endFr
    by_cases hi : i = N
    · subst hi
      rw [ho]
      simp only [hd, hv, look_cons, if_true]
      simp
    · have ih := endFr_some ho hd hv (N := N) (by omega)
      split
      · split
        · rw [look_cons]; split
          · simp
          · exact ih
        · exact ih
      · exact ih
def Pend (T : Tb) (ops : Array Oper) (m : Mp) (a : Act) (w : World) (F : Hp) (B0 c b : Nat) : Prop :=
  ∃ o e d s y z, ops[c]? = some o ∧ o.op = .alloc e ∧ o.guard = none ∧ o.dst = some d ∧ T.inf e = some (s, y, z) ∧ a.tmps[d]? = some (.pointer (some ⟨b, 0, none⟩)) ∧ w.heap[b]? = some (.cells z.cells e (0, 0)) ∧ B0 ≤ b ∧ ∀ id blk q, look id F = some blk → m id = some q → q.b ≠ b
def Pends (T : Tb) (ops : Array Oper) (m : Mp) (a : Act) (w : World) (D : Array Bool) (cs : List (Nat × List Nat)) (F : Hp) (B0 : Nat) : Prop :=
  ∃ g : Nat → Nat, (∀ c l, (c, l) ∈ cs → Ls D c → Pend T ops m a w F B0 c (g c)) ∧ ∀ c c' l l', (c, l) ∈ cs → (c', l') ∈ cs → Ls D c → Ls D c' → c ≠ c' → g c ≠ g c'
structure Inv (P : Program) (T : Tb) (p : Plan) (ops : Array Oper) (st : St) (m : Mp) (a : Act) (w : World) (D : Array Bool) (cs : List (Nat × List Nat)) (E : List (Nat × Value)) (F : Hp) (nx : Nat) (B0 : Nat) : Prop where
  size : D.size = ops.size
  todo : Pends T ops m a w D cs F B0
  clo : ∀ i, Ls D i → ∀ j ∈ p.an i, Ls D j
  s1 : ∀ d v, look d st.fr = some v → (∀ x, look d p.wr = some x → ¬ Ls D x) → ∃ v', a.tmps[d]? = some v' ∧ VR m v v'
  s2 : ∀ i o d, ops[i]? = some o → Ls D i → (∀ l, (i, l) ∉ cs) → o.dst = some d → ∃ v v', look i E = some v ∧ a.tmps[d]? = some v' ∧ VR m v v'
  hp : HR m F nx w
  n : a.tmps.size = st.n
  ds : DRs m st.ds a.defers
section
variable {P : Program} {T : Tb} {p : Plan} {ops : Array Oper} {st : St} {m : Mp} {a : Act} {w : World} {D : Array Bool} {cs : List (Nat × List Nat)} {E : List (Nat × Value)} {F : Hp} {nx B0 : Nat}
theorem Inv.opnd (h : Inv P T p ops st m a w D cs E F nx B0) (hw2 : wrOk2 ops.toList p = true) {x : Nat} (hx : ¬ Ls D x) (ha : ∀ j ∈ p.an x, Ls D j) (hnc : ∀ j ∈ p.an x, ∀ l, (j, l) ∉ cs) (y : Operand) (v : Value) (hy : opD p st.fr E x y = some v) : VR m v (a.eval y) := by
  cases y with
  | tmp d =>
    have fin : ∀ v', a.tmps[d]? = some v' → a.eval (.tmp d) = v' := fun v' e => by simp only [Act.eval, Array.getD_eq_getD_getElem?, e, Option.getD_some]
    simp only [opD] at hy
    split at hy
    · rename_i wx hwx
      split at hy
      · rename_i hc
        have hL := ha wx (by simpa using hc)
        unfold wrOk2 at hw2
        rw [List.all_eq_true] at hw2
        have hmem : (d, wx) ∈ p.wr := by
          have : ∀ (l : List (Nat × Nat)), look d l = some wx → (d, wx) ∈ l := by
            intro l
            induction l with
            | nil => intro h; cases h
            | cons e l ih =>
              obtain ⟨k, u⟩ := e
              intro h
              rw [look_cons] at h
              split at h
              · rename_i hk; cases h; subst hk; simp
              · simp [ih h]
          exact this _ hwx
        have h2 := hw2 (d, wx) hmem
        dsimp only at h2
        rw [Array.getElem?_toList] at h2
        split at h2
        · rename_i o ho
          obtain ⟨u, v', e1, e2, e3⟩ := h.s2 wx o d ho hL (hnc wx (by simpa using hc)) (by simpa using h2)
          rw [hy] at e1; cases e1
          rw [fin _ e2]; exact e3
        · cases h2
      · split at hy
        · rename_i hc
          obtain ⟨v', e1, e2⟩ := h.s1 d v hy (fun x2 hx2 hL => by
            rw [hwx] at hx2; cases hx2
            exact hx (h.clo _ hL x (by simpa using hc)))
          rw [fin _ e1]; exact e2
        · cases hy
    · rename_i hno
      obtain ⟨v', e1, e2⟩ := h.s1 d v hy (fun x2 hx2 => by rw [hno] at hx2; cases hx2)
      rw [fin _ e1]; exact e2
  | const u =>
    simp only [opD] at hy
    split at hy
    · cases hy; exact VR.of_flat (by assumption)
    · cases hy
  | func f => cases hy; exact .func _ .nil .nil
  | global g => cases hy
theorem Inv.guard (h : Inv P T p ops st m a w D cs E F nx B0) (hg : guardOk ops.toList p = true) {x : Nat} {o : Oper} (ho : ops[x]? = some o) (ha : ∀ j ∈ p.an x, Ls D j) (hnc : ∀ j ∈ p.an x, ∀ l, (j, l) ∉ cs) {b : Bool} (hb : guardD E o.guard = some b) :
    Region.wanted o (yielded ops a.tmps) = b := by
  unfold guardD at hb
  unfold Region.wanted
  split at hb
  · rename_i hgd; cases hb; rw [hgd]
  · rename_i j want hgd
    rw [hgd]
    dsimp only
    unfold guardOk at hg
    rw [List.all_eq_true] at hg
    have h2 := hg (o, x) (by rw [List.mem_zipIdx_iff_getElem?]; simpa using ho)
    dsimp only at h2
    rw [hgd] at h2
    simp only [Bool.and_eq_true] at h2
    have hL := ha j (by simpa using h2.1)
    rw [Array.getElem?_toList] at h2
    cases hoj : ops[j]? with
    | none => rw [hoj] at h2; simp at h2
    | some oj =>
      rw [hoj] at h2
      obtain ⟨d, hd⟩ := Option.isSome_iff_exists.1 h2.2
      obtain ⟨u, v', e1, e2, e3⟩ := h.s2 j oj d hoj hL (hnc j (by simpa using h2.1)) hd
      have hy : yielded ops a.tmps j = match v' with
        | .bool b => some b
        | _ => none := by
        unfold yielded
        rw [hoj]
        simp only [Option.bind_some, hd, e2]
        cases v' <;> rfl
      rw [hy]
      rw [e1] at hb
      cases e3 <;> first | (cases hb; rename_i b2; cases b2 <;> cases want <;> rfl) | (cases hb; rfl)
theorem Inv.put (h : Inv P T p ops st m a w D cs E F nx B0) (hwr : wrOk ops.toList p = true) {x : Nat} {o : Oper} (ho : ops[x]? = some o) (hx : ¬ Ls D x) (ha : ∀ j ∈ p.an x, Ls D j) {m' : Mp} {w' : World} {E' : List (Nat × Value)} {F' : Hp} {nx' : Nat} {cs' : List (Nat × List Nat)}
    (hst : Stp m F nx w m' F' nx' w') (hp : HR m' F' nx' w') (hE : ∀ i v, Ls D i → look i E = some v → look i E' = some v) {v v' : Value} (hEx : look x E' = some v) (hv : VR m' v v') (hd : ∀ d, o.dst = some d → d < st.n)
    (hcs : ∀ c l, (c, l) ∈ cs' → (c, l) ∈ cs ∧ c ≠ x) (hcs2 : ∀ c l, (c, l) ∈ cs → c = x ∨ ∃ l', (c, l') ∈ cs') : Inv P T p ops st m' (a.put o.dst v') w' (D.setIfInBounds x true) cs' E' F' nx' B0 := by
  have hm := hst.ext
  have hxs : x < D.size := by rw [h.size]; exact (Array.getElem?_eq_some_iff.1 ho).1
  have hL : ∀ i, Ls (D.setIfInBounds x true) i ↔ i = x ∨ Ls D i := by
    intro i
    unfold Ls
    simp only [Array.getD_eq_getD_getElem?, Array.getElem?_setIfInBounds]
    by_cases hi : x = i
    · subst hi; simp [hxs]
    · simp [hi, Ne.symm hi]
  have huniq : ∀ i oi d, ops[i]? = some oi → oi.dst = some d → look d p.wr = some i := by
    intro i oi d hoi hdi
    unfold wrOk at hwr
    rw [List.all_eq_true] at hwr
    have h2 := hwr (oi, i) (by rw [List.mem_zipIdx_iff_getElem?]; simpa using hoi)
    dsimp only at h2
    rw [hdi] at h2
    simpa using h2
  have hget : ∀ d u, (∀ e, o.dst = some e → e ≠ d) → a.tmps[d]? = some u → (a.put o.dst v').tmps[d]? = some u := by
    intro d u hne hu
    unfold Act.put
    cases hdst : o.dst with
    | none => exact hu
    | some e => simp only [Array.getElem?_setIfInBounds, if_neg (hne e hdst)]; exact hu
  refine ⟨by simpa using h.size, ?_, ?_, ?_, ?_, hp, ?_, ?_⟩
  · obtain ⟨g, g1, g2⟩ := h.todo
    have old : ∀ c l, (c, l) ∈ cs' → Ls (D.setIfInBounds x true) c → Ls D c := fun c l hc hl => by
      rcases (hL c).1 hl with rfl | hl
      · exact absurd rfl (hcs c l hc).2
      · exact hl
    refine ⟨g, fun c l hc hl => ?_, fun c c' l l' hc hc' hl hl' => g2 c c' l l' (hcs c l hc).1 (hcs c' l' hc').1 (old c l hc hl) (old c' l' hc' hl')⟩
    obtain ⟨oc, e, d, s, y, z, q1, q2, q3, q4, q5, q6, q7, q8, q9⟩ := g1 c l (hcs c l hc).1 (old c l hc hl)
    have hlt : g c < w.heap.size := by
      rcases Nat.lt_or_ge (g c) w.heap.size with hl | hl
      · exact hl
      · rw [Array.getElem?_eq_none hl] at q7; cases q7
    have hno : ¬ Owned m F (g c) := by
      rintro ⟨id, blk, pl, a1, _, a3, a4⟩
      exact q9 id blk pl a1 a3 a4
    refine ⟨oc, e, d, s, y, z, q1, q2, q3, q4, q5, hget d _ ?_ q6, (hst.keep (g c) hlt hno).trans q7, q8, fun id blk q hl2 hq hb => ?_⟩
    · rintro e2 he2 rfl
      have h1 := huniq x o e2 ho he2
      have h2 := huniq c oc e2 q1 q4
      rw [h1] at h2; cases h2
      exact (hcs x l hc).2 rfl
    · rcases hst.sub id blk q hl2 hq with ⟨b0, a1, a2, _⟩ | ho2 | hge
      · exact q9 id b0 q a1 a2 hb
      · rw [hb] at ho2; exact hno ho2
      · omega
  · intro i hi j hj
    rcases (hL i).1 hi with rfl | hi
    · exact (hL j).2 (.inr (ha j hj))
    · exact (hL j).2 (.inr (h.clo i hi j hj))
  · intro d u hu hno
    obtain ⟨u', e1, e2⟩ := h.s1 d u hu fun y hy hLy => hno y hy ((hL y).2 (.inr hLy))
    refine ⟨u', hget d u' ?_ e1, e2.mono hm⟩
    rintro e he rfl
    exact hno x (huniq x o e ho he) ((hL x).2 (.inl rfl))
  · intro i oi d hoi hi hni hdi
    rcases (hL i).1 hi with rfl | hi
    · rw [ho] at hoi; cases hoi
      refine ⟨v, v', hEx, ?_, hv⟩
      unfold Act.put
      rw [hdi]
      have q1 := hd d hdi
      have q2 := h.n
      simp only [Array.getElem?_setIfInBounds, if_true]
      rw [if_pos (Nat.lt_of_lt_of_eq q1 q2.symm)]
    · have hix : i ≠ x := fun e => hx (e ▸ hi)
      obtain ⟨u, u', e1, e2, e3⟩ := h.s2 i oi d hoi hi (fun l hl => by
        rcases hcs2 i l hl with e | ⟨l', e⟩
        · exact hix e
        · exact hni l' e) hdi
      refine ⟨u, u', hE i u hi e1, hget d u' ?_ e2, e3.mono hm⟩
      rintro e he rfl
      have h1 := huniq x o e ho he
      have h2 := huniq i oi e hoi hdi
      rw [h1] at h2; cases h2
      exact hx hi
  · unfold Act.put
    cases o.dst with
    | none => exact h.n
    | some e => simpa using h.n
  · unfold Act.put
    cases o.dst <;> exact h.ds.mono hm
theorem chOk_head {ops : List Oper} {p : Plan} {c : Nat} {l : List Nat} {cs : List (Nat × List Nat)} (h : chOk ops p ((c, l) :: cs) = true) : (∀ d l2, (d, l2) ∈ cs → d ≠ c ∧ (c ∈ p.an d ∨ lateB ops p c d = true)) ∧ chOk ops p cs = true := by
  unfold chOk at h
  simp only [Bool.and_eq_true, List.all_eq_true] at h
  exact ⟨fun d l2 hd => by simpa using h.1 (d, l2) hd, h.2⟩
theorem lateB_an {ops : List Oper} {p : Plan} {c d : Nat} (h : lateB ops p c d = true) {y : Nat} (hy : y < ops.length) (hd : d ∈ p.an y) : c ∈ p.an y := by
  unfold lateB at h
  simp only [Bool.and_eq_true, List.all_eq_true] at h
  have := h.2 y (by simpa using hy)
  simp only [Bool.or_eq_true, Bool.not_eq_true', List.contains_eq_mem, decide_eq_true_eq, decide_eq_false_iff_not] at this
  rcases this with h1 | h1
  · exact absurd hd h1
  · exact h1
theorem lateB_op {ops : List Oper} {p : Plan} {c d : Nat} {o : Oper} (h : lateB ops p c d = true) (ho : ops[d]? = some o) : ∃ e k, o.op = .alloc e ∧ o.guard = none ∧ o.dst = some k := by
  unfold lateB at h
  rw [ho] at h
  simp only [Bool.and_eq_true] at h
  obtain ⟨⟨⟨h1, h2⟩, h3⟩, _⟩ := h
  obtain ⟨k, hk⟩ := Option.isSome_iff_exists.1 h3
  split at h1
  · rename_i e he; exact ⟨e, k, he, by simpa using h2, hk⟩
  · cases h1
theorem HR.alloc (h : HR m F nx w) (ob : Obj) : HR m F nx (w.alloc ob) ∧ Stp m F nx w m F nx (w.alloc ob) := by
  have hw : ∀ b, b < w.heap.size → (w.alloc ob).heap[b]? = w.heap[b]? := fun b hb => by
    show (w.heap.push _)[b]? = _
    rw [Array.getElem?_push, if_neg (Nat.ne_of_lt hb)]
  exact ⟨⟨fun id blk e => let ⟨p, a, b⟩ := h.has id blk e; ⟨p, a, b.mono (fun _ _ h => h) (hw _ (h.lt_size e a))⟩, h.top, h.inj⟩, ⟨fun _ _ h => h, Nat.le_refl _, by simp, fun _ _ _ h k => .inl ⟨_, h, k, rfl⟩, fun b hb _ => hw b hb, rfl, rfl, rfl⟩⟩
theorem Inv.late (h : Inv P T p ops st m a w D cs E F nx B0) (hwr : wrOk ops.toList p = true) {x : Nat} {o : Oper} (ho : ops[x]? = some o) (hx : ¬ Ls D x) (ha : ∀ j ∈ p.an x, Ls D j) {l : List Nat} {c : Nat} {lc : List Nat} {cs' : List (Nat × List Nat)} (hmem : (x, l) ∈ cs') {e : TypeId} {k s y : Nat} {z : Value} (hop : o.op = .alloc e) (hg : o.guard = none) (hdk : o.dst = some k) (hinf : T.inf e = some (s, y, z)) (hk : k < st.n) (hB : B0 ≤ w.heap.size)
    (hcs : cs = (c, lc) :: cs' := by rfl) : Inv P T p ops st m (a.put o.dst (.pointer (some ⟨w.heap.size, 0, none⟩))) (w.alloc (.cells z.cells e)) (D.setIfInBounds x true) cs E F nx B0 := by
  have hmem2 : (x, l) ∈ cs := by rw [hcs]; simp [hmem]
  have hxs : x < D.size := by rw [h.size]; exact (Array.getElem?_eq_some_iff.1 ho).1
  have hL : ∀ i, Ls (D.setIfInBounds x true) i ↔ i = x ∨ Ls D i := by
    intro i
    unfold Ls
    simp only [Array.getD_eq_getD_getElem?, Array.getElem?_setIfInBounds]
    by_cases hi : x = i
    · subst hi; simp [hxs]
    · simp [hi, Ne.symm hi]
  have huniq : ∀ i oi d, ops[i]? = some oi → oi.dst = some d → look d p.wr = some i := by
    intro i oi d hoi hdi
    unfold wrOk at hwr
    rw [List.all_eq_true] at hwr
    have h2 := hwr (oi, i) (by rw [List.mem_zipIdx_iff_getElem?]; simpa using hoi)
    dsimp only at h2
    rw [hdi] at h2
    simpa using h2
  have hget : ∀ d u, d ≠ k → a.tmps[d]? = some u → (a.put o.dst (.pointer (some ⟨w.heap.size, 0, none⟩))).tmps[d]? = some u := by
    intro d u hne hu
    unfold Act.put
    rw [hdk]
    simp only [Array.getElem?_setIfInBounds, if_neg (Ne.symm hne)]
    exact hu
  obtain ⟨hA, hS⟩ := h.hp.alloc (.cells z.cells e)
  have hlast : (w.alloc (.cells z.cells e)).heap[w.heap.size]? = some (.cells z.cells e (0, 0)) := by
    show (w.heap.push _)[w.heap.size]? = _
    rw [Array.getElem?_push, if_pos rfl]
  have hold : ∀ b, b < w.heap.size → (w.alloc (.cells z.cells e)).heap[b]? = w.heap[b]? := fun b hb => by
    show (w.heap.push _)[b]? = _
    rw [Array.getElem?_push, if_neg (Nat.ne_of_lt hb)]
  obtain ⟨g, g1, g2⟩ := h.todo
  have glt : ∀ c l, (c, l) ∈ cs → Ls D c → g c < w.heap.size := fun c l hc hl => by
    obtain ⟨oc, e', d, s', y', z', q1, q2, q3, q4, q5, q6, q7, q8, q9⟩ := g1 c l hc hl
    rcases Nat.lt_or_ge (g c) w.heap.size with h1 | h1
    · exact h1
    · rw [Array.getElem?_eq_none h1] at q7; cases q7
  obtain ⟨g', gx, go⟩ : ∃ g' : Nat → Nat, g' x = w.heap.size ∧ ∀ i, i ≠ x → g' i = g i := ⟨fun i => if i = x then w.heap.size else g i, by simp, fun i h => by simp [h]⟩
  refine ⟨by simpa using h.size, ⟨g', fun c l hc hl => ?_, fun c c' l l' hc hc' hl hl' hne => ?_⟩, ?_, ?_, ?_, hA, ?_, ?_⟩
  · rcases (hL c).1 hl with rfl | hl2
    · refine ⟨o, e, k, s, y, z, ho, hop, hg, hdk, hinf, ?_, by rw [gx]; exact hlast, by rw [gx]; exact hB, fun id blk q hq1 hq2 => ?_⟩
      · rw [gx]
        unfold Act.put
        rw [hdk]
        have q2 := h.n
        simp only [Array.getElem?_setIfInBounds, if_true]
        rw [if_pos (Nat.lt_of_lt_of_eq hk q2.symm)]
      · rw [gx]
        have := h.hp.lt_size hq1 hq2
        omega
    · have hcx : c ≠ x := fun e => hx (e ▸ hl2)
      obtain ⟨oc, e', d, s', y', z', q1, q2, q3, q4, q5, q6, q7, q8, q9⟩ := g1 c l hc hl2
      rw [go c hcx]
      refine ⟨oc, e', d, s', y', z', q1, q2, q3, q4, q5, hget d _ ?_ q6, (hold _ (glt c l hc hl2)).trans q7, q8, q9⟩
      rintro rfl
      have u1 := huniq x o d ho hdk
      have u2 := huniq c oc d q1 q4
      rw [u1] at u2; cases u2
      exact hcx rfl
  · rcases (hL c).1 hl with rfl | hl2 <;> rcases (hL c').1 hl' with rfl | hl2'
    · exact absurd rfl hne
    · rw [gx, go c' (Ne.symm hne)]; have := glt c' l' hc' hl2'; omega
    · rw [gx, go c hne]; have := glt c l hc hl2; omega
    · rw [go c (fun e => hx (e ▸ hl2)), go c' (fun e => hx (e ▸ hl2'))]
      exact g2 c c' l l' hc hc' hl2 hl2' hne
  · intro i hi j hj
    rcases (hL i).1 hi with rfl | hi
    · exact (hL j).2 (.inr (ha j hj))
    · exact (hL j).2 (.inr (h.clo i hi j hj))
  · intro d u hu hno
    obtain ⟨u', e1, e2⟩ := h.s1 d u hu fun y hy hLy => hno y hy ((hL y).2 (.inr hLy))
    refine ⟨u', hget d u' ?_ e1, e2⟩
    rintro rfl
    exact hno x (huniq x o d ho hdk) ((hL x).2 (.inl rfl))
  · intro i oi d hoi hi hni hdi
    rcases (hL i).1 hi with rfl | hi
    · exact absurd hmem2 (hni l)
    · obtain ⟨u, u', e1, e2, e3⟩ := h.s2 i oi d hoi hi hni hdi
      refine ⟨u, u', e1, hget d u' ?_ e2, e3⟩
      rintro rfl
      have h1 := huniq x o d ho hdk
      have h2 := huniq i oi d hoi hdi
      rw [h1] at h2; cases h2
      exact hx hi
  · unfold Act.put
    rw [hdk]
    simpa using h.n
  · unfold Act.put
    rw [hdk]
    exact h.ds
def infOk (T : Tb) (ops : List Oper) : Bool := ops.all fun o => match o.op with
  | .alloc e => (T.inf e).isSome
  | _ => true
theorem infOk_some {T : Tb} {ops : List Oper} (h : infOk T ops = true) {i : Nat} {o : Oper} (ho : ops[i]? = some o) {e : TypeId} (hop : o.op = .alloc e) : ∃ s y z, T.inf e = some (s, y, z) := by
  unfold infOk at h
  rw [List.all_eq_true] at h
  have := h o (List.mem_of_getElem? ho)
  rw [hop] at this
  obtain ⟨⟨s, y, z⟩, hx⟩ := Option.isSome_iff_exists.1 this
  exact ⟨s, y, z, hx⟩
theorem sim (hT : TbOk P T) {Q : IExit → St → Prop} {m0 : Mp} {F0 : Hp} {nx0 : Nat} {w0 : World} (he : edgesOk ops.toList = true) (hanc : ancOk ops.toList p = true) (hwr : wrOk ops.toList p = true) (hw2 : wrOk2 ops.toList p = true) (hg : guardOk ops.toList p = true)
    (hdst : ∀ (i : Nat) (o : Oper) d, ops[i]? = some o → o.dst = some d → d < st.n) (hch : ∀ c l, (c, l) ∈ p.ch → c < ops.size) (hinfo : infOk T ops.toList = true) :
    ∀ (fuel : Nat) (D : Array Bool) (done : List Nat) (cs : List (Nat × List Nat)) (aks : List (List Nat)) (E : List (Nat × Value)) (F : Hp) (nx : Nat) (m : Mp) (a : Act) (w : World),
      (∀ c l, (c, l) ∈ cs → (c, l) ∈ p.ch) → (∀ c ∈ done, Ls D c) → chOk ops.toList p cs = true → acOk ops.toList.length p done cs aks = true → Inv P T p ops st m a w D cs E F nx w0.heap.size → (∀ c l cs', cs = (c, l) :: cs' → ¬ Ls D c) → Stp m0 F0 nx0 w0 m F nx w →
      (List.range ops.size).countP (fun i => !D.getD i false) ≤ fuel → HD P T p ops.toList st Q cs aks E F nx → wpAny P .any ops (Lf Q m0 F0 nx0 w0) fuel D a w := by
  have fin : ∀ (D : Array Bool) (cs : List (Nat × List Nat)) (aks : List (List Nat)) (E : List (Nat × Value)) (F : Hp) (nx : Nat) (m : Mp) (a : Act) (w : World),
      (∀ c l, (c, l) ∈ cs → (c, l) ∈ p.ch) → Inv P T p ops st m a w D cs E F nx w0.heap.size → (∀ c l cs', cs = (c, l) :: cs' → ¬ Ls D c) → Stp m0 F0 nx0 w0 m F nx w → HD P T p ops.toList st Q cs aks E F nx → Region.ready .any ops D = [] → Lf Q m0 F0 nx0 w0 .normal a w := by
    intro D cs aks E F nx m a w hcs hi hhd hs hd hr
    have hall := all_listed hi.size he hr
    cases cs with
    | cons e cs => exact absurd (hall e.1 (hch e.1 e.2 (hcs e.1 e.2 (by simp)))) (hhd e.1 e.2 cs rfl)
    | nil =>
      cases aks with
      | nil => exact hd.elim
      | cons ac aks =>
        refine ⟨_, _, m, hd.2, ⟨hi.n, ?_, hi.hp, hi.ds⟩, hs, .normal⟩
        intro k v hk
        dsimp only at hk
        rw [look_append] at hk
        cases hl : look k (endFr ops.toList E ops.toList.length) with
        | some u =>
          rw [hl] at hk; cases hk
          obtain ⟨i, o, h1, h2, h3⟩ := endFr_look hl
          rw [Array.getElem?_toList] at h1
          obtain ⟨u, v', g1, g2, g3⟩ := hi.s2 i o k h1 (hall i (Array.getElem?_eq_some_iff.1 h1).1) (fun l hl => by cases hl) h2
          rw [h3] at g1; cases g1
          exact ⟨v', g2, g3⟩
        | none =>
          rw [hl] at hk
          refine hi.s1 k v hk fun x hx hL => ?_
          unfold wrOk2 at hw2
          rw [List.all_eq_true] at hw2
          have hmem : (k, x) ∈ p.wr := by
            have : ∀ (l : List (Nat × Nat)), look k l = some x → (k, x) ∈ l := by
              intro l
              induction l with
              | nil => intro h; cases h
              | cons e l ih =>
                obtain ⟨j, u⟩ := e
                intro h
                rw [look_cons] at h
                split at h
                · rename_i hk; cases h; subst hk; simp
                · simp [ih h]
            exact this _ hx
          have h2 := hw2 (k, x) hmem
          dsimp only at h2
          rw [Array.getElem?_toList] at h2
          cases ho : ops[x]? with
          | none => rw [ho] at h2; simp at h2
          | some o =>
            rw [ho] at h2
            have hd2 : o.dst = some k := by simpa using h2
            obtain ⟨u, v', g1, g2, g3⟩ := hi.s2 x o k ho hL (fun l hl => by cases hl) hd2
            exact endFr_some (by rw [Array.getElem?_toList]; exact ho) hd2 g1 (by simpa using (Array.getElem?_eq_some_iff.1 ho).1) hl
  intro fuel
  induction fuel with
  | zero =>
    intro D done cs aks E F nx m a w hcs hdone hc hac hi hhd hs hcnt hd
    have hr : Region.ready .any ops D = [] := by
      apply Classical.byContradiction
      intro hne
      obtain ⟨x, hx⟩ := List.exists_mem_of_ne_nil _ hne
      obtain ⟨o, ho, hlt, hn, _⟩ := mem_ready hx hi.size
      have : 0 < (List.range ops.size).countP (fun i => !D.getD i false) := List.countP_pos_iff.2 ⟨x, by simpa using hlt, by unfold Ls at hn; simpa using hn⟩
      omega
    exact ⟨hr, fin D cs aks E F nx m a w hcs hi hhd hs hd hr⟩
  | succ fuel ih0 =>
    have ih : ∀ (cs : List (Nat × List Nat)) (D : Array Bool) (done : List Nat) (aks : List (List Nat)) (E : List (Nat × Value)) (F : Hp) (nx : Nat) (m : Mp) (a : Act) (w : World),
      (∀ c l, (c, l) ∈ cs → (c, l) ∈ p.ch) → (∀ c ∈ done, Ls D c) → chOk ops.toList p cs = true → acOk ops.toList.length p done cs aks = true → Inv P T p ops st m a w D cs E F nx w0.heap.size → Stp m0 F0 nx0 w0 m F nx w →
      (List.range ops.size).countP (fun i => !D.getD i false) ≤ fuel → HD P T p ops.toList st Q cs aks E F nx → wpAny P .any ops (Lf Q m0 F0 nx0 w0) fuel D a w := by
      intro cs
      induction cs with
      | nil => intro D done aks E F nx m a w hcs hdone hc hac hi hs hcnt hd; exact ih0 D done [] aks E F nx m a w hcs hdone hc hac hi (fun c l cs' e => by cases e) hs hcnt hd
      | cons e0 cs ihc =>
        obtain ⟨x, lx⟩ := e0
        intro D done aks E F nx m a w hcs hdone hc hac hi hs hcnt hd
        by_cases hLx : Ls D x
        · obtain ⟨hh1, hh2⟩ := chOk_head hc
          cases aks with
          | nil => exact hd.elim
          | cons ac aks =>
          obtain ⟨g, g1, g2⟩ := hi.todo
          obtain ⟨o, e, d, s, y, z, q1, q2, q3, q4, q5, q6, q7, q8, q9⟩ := g1 x lx (by simp) hLx
          have hst := hd.2 o (by simpa using q1)
          simp only [stepD, guardD, q3, stepD.icallD, q2, iop, q5] at hst
          obtain ⟨r, hr, -, E', hle, hd'⟩ := hst
          cases hr
          dsimp only at hd' hle
          obtain ⟨z1, z2⟩ := hT.zero _ _ _ _ q5
          have hx := mput_ext hi.hp ⟨g x, 0, z.cells.toList.length, z.cells.toList.length, s, false⟩
          have hac' : acOk ops.toList.length p (x :: done) cs aks = true := by
            unfold acOk at hac; simp only [Bool.and_eq_true] at hac; exact hac.2
          have fresh : ∀ id, id ≠ nx → mput m nx ⟨g x, 0, z.cells.toList.length, z.cells.toList.length, s, false⟩ id = m id := fun id h => by unfold mput; rw [if_neg h]
          have hnx : mput m nx ⟨g x, 0, z.cells.toList.length, z.cells.toList.length, s, false⟩ nx = some ⟨g x, 0, z.cells.toList.length, z.cells.toList.length, s, false⟩ := by unfold mput; rw [if_pos rfl]
          have hHR : HR (mput m nx ⟨g x, 0, z.cells.toList.length, z.cells.toList.length, s, false⟩) ((nx, ⟨z.cells.toList, e, s, false, false⟩) :: F) (nx + 1) w := by
            refine ⟨fun id blk hb => ?_, fun id hid => ?_, fun i j bi bj pi pj hne e1 e2 p1 p2 hro hb => ?_⟩
            · rw [look_cons] at hb
              by_cases hid : id = nx
              · rw [if_pos hid] at hb
                cases hb
                subst hid
                exact ⟨_, hnx, ⟨rfl, rfl, rfl, Nat.le_refl _, all_one_flat1 z1, z.cells, e, (0, 0), q7, by simp, fun _ => ⟨rfl, rfl⟩, fun i v hv => ⟨v, by rw [Nat.zero_add]; simpa using hv, VR.of_flat1 ((List.all_eq_true.1 z1) v (List.mem_of_getElem? hv))⟩⟩⟩
              · rw [if_neg hid] at hb
                obtain ⟨pl, a1, a2⟩ := hi.hp.has id blk hb
                exact ⟨pl, (fresh id hid).trans a1, a2.mono hx rfl⟩
            · rw [fresh id (by omega)]; exact hi.hp.top id (by omega)
            · rw [look_cons] at e1 e2
              by_cases hi1 : i = nx
              · rw [if_pos hi1] at e1
                subst hi1
                rw [hnx] at p1; cases p1
                rw [if_neg (Ne.symm hne)] at e2
                rw [fresh j (Ne.symm hne)] at p2
                exact q9 j bj pj e2 p2 hb.symm
              · rw [if_neg hi1] at e1
                rw [fresh i hi1] at p1
                by_cases hj1 : j = nx
                · subst hj1
                  rw [hnx] at p2; cases p2
                  exact q9 i bi pi e1 p1 hb
                · rw [if_neg hj1] at e2
                  rw [fresh j hj1] at p2
                  exact hi.hp.inj i j bi bj pi pj hne e1 e2 p1 p2 hro hb
          have hSt : Stp m0 F0 nx0 w0 (mput m nx ⟨g x, 0, z.cells.toList.length, z.cells.toList.length, s, false⟩) ((nx, ⟨z.cells.toList, e, s, false, false⟩) :: F) (nx + 1) w := by
            refine ⟨fun id q hq => hx id q (hs.ext id q hq), Nat.le_succ_of_le hs.nx_le, hs.size, fun id blk q hl2 hq => ?_, hs.keep, hs.env⟩
            rw [look_cons] at hl2
            by_cases hid : id = nx
            · subst hid; rw [hnx] at hq; cases hq; exact .inr (.inr q8)
            · rw [if_neg hid] at hl2
              rw [fresh id hid] at hq
              rcases hs.sub id blk q hl2 hq with ⟨b0, a1, a2, a3⟩ | h
              · exact .inl ⟨b0, a1, a2, a3⟩
              · exact .inr h
          have hInv : Inv P T p ops st (mput m nx ⟨g x, 0, z.cells.toList.length, z.cells.toList.length, s, false⟩) a w D cs E' ((nx, ⟨z.cells.toList, e, s, false, false⟩) :: F) (nx + 1) w0.heap.size := by
            refine ⟨hi.size, ⟨g, fun c l hcm hl => ?_, fun c c' l l' h1 h2 h3 h4 => g2 c c' l l' (by simp [h1]) (by simp [h2]) h3 h4⟩, hi.clo, fun d2 v2 hv2 hno2 => ?_, fun i oi d2 hoi hLi hni hdi => ?_, hHR, hi.n, hi.ds.mono hx⟩
            · obtain ⟨oc, e', d', s', y', z', r1, r2, r3, r4, r5, r6, r7, r8, r9⟩ := g1 c l (by simp [hcm]) hl
              refine ⟨oc, e', d', s', y', z', r1, r2, r3, r4, r5, r6, r7, r8, fun id blk q hl2 hq => ?_⟩
              rw [look_cons] at hl2
              by_cases hid : id = nx
              · subst hid; rw [hnx] at hq; cases hq
                exact g2 x c lx l (by simp) (by simp [hcm]) hLx hl (fun e2 => (hh1 c l hcm).1 e2.symm)
              · rw [if_neg hid] at hl2; rw [fresh id hid] at hq; exact r9 id blk q hl2 hq
            · obtain ⟨v', e1, e2⟩ := hi.s1 d2 v2 hv2 hno2
              exact ⟨v', e1, e2.mono hx⟩
            · by_cases hix : i = x
              · subst hix
                rw [q1] at hoi; cases hoi
                rw [q4] at hdi; cases hdi
                exact ⟨_, _, hle i _ (by rw [look_cons, if_pos rfl]), q6, by have := VR.ptr (m := mput m nx ⟨g i, 0, z.cells.toList.length, z.cells.toList.length, s, false⟩) 0 hnx; simpa using this⟩
              · obtain ⟨u, u', e1, e2, e3⟩ := hi.s2 i oi d2 hoi hLi (fun l hl => by
                  rcases List.mem_cons.1 hl with h | h
                  · exact hix (congrArg Prod.fst h)
                  · exact hni l h) hdi
                exact ⟨u, u', hle i u (by rw [look_cons, if_neg hix]; exact e1), e2, e3.mono hx⟩
          refine ihc D (x :: done) aks E' _ _ _ a w (fun c l h => hcs c l (by simp [h])) (fun c hcd => ?_) hh2 hac' hInv hSt hcnt hd'
          rcases List.mem_cons.1 hcd with rfl | h
          · exact hLx
          · exact hdone c h
        · exact ih0 D done ((x, lx) :: cs) aks E F nx m a w hcs hdone hc hac hi (fun c l cs' e => by cases e; exact hLx) hs hcnt hd
    intro D done cs aks E F nx m a w hcs hdone hc hac hi hhd hs hcnt hd
    refine ⟨fun hr => fin D cs aks E F nx m a w hcs hi hhd hs hd hr, fun x hx => ?_⟩
    obtain ⟨o, ho, hlt, hn, hedge⟩ := mem_ready hx hi.size
    have ha : ∀ j ∈ p.an x, Ls D j := by
      intro j hj
      unfold ancOk at hanc
      rw [List.all_eq_true] at hanc
      have h2 := hanc (o, x) (by rw [List.mem_zipIdx_iff_getElem?]; simpa using ho)
      dsimp only at h2
      rw [List.all_eq_true] at h2
      have h3 := h2 j hj
      rw [List.any_eq_true] at h3
      obtain ⟨e, he1, he2⟩ := h3
      simp only [Bool.and_eq_true, Bool.or_eq_true, beq_iff_eq] at he2
      have h4 := hedge e he1 he2.1
      rcases he2.2 with h5 | h5
      · exact h5 ▸ h4
      · exact hi.clo _ h4 j (by simpa using h5)
    have hnc : ∀ j ∈ p.an x, ∀ l, (j, l) ∉ cs := by
      intro j hj l hl
      cases cs with
      | nil => cases hl
      | cons e cs =>
        obtain ⟨c, lc⟩ := e
        have hcn := hhd c lc cs rfl
        rcases List.mem_cons.1 hl with h | h
        · cases h; exact hcn (ha j hj)
        · rcases ((chOk_head hc).1 j l h).2 with h2 | h2
          · exact hcn (hi.clo j (ha j hj) c h2)
          · exact hcn (ha c (lateB_an h2 (by simpa using hlt) hj))
    have hcnt' : (List.range ops.size).countP (fun i => !(D.setIfInBounds x true).getD i false) ≤ fuel := by
      have : (List.range ops.size).countP (fun i => !(D.setIfInBounds x true).getD i false) < (List.range ops.size).countP (fun i => !D.getD i false) := by
        refine countP_lt (fun i _ hi2 => ?_) ⟨x, by simpa using hlt, ?_, ?_⟩
        · simp only [Array.getD_eq_getD_getElem?, Array.getElem?_setIfInBounds] at hi2 ⊢
          by_cases hxi : x = i
          · subst hxi; simp [show x < D.size by rw [hi.size]; exact hlt] at hi2
          · simpa [hxi] using hi2
        · unfold Ls at hn; simpa using hn
        · simp [Array.getD_eq_getD_getElem?, Array.getElem?_setIfInBounds, show x < D.size by rw [hi.size]; exact hlt]
      omega
    have hdx : ∀ d, o.dst = some d → d < st.n := fun d => hdst x o d ho
    unfold wpOp
    rw [ho]
    dsimp only
    by_cases hxc : ∃ l, (x, l) ∈ cs
    ·
      obtain ⟨l, hl⟩ := hxc
      obtain ⟨c, lc, cs', rfl⟩ : ∃ c lc cs', cs = (c, lc) :: cs' := by
        cases cs with
        | nil => cases hl
        | cons e cs' => exact ⟨e.1, e.2, cs', rfl⟩
      obtain ⟨hh1, hh2⟩ := chOk_head hc
      by_cases hcx : c = x
      case neg =>
        have hmem : (x, l) ∈ cs' := by
          rcases List.mem_cons.1 hl with h1 | h1
          · cases h1; exact absurd rfl hcx
          · exact h1
        have hcn := hhd c lc cs' rfl
        rcases (hh1 x l hmem).2 with h2 | h2
        · exact absurd (ha c h2) hcn
        · obtain ⟨e, k, hop, hgn, hdk⟩ := lateB_op h2 (by simpa using ho)
          cases aks with
          | nil => exact hd.elim
          | cons ac aks =>
          obtain ⟨s, y, z, hinf⟩ := infOk_some hinfo (by simpa using ho) hop
          obtain ⟨i, hi1, hi2, hi3, hi4⟩ := hT.inf _ _ _ _ hinf
          have hgw : Region.wanted o (yielded ops a.tmps) = true := by unfold Region.wanted; rw [hgn]
          rw [hgw]
          simp only [if_true]
          refine .inl ?_
          have hrun : (execOp a.eval o).run P w = .ok (.value (.pointer (some ⟨w.heap.size, 0, none⟩))) (w.alloc (.cells z.cells e)) := by
            unfold execOp
            rw [hop]
            simp [Instr.alloc, hT.zero_value hinf, newVar, newRow]
          unfold Oper.wp
          rw [hrun, Oper.upon_value]
          obtain ⟨hA, hS⟩ := hi.hp.alloc (.cells z.cells e)
          have hi' := hi.late hwr ho hn ha hmem hop hgn hdk hinf (hdst x o k ho hdk) hs.size
          refine ih _ _ done (ac :: aks) E F nx m _ _ hcs ?_ hc hac hi' (hs.trans hS) hcnt' hd
          intro d hd2
          have hx2 : x < D.size := by rw [hi.size]; exact hlt
          unfold Ls
          simp only [Array.getD_eq_getD_getElem?, Array.getElem?_setIfInBounds]
          by_cases hdc : x = d
          · subst hdc; simp [hx2]
          · rw [if_neg hdc]
            have := hdone d hd2
            unfold Ls at this
            simpa using this
      subst hcx
      cases aks with
      | nil => exact hd.elim
      | cons ac aks =>
        obtain ⟨_, hstep⟩ := hd
        have hst := hstep o (by simpa using ho)
        have hac' : acOk ops.toList.length p (c :: done) cs' aks = true := by
          unfold acOk at hac; simp only [Bool.and_eq_true] at hac; exact hac.2
        have next : ∀ (v v' : Value) (m' : Mp) (F' : Hp) (nx' : Nat) (w' : World), Stp m F nx w m' F' nx' w' → HR m' F' nx' w' → VR m' v v' → (∃ E', (∀ i u, look i ((c, v) :: E) = some u → look i E' = some u) ∧ HD P T p ops.toList st Q cs' aks E' F' nx') →
            wpAny P .any ops (Lf Q m0 F0 nx0 w0) fuel (D.setIfInBounds c true) (a.put o.dst v') w' := by
          rintro v v' m' F' nx' w' hs' hp' hv' ⟨E', hle, hd'⟩
          have hl2 := hle
          have hi' := hi.put hwr ho hn ha (cs' := cs') hs' hp' (fun i u hL hu => hl2 i u (by rw [look_cons, if_neg (fun (e : i = c) => hn (e ▸ hL))]; exact hu)) (hl2 c v (by rw [look_cons, if_pos rfl])) hv' hdx
            (fun d l2 hm => ⟨by simp [hm], (hh1 d l2 hm).1⟩) (fun d l2 hm => by
              rcases List.mem_cons.1 hm with h | h
              · exact .inl (congrArg Prod.fst h)
              · exact .inr ⟨l2, h⟩)
          refine ih cs' _ (c :: done) aks E' F' nx' m' _ w' (fun d l2 hm => hcs d l2 (by simp [hm])) ?_ hh2 hac' hi' (hs.trans hs') hcnt' hd'
          intro d hd2
          have hx2 : c < D.size := by rw [hi.size]; exact hlt
          unfold Ls
          simp only [Array.getD_eq_getD_getElem?, Array.getElem?_setIfInBounds]
          by_cases hdc : c = d
          · subst hdc; simp [hx2]
          · rw [if_neg hdc]
            have := hdone d (by simpa [Ne.symm hdc] using hd2)
            unfold Ls at this
            simpa using this
        unfold stepD at hst
        split at hst
        · rename_i hgd
          rw [hi.guard hg ho ha hnc hgd]
          simp only [Bool.false_eq_true, if_false]
          exact next undef undef m F nx w (Stp.refl _ _ _ _) hi.hp (by unfold undef; exact .tuple .nil) hst
        · rename_i hgd
          rw [hi.guard hg ho ha hnc hgd]
          simp only [if_true]
          refine .inl ?_
          split at hst
          · rename_i f args hcall
            obtain ⟨hrun⟩ := hst
            obtain ⟨args', e1, e2⟩ := icallD_run (P := P) (w := w) (fun y _ v hy => hi.opnd hw2 hn ha hnc y v hy) hcall
            unfold Oper.wp
            refine (hrun m w args' hi.hp e2).upon e1 ?_
            rintro e w' ⟨ou, F', nx', m', hk, hh, hs', hou⟩
            cases hou with
            | ret hv2 => exact next _ _ m' F' nx' w' hs' hh hv2 hk
            | pan hv2 => exact ⟨_, _, m', hk, ⟨hi.n, fun k v h => (by obtain ⟨k1, k2⟩ := look_keep h; obtain ⟨v', g1, g2⟩ := hi.s1 k v k1 (fun x hx => by rw [k2] at hx; cases hx); exact ⟨v', g1, g2.mono hs'.ext⟩), hh, hi.ds.mono hs'.ext⟩, hs.trans hs', .pan hv2⟩
          · obtain ⟨r, hr, hvc, hk⟩ := hst
            obtain ⟨m', w', y, a1, a2, a3, a4⟩ := iop_run hT (fun y v hy => hi.opnd hw2 hn ha hnc y v hy) hi.hp hr hvc
            unfold Oper.wp
            rw [a1]
            rcases a4 with ⟨v', rfl, hv2⟩ | ⟨rfl, hu⟩
            · rw [Oper.upon_value]
              exact next _ _ m' _ _ w' a3 a2 hv2 hk
            · rw [Oper.upon_skip]
              exact next _ _ m' _ _ w' a3 a2 (by rw [hu]; unfold undef; exact .tuple .nil) hk
        · exact hst.elim
    ·
      have hpos : ∃ ac aks', aks = ac :: aks' := by
        cases aks with
        | nil => cases cs with
          | nil => exact hd.elim
          | cons e cs => exact hd.elim
        | cons ac aks' => exact ⟨ac, aks', rfl⟩
      obtain ⟨ac, aks', rfl⟩ := hpos
      have hmem : x ∈ ac := by
        unfold acOk at hac
        simp only [Bool.and_eq_true, List.all_eq_true] at hac
        have h2 := hac.1 x (by simpa using hlt)
        simp only [Bool.or_eq_true, List.any_eq_true, List.contains_eq_mem, decide_eq_true_eq, beq_iff_eq] at h2
        rcases h2 with ((h2 | ⟨⟨c, l⟩, h2, h3⟩) | ⟨c, h2, h3⟩) | h2
        · exact absurd (hdone x h2) hn
        · rcases h3 with rfl | h3
          · exact absurd ⟨l, h2⟩ hxc
          · exact absurd (ha c h3) (by
            cases cs with
            | nil => cases h2
            | cons e cs =>
              obtain ⟨c0, l0⟩ := e
              intro hLc
              exact hnc c h3 l h2)
        · exact absurd (hi.clo c (hdone c h2) x h3) hn
        · exact h2
      have hob : Obl T p st.fr E F nx x o := by
        cases cs with
        | nil => exact hd.1 x hmem o (by simpa using ho)
        | cons e cs => exact hd.1 x hmem o (by simpa using ho)
      have next : ∀ (v v' : Value) (m' : Mp) (w' : World), Stp m F nx w m' F nx w' → HR m' F nx w' → VR m' v v' → look x E = some v → wpAny P .any ops (Lf Q m0 F0 nx0 w0) fuel (D.setIfInBounds x true) (a.put o.dst v') w' := by
        intro v v' m' w' hs' hp' hv' hEx
        have hi' := hi.put hwr ho hn ha (cs' := cs) hs' hp' (fun i u _ hu => hu) hEx hv' hdx (fun d l2 hm => ⟨hm, fun e => hxc ⟨l2, e ▸ hm⟩⟩) (fun d l2 hm => .inr ⟨l2, hm⟩)
        refine ih cs _ done (ac :: aks') E F nx m' _ w' hcs ?_ hc hac hi' (hs.trans hs') hcnt' hd
        intro d hd2
        have hx2 : x < D.size := by rw [hi.size]; exact hlt
        unfold Ls
        simp only [Array.getD_eq_getD_getElem?, Array.getElem?_setIfInBounds]
        by_cases hdc : x = d
        · subst hdc; simp [hx2]
        · rw [if_neg hdc]
          have := hdone d hd2
          unfold Ls at this
          simpa using this
      unfold Obl at hob
      split at hob
      · rename_i hgd
        rw [hi.guard hg ho ha hnc hgd]
        simp only [Bool.false_eq_true, if_false]
        exact next undef undef m w (Stp.refl _ _ _ _) hi.hp (by unfold undef; exact .tuple .nil) hob
      · rename_i hgd
        rw [hi.guard hg ho ha hnc hgd]
        simp only [if_true]
        refine .inl ?_
        obtain ⟨v, vc, hr, hvc, hEx, _⟩ := hob
        obtain ⟨m', w', y, a1, a2, a3, a4⟩ := iop_run hT (fun y v hy => hi.opnd hw2 hn ha hnc y v hy) hi.hp hr hvc
        unfold Oper.wp
        rw [a1]
        rcases a4 with ⟨v', rfl, hv2⟩ | ⟨rfl, hu⟩
        · rw [Oper.upon_value]
          exact next _ _ m' w' a3 a2 hv2 hEx
        · rw [Oper.upon_skip]
          exact next _ _ m' w' a3 a2 (by rw [show v = undef from hu]; unfold undef; exact .tuple .nil) hEx
      · exact hob.elim
theorem iargs_mono {ρ ρ' : Operand → Option Value} (h : ∀ y v, ρ y = some v → ρ' y = some v) : ∀ {l : List Operand} {vs : List Value}, iargs ρ l = some vs → iargs ρ' l = some vs
  | [], vs, e => e
  | y :: l, vs, e => by
    unfold iargs at e ⊢
    split at e
    · rename_i v vs2 h1 h2; rw [h _ _ h1, iargs_mono h h2]; exact e
    · cases e
theorem iparts_mono {ρ ρ' : Operand → Option Value} (h : ∀ y v, ρ y = some v → ρ' y = some v) : ∀ {l : List (Nat × Operand)} {vs : List (Nat × Value)}, iparts ρ l = some vs → iparts ρ' l = some vs
  | [], vs, e => e
  | (i, y) :: l, vs, e => by
    unfold iparts at e ⊢
    split at e
    · rename_i v vs2 h1 h2; rw [h _ _ h1, iparts_mono h h2]; exact e
    · cases e
theorem iov_mono {ρ ρ' : Operand → Option Value} (h : ∀ y v, ρ y = some v → ρ' y = some v) {x : Option Operand} {r : Option Value} (e : iov ρ x = some r) : iov ρ' x = some r := by
  cases x with
  | none => exact e
  | some x =>
    unfold iov at e ⊢
    dsimp only at e ⊢
    split at e
    · rename_i v hv; rw [h _ _ hv]; exact e
    · cases e
theorem iop_mono {T : Tb} {ρ ρ' : Operand → Option Value} (h : ∀ y v, ρ y = some v → ρ' y = some v) {F : Hp} {nx : Nat} {op : Op} {r : Res} (e : iop T ρ F nx op = some r) : iop T ρ' F nx op = some r := by
  have one : ∀ {o o' : Option Value}, one1 F nx o = some r → (∀ v, o = some v → o' = some v) → one1 F nx o' = some r := by
    intro o o' e h
    unfold one1 at e
    split at e
    · rename_i v; rw [h v rfl]; exact e
    · cases e
  cases op <;> simp only [iop] at e ⊢ <;> first
    | exact e
    | exact one e (h _)
    | (split at e <;> first | (cases e; done) | (rename_i h1; rw [h _ _ h1]; exact e) | (rename_i h1 h2; rw [h _ _ h1]; exact e) | (rename_i h1 h2; rw [h _ _ h1, h _ _ h2]; exact e) | (rename_i h1; rw [iparts_mono h h1]; exact e) | (rename_i h1 h2; rw [iargs_mono h h1, iargs_mono h h2]; exact e) | (rename_i h1 h2 h3 h4; rw [h _ _ h1, iov_mono h h2, iov_mono h h3, iov_mono h h4]; exact e) | skip)
  all_goals first
    | (rename_i t ht
       rw [h _ _ ht]
       dsimp only at e ⊢
       refine one e fun v hv => ?_
       split at hv
       · rename_i hc; rw [if_pos hc]; exact h _ _ hv
       · rename_i hc; rw [if_neg hc]; exact h _ _ hv)
    | (rename_i h1 h2; rw [h _ _ h1, h2]; exact e)
    | (split at e
       · rename_i vs hvs; rw [iargs_mono h hvs]; exact e
       · cases e)
def dstOk (n : Nat) (ops : List Oper) : Bool := ops.all fun o => match o.dst with
  | some d => decide (d < n)
  | none => true
theorem J_draw (hT : TbOk P T) {Q : IExit → St → Prop} {id : Nat} (hm : P.follows .mixedOrders = true) (p : Plan) (hp : planOk ops.toList p = true) (hn : dstOk st.n ops.toList = true) (hinfo : infOk T ops.toList = true) (E : List (Nat × Value)) (h : HD P T p ops.toList st Q p.ch p.ac E st.F st.nx) :
    J P (.region id ops true) st Q := by
  intro m0 F0 nx0 w0 m a w hs hsr
  unfold planOk at hp
  simp only [Bool.and_eq_true] at hp
  obtain ⟨⟨⟨⟨⟨⟨⟨⟨p1, p2⟩, p3⟩, p4⟩, p5⟩, p6⟩, p7⟩, p9⟩, p8⟩ := hp
  have hno : ∀ i, ¬ Ls (Array.replicate ops.size false) i := by
    intro i
    unfold Ls
    simp only [Array.getD_eq_getD_getElem?, Array.getElem?_replicate]
    split <;> simp
  refine wp_region_any hm (sim hT p1 p2 p3 p4 p5 ?_ ?_ hinfo ops.size _ [] p.ch p.ac E st.F st.nx m a _ (fun c l h => h) (fun c h => by cases h) p6 p7 ?_ (fun c l cs' _ => hno c) (hs.trans (Stp.heap rfl)) ?_ h)
  · intro i o d ho hd
    unfold dstOk at hn
    rw [List.all_eq_true] at hn
    have := hn o (by rw [Array.mem_toList_iff]; exact Array.mem_of_getElem? ho)
    rw [hd] at this
    simpa using this
  · intro c l hc
    rw [List.all_eq_true] at p8
    simpa using p8 (c, l) hc
  · exact ⟨by simp, ⟨fun _ => 0, fun c l _ h => absurd h (hno c), fun c _ _ _ _ _ h => absurd h (hno c)⟩, fun i hi => absurd hi (hno i), fun d v hv _ => hsr.fr d v hv, fun i o d _ hi _ => absurd hi (hno i), hsr.hp.heap rfl, hsr.n, hsr.ds⟩
  · exact Nat.le_trans List.countP_le_length (by simp)
end
end Go.Proofs.Ytoihmanhldcjhaa.Id
namespace Go.Proofs.Ytoihmanhldcjhaa.Id
open Go
set_option linter.unusedVariables false
set_option linter.unusedSimpArgs false
def evs (T : Tb) (p : Plan) (fr : List (Nat × Value)) (ops : List Oper) (F : Hp) (nx : Nat) : List Nat → List (Nat × Value) → Option (List (Nat × Value) × Prop)
  | [], E => some (E, True)
  | x :: xs, E => match look x E, ops[x]? with
    | none, some o => match guardD E o.guard with
      | some false => evs T p fr ops F nx xs ((x, undef) :: E)
      | some true => match iop T (opD p fr E x) F nx o.op with
        | some r => if isMaker o.op = true then none else match evs T p fr ops F nx xs ((x, r.v) :: E) with
          | some (E', vc) => some (E', (r.vc ∧ r.F = F ∧ r.nx = nx) ∧ vc)
          | none => none
        | none => none
      | none => none
    | _, _ => none
def rck (T : Tb) (p : Plan) (fr : List (Nat × Value)) (ops : List Oper) (F : Hp) (nx : Nat) (E : List (Nat × Value)) : List Nat → Option Prop
  | [] => some True
  | x :: xs => match ops[x]? with
    | some o => match guardD E o.guard with
      | some false => match rck T p fr ops F nx E xs with
        | some q => some (look x E = some undef ∧ q)
        | none => none
      | some true => match iop T (opD p fr E x) F nx o.op with
        | some r => if isMaker o.op = true then none else match rck T p fr ops F nx E xs with
          | some q => some ((r.vc ∧ r.F = F ∧ r.nx = nx ∧ look x E = some r.v) ∧ q)
          | none => none
        | none => none
      | none => none
    | none => none
inductive DR where
  | done (st : St)
  | call (f : FuncId) (args : List Value) (c : Nat) (cs : List (Nat × List Nat)) (nws fls aks : List (List Nat)) (E : List (Nat × Value)) (st : St)
def drun (T : Tb) (p : Plan) (ops : List Oper) : List (List Nat) → List (List Nat) → List (List Nat) → List (Nat × List Nat) → List (Nat × Value) → St → Option (DR × Prop)
  | nw :: nws, fl :: fls, a :: aks, cs, E, st => match evs T p st.fr ops st.F st.nx nw E with
    | some (E', v1) => match rck T p st.fr ops st.F st.nx E' fl with
      | some v2 => match cs with
        | [] => some (.done { st with fr := endFr ops E' ops.length ++ st.fr }, v1 ∧ v2)
        | (c, _) :: cs' => match ops[c]? with
          | some o => match guardD E' o.guard with
            | some false => match drun T p ops nws fls aks cs' ((c, undef) :: E') st with
              | some (d, v3) => some (d, v1 ∧ v2 ∧ v3)
              | none => none
            | some true => match stepD.icallD (opD p st.fr E' c) o.op with
              | some (f, args) => some (.call f args c cs' nws fls aks E' st, v1 ∧ v2)
              | none => match iop T (opD p st.fr E' c) st.F st.nx o.op with
                | some r => match drun T p ops nws fls aks cs' ((c, r.v) :: E') { st with F := r.F, nx := r.nx } with
                  | some (d, v3) => some (d, v1 ∧ v2 ∧ r.vc ∧ v3)
                  | none => none
                | none => none
            | none => none
          | none => none
      | none => none
    | none => none
  | _, _, _, _, _, _ => none
def DS (P : Program) (T : Tb) (p : Plan) (ops : List Oper) (Q : IExit → St → Prop) (cs : List (Nat × List Nat)) (aks : List (List Nat)) (E : List (Nat × Value)) (st : St) : Prop :=
  ∃ E', (∀ i u, look i E = some u → look i E' = some u) ∧ HD P T p ops st Q cs aks E' st.F st.nx
def DRJ (P : Program) (T : Tb) (p : Plan) (ops : List Oper) (Q : IExit → St → Prop) : DR → Prop
  | .done st => Q .normal st
  | .call f args c cs nws fls aks E st => CallW P f args st.F st.nx fun ou F' nx' => match ou with
    | .ret v => DS P T p ops Q cs aks ((c, v) :: E) { st with F := F', nx := nx' }
    | .pan v => Q (.pan v) { st with fr := keepFr p.wr st.fr, F := F', nx := nx' }
section
variable {P : Program} {T : Tb} {p : Plan} {ops : List Oper} {Q : IExit → St → Prop}
theorem opD_mono {fr E E' : List (Nat × Value)} {x : Nat} (h : ∀ i u, look i E = some u → look i E' = some u) (y : Operand) (v : Value) (e : opD p fr E x y = some v) : opD p fr E' x y = some v := by
  cases y with
  | tmp d =>
    simp only [opD] at e ⊢
    split at e
    · rename_i w hw
      split at e
      · rename_i hc; rw [if_pos hc]; exact h _ _ e
      · rename_i hc; rw [if_neg hc]; exact e
    · exact e
  | const u => exact e
  | func f => exact e
  | global g => exact e
theorem guardD_mono {E E' : List (Nat × Value)} (h : ∀ i u, look i E = some u → look i E' = some u) {g : Option (Nat × Bool)} {b : Bool} (e : guardD E g = some b) : guardD E' g = some b := by
  unfold guardD at e ⊢
  split at e
  · exact e
  · split at e
    · rename_i hb; rw [h _ _ hb]; exact e
    · rename_i v hn hv
      rw [h _ _ hv]
      cases e
      cases v <;> first | rfl | exact (hn _ rfl).elim
    · cases e
theorem Obl_mono {fr E E' : List (Nat × Value)} {F : Hp} {nx x : Nat} {o : Oper} (h : ∀ i u, look i E = some u → look i E' = some u) (e : Obl T p fr E F nx x o) : Obl T p fr E' F nx x o := by
  unfold Obl at e ⊢
  split at e
  · rename_i hg; rw [guardD_mono h hg]; exact h _ _ e
  · rename_i hg
    rw [guardD_mono h hg]
    obtain ⟨v, vc, h1, h2, h3, h4⟩ := e
    exact ⟨v, vc, iop_mono (fun y v e => opD_mono h y v e) h1, h2, h _ _ h3, h4⟩
  · exact e.elim
theorem evs_run {fr : List (Nat × Value)} {F : Hp} {nx : Nat} : ∀ {xs : List Nat} {E E' : List (Nat × Value)} {vc : Prop}, evs T p fr ops F nx xs E = some (E', vc) → vc →
    (∀ i u, look i E = some u → look i E' = some u) ∧ ∀ x ∈ xs, ∀ o, ops[x]? = some o → Obl T p fr E' F nx x o
  | [], E, E', vc, h, hv => by cases h; exact ⟨fun _ _ h => h, fun x hx => by cases hx⟩
  | x :: xs, E, E', vc, h, hv => by
    unfold evs at h
    split at h
    · rename_i o hx ho
      have step : ∀ (v : Value), (∀ i u, look i E = some u → look i ((x, v) :: E) = some u) := by
        intro v i u hu
        rw [look_cons]
        split
        · rename_i hi; subst hi; rw [hx] at hu; cases hu
        · exact hu
      split at h
      · rename_i hg
        obtain ⟨h1, h2⟩ := evs_run h hv
        refine ⟨fun i u hu => h1 i u (step undef i u hu), fun y hy o2 ho2 => ?_⟩
        rcases List.mem_cons.1 hy with rfl | hy
        · rw [ho] at ho2; cases ho2
          refine Obl_mono h1 (Obl_mono (E := (y, undef) :: E) (fun _ _ h => h) ?_)
          unfold Obl
          rw [guardD_mono (step undef) hg, look_cons, if_pos rfl]
        · exact h2 y hy o2 ho2
      · rename_i hg
        split at h
        · rename_i r hr
          split at h
          · cases h
          · rename_i hmk
            split at h
            · rename_i E2 vc2 he
              cases h
              obtain ⟨h1, h2⟩ := evs_run he hv.2
              refine ⟨fun i u hu => h1 i u (step r.v i u hu), fun y hy o2 ho2 => ?_⟩
              rcases List.mem_cons.1 hy with rfl | hy
              · rw [ho] at ho2; cases ho2
                refine Obl_mono h1 ?_
                unfold Obl
                rw [guardD_mono (step r.v) hg]
                obtain ⟨v, F2, nx2, vc3⟩ := r
                obtain ⟨⟨w1, w2, w3⟩, _⟩ := hv
                dsimp only at w1 w2 w3
                subst w2 w3
                exact ⟨v, vc3, iop_mono (fun y v e => opD_mono (step _) y v e) hr, w1, by rw [look_cons, if_pos rfl], by simpa using hmk⟩
              · exact h2 y hy o2 ho2
            · cases h
        · cases h
      · cases h
    · cases h
theorem rck_run {fr E : List (Nat × Value)} {F : Hp} {nx : Nat} : ∀ {xs : List Nat} {q : Prop}, rck T p fr ops F nx E xs = some q → q → ∀ x ∈ xs, ∀ o, ops[x]? = some o → Obl T p fr E F nx x o
  | [], q, h, hq => fun x hx => by cases hx
  | x :: xs, q, h, hq => by
    unfold rck at h
    split at h
    · rename_i o ho
      split at h
      · rename_i hg
        split at h
        · rename_i q2 hq2
          cases h
          intro y hy o2 ho2
          rcases List.mem_cons.1 hy with rfl | hy
          · rw [ho] at ho2; cases ho2; unfold Obl; rw [hg]; exact hq.1
          · exact rck_run hq2 hq.2 y hy o2 ho2
        · cases h
      · rename_i hg
        split at h
        · rename_i r hr
          split at h
          · cases h
          · rename_i hmk
            split at h
            · rename_i q2 hq2
              cases h
              intro y hy o2 ho2
              rcases List.mem_cons.1 hy with rfl | hy
              · rw [ho] at ho2; cases ho2
                unfold Obl; rw [hg]
                obtain ⟨v, F2, nx2, vc3⟩ := r
                obtain ⟨⟨w1, w2, w3, w4⟩, _⟩ := hq
                dsimp only at w1 w2 w3 w4
                subst w2 w3
                exact ⟨v, vc3, hr, w1, w4, by simpa using hmk⟩
              · exact rck_run hq2 hq.2 y hy o2 ho2
            · cases h
        · cases h
      · cases h
    · cases h
theorem drun_fl : ∀ {nws fls aks : List (List Nat)} {cs : List (Nat × List Nat)} {E : List (Nat × Value)} {st : St} {f : FuncId} {args : List Value} {c : Nat} {cs' : List (Nat × List Nat)} {nws' fls' aks' : List (List Nat)} {E' : List (Nat × Value)} {st' : St} {vc : Prop},
    drun T p ops nws fls aks cs E st = some (.call f args c cs' nws' fls' aks' E' st', vc) → flOk nws fls aks = true → flOk nws' fls' aks' = true
  | nw :: nws, fl :: fls, a :: aks, cs, E, st, f, args, c, cs', nws', fls', aks', E', st', vc, h, hf => by
    unfold drun at h
    unfold flOk at hf
    simp only [Bool.and_eq_true] at hf
    split at h
    · split at h
      · split at h
        · cases h
        · split at h
          · split at h
            · split at h
              · rename_i h3; cases h; exact drun_fl h3 hf.2
              · cases h
            · split at h
              · cases h; exact hf.2
              · split at h
                · split at h
                  · rename_i h3; cases h; exact drun_fl h3 hf.2
                  · cases h
                · cases h
            · cases h
          · cases h
      · cases h
    · cases h
  | [], _, _, _, _, _, _, _, _, _, _, _, _, _, _, _, h, _ => by cases h
  | _ :: _, [], _, _, _, _, _, _, _, _, _, _, _, _, _, _, h, _ => by cases h
  | _ :: _, _ :: _, [], _, _, _, _, _, _, _, _, _, _, _, _, _, h, _ => by cases h
theorem HD_st {st : St} {F0 : Hp} {nx0 : Nat} : ∀ {aks : List (List Nat)} {cs : List (Nat × List Nat)} {E : List (Nat × Value)} {F : Hp} {nx : Nat}, HD P T p ops { st with F := F0, nx := nx0 } Q cs aks E F nx → HD P T p ops st Q cs aks E F nx
  | [], [], E, F, nx, h => h
  | [], _ :: _, E, F, nx, h => h
  | a :: aks, [], E, F, nx, h => h
  | a :: aks, (c, lc) :: cs, E, F, nx, h => by
    refine ⟨h.1, fun o ho => ?_⟩
    have h2 := h.2 o ho
    unfold stepD at h2 ⊢
    split at h2
    · obtain ⟨E', e1, e2⟩ := h2; exact ⟨E', e1, HD_st e2⟩
    · rename_i hg
      try rw [hg]
      try dsimp only at h2 ⊢
      split at h2
      · rename_i f args hc
        try rw [hc]
        refine CallW.mono h2 fun ou F' nx' k => ?_
        cases ou with
        | ret v => obtain ⟨E', e1, e2⟩ := k; exact ⟨E', e1, HD_st e2⟩
        | pan v => exact k
      · rename_i hc
        try rw [hc]
        obtain ⟨r, h1, h3, E', e1, e2⟩ := h2
        exact ⟨r, h1, h3, E', e1, HD_st e2⟩
    · exact h2.elim
theorem drun_run : ∀ {nws fls aks : List (List Nat)} {cs : List (Nat × List Nat)} {E : List (Nat × Value)} {st : St} {d : DR} {vc : Prop}, drun T p ops nws fls aks cs E st = some (d, vc) → vc → flOk nws fls aks = true → DRJ P T p ops Q d → DS P T p ops Q cs aks E st
  | nw :: nws, fl :: fls, a :: aks, cs, E, st, d, vc, h, hv, hf, hd => by
    unfold drun at h
    unfold flOk at hf
    simp only [Bool.and_eq_true, List.all_eq_true, Bool.or_eq_true, List.contains_eq_mem, decide_eq_true_eq] at hf
    split at h
    · rename_i E' v1 h1
      split at h
      · rename_i v2 h2
        have obl : v1 → v2 → ∀ x ∈ a, ∀ o, ops[x]? = some o → Obl T p st.fr E' st.F st.nx x o := fun q1 q2 x hx o ho => by
          rcases hf.1 x hx with hm | hm
          · exact (evs_run h1 q1).2 x hm o ho
          · exact rck_run h2 q2 x hm o ho
        split at h
        · cases h
          exact ⟨E', (evs_run h1 hv.1).1, obl hv.1 hv.2, hd⟩
        · rename_i c lc cs'
          split at h
          · rename_i o ho
            split at h
            · rename_i hg
              split at h
              · rename_i d2 v3 h3
                cases h
                refine ⟨E', (evs_run h1 hv.1).1, obl hv.1 hv.2.1, fun o2 ho2 => ?_⟩
                rw [ho] at ho2; cases ho2
                unfold stepD; rw [hg]
                exact drun_run h3 hv.2.2 hf.2 hd
              · cases h
            · rename_i hg
              split at h
              · rename_i f args hc
                cases h
                refine ⟨E', (evs_run h1 hv.1).1, obl hv.1 hv.2, fun o2 ho2 => ?_⟩
                rw [ho] at ho2; cases ho2
                unfold stepD; rw [hg]; dsimp only; rw [hc]; dsimp only
                refine CallW.mono hd fun ou F' nx' k => ?_
                cases ou with
                | ret v => obtain ⟨E2, e1, e2⟩ := k; exact ⟨E2, e1, HD_st e2⟩
                | pan v => exact k
              · rename_i hc
                split at h
                · rename_i r hr
                  split at h
                  · rename_i d2 v3 h3
                    cases h
                    refine ⟨E', (evs_run h1 hv.1).1, obl hv.1 hv.2.1, fun o2 ho2 => ?_⟩
                    rw [ho] at ho2; cases ho2
                    unfold stepD; rw [hg]; dsimp only; rw [hc]; dsimp only
                    obtain ⟨E2, e1, e2⟩ := drun_run h3 hv.2.2.2 hf.2 hd
                    exact ⟨r, hr, hv.2.2.1, E2, e1, HD_st e2⟩
                  · cases h
                · cases h
            · cases h
          · cases h
      · cases h
    · cases h
  | [], _, _, _, _, _, _, _, h, _, _, _ => by cases h
  | _ :: _, [], _, _, _, _, _, _, h, _, _, _ => by cases h
  | _ :: _, _ :: _, [], _, _, _, _, _, h, _, _, _ => by cases h
end
end Go.Proofs.Ytoihmanhldcjhaa.Id
namespace Go.Proofs.Ytoihmanhldcjhaa.Id
open Go
set_option linter.unusedVariables false
set_option linter.unusedSimpArgs false
inductive Kt where
  | c (code : Code)
  | b (id : Nat)
  | r (ops : Array Oper) (os : List Oper)
  | d (T : Tb) (p : Plan) (ops : List Oper) (cs : List (Nat × List Nat)) (nws fls aks : List (List Nat)) (E : List (Nat × Value))
def popB (id : Nat) : List Kt → Option (List Kt)
  | [] => none
  | .b j :: k => if j = id then some k else popB id k
  | .c _ :: k => popB id k
  | .r _ _ :: k => popB id k
  | .d .. :: k => popB id k
def onward (P : Program) (next : St → Prop) (out : Nat → St → Prop) (Q : IExit → St → Prop) : IExit → St → Prop
  | .normal, st => next st
  | .exit id, st => out id st
  | e, st => Q e st
mutual
def JS (P : Program) : List Kt → (IExit → St → Prop) → St → Prop
  | [], Q, st => Q .normal st
  | .c x :: k, Q, st => J P x st (onward P (JS P k Q) (JX P k Q) Q)
  | .b id :: k, Q, st => JS P k Q st
  | .r ops os :: k, Q, st => JL P ops os st (onward P (JS P k Q) (JX P k Q) Q)
  | .d T p ops cs nws fls aks E :: k, Q, st => flOk nws fls aks = true → DS P T p ops (onward P (JS P k Q) (JX P k Q) Q) cs aks E st
def JX (P : Program) : List Kt → (IExit → St → Prop) → Nat → St → Prop
  | [], Q, id, st => Q (.exit id) st
  | .b j :: k, Q, id, st => if j = id then JS P k Q st else JX P k Q id st
  | .c _ :: k, Q, id, st => JX P k Q id st
  | .r _ _ :: k, Q, id, st => JX P k Q id st
  | .d .. :: k, Q, id, st => JX P k Q id st
end
theorem JX_pop {P : Program} {Q : IExit → St → Prop} {id : Nat} {st : St} : ∀ {k : List Kt}, (match popB id k with
    | some k' => JS P k' Q st
    | none => Q (.exit id) st) → JX P k Q id st
  | [], h => by rw [JX]; exact h
  | .b j :: k, h => by
    rw [JX]
    rw [popB] at h
    split
    · rename_i hj; rw [if_pos hj] at h; exact h
    · rename_i hj; rw [if_neg hj] at h; exact JX_pop h
  | .c _ :: k, h => by rw [JX]; exact JX_pop (by rw [popB] at h; exact h)
  | .r _ _ :: k, h => by rw [JX]; exact JX_pop (by rw [popB] at h; exact h)
  | .d .. :: k, h => by rw [JX]; exact JX_pop (by rw [popB] at h; exact h)
inductive CR where
  | done (st : St)
  | exit (id : Nat) (st : St)
  | ret (st : St)
  | pan (v : Value) (st : St)
  | cond (t : Bool) (ka kb : List Kt) (st : St)
  | loop (c : Code) (k : List Kt) (st : St)
  | call (f : FuncId) (args : List Value) (dst : Option Nat) (k : List Kt) (st : St)
  | dcall (f : FuncId) (args : List Value) (c : Nat) (T : Tb) (p : Plan) (ops : List Oper) (cs : List (Nat × List Nat)) (nws fls aks : List (List Nat)) (E : List (Nat × Value)) (k : List Kt) (st : St)
  | draw (id : Nat) (ops : Array Oper) (k : List Kt) (st : St)
def crun (T : Tb) : Nat → List Kt → St → Option (CR × Prop)
  | 0, _, _ => none
  | n + 1, k, st =>
    match k with
    | [] => some (.done st, True)
    | .b _ :: k => crun T n k st
    | .r ops os :: k => match irun T ops.toList os st with
      | some (.done st', vc) => match crun T n k st' with
        | some (cr, vc2) => some (cr, vc ∧ vc2)
        | none => none
      | some (.call f args dst os' st', vc) => some (.call f args dst (.r ops os' :: k) st', vc)
      | some (.pan v st', vc) => some (.pan v st', vc)
      | none => none
    | .d T2 p ops cs nws fls aks E :: k => match drun T2 p ops nws fls aks cs E st with
      | some (.done st', vc) => match crun T n k st' with
        | some (cr, vc2) => some (cr, vc ∧ vc2)
        | none => none
      | some (.call f args c cs' nws' fls' aks' E' st', vc) => some (.dcall f args c T2 p ops cs' nws' fls' aks' E' k st', vc)
      | none => none
    | .c x :: k => match x with
      | .skip => crun T n k st
      | .seq a b => crun T n (.c a :: .c b :: k) st
      | .block id c => crun T n (.c c :: .b id :: k) st
      | .exit id => match popB id k with
        | some k' => crun T n k' st
        | none => some (.exit id st, True)
      | .ret => some (.ret st, True)
      | .cond c a b => match opv st.fr c with
        | some (.bool t) => some (.cond t (.c a :: k) (.c b :: k) st, True)
        | _ => none
      | .loop c => some (.loop c k st, True)
      | .region id ops d => match d with
        | false => crun T n (.r ops ops.toList :: k) st
        | true => some (.draw id ops k st, True)
      | _ => none
def retQ (P : Program) (k : List Kt) (st : St) (dst : Option Nat) (Q : IExit → St → Prop) : Out → Hp → Nat → Prop
  | .ret v, F', nx' => ∃ st', St.put { st with F := F', nx := nx' } dst v = some st' ∧ JS P k Q st'
  | .pan v, F', nx' => Q (.pan v) { st with F := F', nx := nx' }
def dretQ (P : Program) (T : Tb) (p : Plan) (ops : List Oper) (c : Nat) (cs : List (Nat × List Nat)) (nws fls aks : List (List Nat)) (E : List (Nat × Value)) (k : List Kt) (st : St) (Q : IExit → St → Prop) : Out → Hp → Nat → Prop
  | .ret v, F', nx' => JS P (.d T p ops cs nws fls aks ((c, v) :: E) :: k) Q { st with F := F', nx := nx' }
  | .pan v, F', nx' => Q (.pan v) { st with fr := keepFr p.wr st.fr, F := F', nx := nx' }
def CRJ (P : Program) (Q : IExit → St → Prop) : CR → Prop
  | .done st => Q .normal st
  | .exit id st => Q (.exit id) st
  | .ret st => Q .ret st
  | .pan v st => Q (.pan v) st
  | .cond t ka kb st => (t = true → JS P ka Q st) ∧ (t = false → JS P kb Q st)
  | .loop c k st => JS P (.c (.loop c) :: k) Q st
  | .call f args dst k st => CallW P f args st.F st.nx (retQ P k st dst Q)
  | .dcall f args c T p ops cs nws fls aks E k st => CallW P f args st.F st.nx (dretQ P T p ops c cs nws fls aks E k st Q)
  | .draw id ops k st => JS P (.c (.region id ops true) :: k) Q st
section
variable {P : Program} {T : Tb} {st : St} {Q : IExit → St → Prop}
theorem crun_run (hT : TbOk P T) : ∀ {n : Nat} {k : List Kt} {st : St} {cr : CR} {vc : Prop}, crun T n k st = some (cr, vc) → vc → CRJ P Q cr → JS P k Q st
  | 0, _, _, _, _, h, _, _ => by cases h
  | n + 1, k, st, cr, vc, h, hv, hr => by
    unfold crun at h
    split at h
    · cases h; rw [JS]; exact hr
    · rw [JS]; exact crun_run hT h hv hr
    · rename_i ops os k
      rw [JS]
      split at h
      · rename_i st' vc1 h1
        split at h
        · rename_i cr2 vc2 h2
          cases h
          exact JL_run hT h1 hv.1 (by rw [R1J]; exact crun_run hT h2 hv.2 hr)
        · cases h
      · rename_i f args dst os' st' vc1 h1
        cases h
        refine JL_run hT h1 hv ?_
        rw [R1J]
        refine hr.mono fun o F' nx' q => ?_
        cases o with
        | ret v => obtain ⟨s, p1, p2⟩ := q; rw [JS] at p2; exact ⟨s, p1, p2⟩
        | pan v => exact q
      · rename_i v st' vc1 h1
        cases h
        exact JL_run hT h1 hv hr
      · cases h
    · rename_i T2 p ops cs nws fls aks E k
      rw [JS]
      intro hfl
      split at h
      · rename_i st' vc1 h1
        split at h
        · rename_i cr2 vc2 h2
          cases h
          exact drun_run h1 hv.1 hfl (crun_run hT h2 hv.2 hr)
        · cases h
      · rename_i f args c cs' nws' fls' aks' E' st' vc1 h1
        cases h
        refine drun_run h1 hv hfl ?_
        refine CallW.mono hr fun o F' nx' q => ?_
        cases o with
        | ret v =>
          have hfl2 : flOk nws' fls' aks' = true := drun_fl h1 hfl
          have q2 : JS P (.d T2 p ops cs' nws' fls' aks' ((c, v) :: E') :: k) Q { st' with F := F', nx := nx' } := q
          rw [JS] at q2
          exact q2 hfl2
        | pan v => exact q
      · cases h
    · rename_i x k
      rw [JS]
      split at h
      · exact J_skip (crun_run hT h hv hr)
      · rename_i a b
        have := crun_run hT h hv hr
        rw [JS] at this
        refine J_seq (this.mono fun e s q => ?_)
        cases e with
        | normal => rw [onward, JS] at q; exact q
        | exit id => rw [onward, JX] at q; exact q
        | ret => exact q
        | pan v => exact q
      · rename_i id c
        have := crun_run hT h hv hr
        rw [JS] at this
        refine J_block (this.mono fun e s q => ?_)
        cases e with
        | normal => rw [onward, JS] at q; exact q
        | exit j =>
          rw [onward, JX] at q
          show if j = id then JS P k Q s else JX P k Q j s
          by_cases hj : j = id
          · rw [if_pos hj.symm] at q; rw [if_pos hj]; exact q
          · rw [if_neg (fun e => hj e.symm)] at q; rw [if_neg hj]; exact q
        | ret => exact q
        | pan v => exact q
      · rename_i id
        refine J_exit (JX_pop ?_)
        split at h
        · exact crun_run hT h hv hr
        · cases h; exact hr
      · cases h; exact J_ret hr
      · rename_i c a b
        split at h
        · rename_i t hc
          cases h
          exact J_cond hc (fun ht => by have := hr.1 ht; rw [JS] at this; exact this) (fun ht => by have := hr.2 ht; rw [JS] at this; exact this)
        · cases h
      · cases h; have := hr; rw [CRJ, JS] at this; exact this
      · rename_i id ops d
        split at h
        · have := crun_run hT h hv hr
          rw [JS] at this
          exact fun m0 F0 nx0 w0 m a w hs hsr => wp_region_list (this m0 F0 nx0 w0 m a w hs hsr)
        · cases h; have := hr; rw [CRJ, JS] at this; exact this
      · cases h
theorem JS_draw {T2 : Tb} (hT2 : TbOk P T2) (p : Plan) {id : Nat} {ops : Array Oper} {k : List Kt} (hm : P.follows .mixedOrders = true) (hp : planOk ops.toList p = true) (hn : dstOk st.n ops.toList = true) (hinfo : infOk T2 ops.toList = true)
    (h : JS P (.d T2 p ops.toList p.ch p.nw p.fl p.ac [] :: k) Q st) : JS P (.c (.region id ops true) :: k) Q st := by
  simp only [JS] at h ⊢
  have hfl : flOk p.nw p.fl p.ac = true := by
    unfold planOk at hp
    simp only [Bool.and_eq_true] at hp
    exact hp.1.2
  obtain ⟨E, _, hd⟩ := h hfl
  exact J_draw hT2 hm p hp hn hinfo E hd
theorem JS_go (hT : TbOk P T) (n : Nat) {k : List Kt} (h : ∀ x, crun T n k st = x → ∃ cr vc, x = some (cr, vc) ∧ vc ∧ CRJ P Q cr) : JS P k Q st := by
  obtain ⟨cr, vc, e, hv, hr⟩ := h _ rfl
  exact crun_run hT e hv hr
theorem J_of_JS {c : Code} (h : JS P [.c c] Q st) : J P c st Q := by
  rw [JS] at h
  refine h.mono fun e s q => ?_
  cases e with
  | normal => rw [onward, JS] at q; exact q
  | exit id => rw [onward, JX] at q; exact q
  | ret => exact q
  | pan v => exact q
theorem JS.le {k : List Kt} {s : St} (hl : s.le st) : JS P k Q s → (hk : ∃ c k', k = .c c :: k') → JS P k Q st := by
  rintro h ⟨c, k', rfl⟩
  rw [JS] at h ⊢
  exact h.le hl
def loopQ (P : Program) {α : Type} (S : α → St) (μ : α → Nat) (x : α) (k : List Kt) (Q : IExit → St → Prop) : IExit → St → Prop
  | .normal, s => ∃ y, μ y < μ x ∧ (S y).le s
  | .exit id, s => match popB id k with
    | some k' => JS P k' Q s
    | none => Q (.exit id) s
  | e, s => Q e s
theorem JS_loop {α : Type} {c : Code} {k : List Kt} (S : α → St) (μ : α → Nat) (x : α) (h0 : (S x).le st) (step : ∀ x, JS P [.c c] (loopQ P S μ x k Q) (S x)) : JS P (.c (.loop c) :: k) Q st := by
  rw [JS]
  refine J_loop S μ x h0 fun x => (J_of_JS (step x)).mono fun e s q => ?_
  cases e with
  | normal => exact q
  | exit id => exact JX_pop q
  | ret => exact q
  | pan v => exact q
theorem at_ret (h : Q .ret st) : CRJ P Q (.ret st) := h
theorem at_done (h : Q .normal st) : CRJ P Q (.done st) := h
theorem at_exit {id : Nat} (h : Q (.exit id) st) : CRJ P Q (.exit id st) := h
theorem at_pan {v : Value} (h : Q (.pan v) st) : CRJ P Q (.pan v st) := h
theorem at_cond {t : Bool} {ka kb : List Kt} (h1 : t = true → JS P ka Q st) (h2 : t = false → JS P kb Q st) : CRJ P Q (.cond t ka kb st) := ⟨h1, h2⟩
theorem at_loop {c : Code} {k : List Kt} (h : JS P (.c (.loop c) :: k) Q st) : CRJ P Q (.loop c k st) := h
theorem at_call {f : FuncId} {args : List Value} {dst : Option Nat} {k : List Kt} (h : CallW P f args st.F st.nx (retQ P k st dst Q)) : CRJ P Q (.call f args dst k st) := h
theorem in_ret {α : Type} {S : α → St} {μ : α → Nat} {x : α} {k : List Kt} (h : Q .ret st) : loopQ P S μ x k Q .ret st := h
theorem in_pan {α : Type} {S : α → St} {μ : α → Nat} {x : α} {k : List Kt} {v : Value} (h : Q (.pan v) st) : loopQ P S μ x k Q (.pan v) st := h
theorem in_next {α : Type} {S : α → St} {μ : α → Nat} {x : α} {k : List Kt} (y : α) (h : μ y < μ x) (hl : (S y).le st) : loopQ P S μ x k Q .normal st := ⟨y, h, hl⟩
theorem in_exit {α : Type} {S : α → St} {μ : α → Nat} {x : α} {k k' : List Kt} {id : Nat} (h : popB id k = some k') (hj : JS P k' Q st) : loopQ P S μ x k Q (.exit id) st := by
  show (match popB id k with | some k' => JS P k' Q st | none => Q (.exit id) st)
  rw [h]; exact hj
theorem CallW_go (hT : TbOk P T) {f : FuncId} {fn : Func} (N : Nat) (rs : List ResultVar) {c : Code} {args : List Value} {F : Hp} {nx : Nat} {K : Out → Hp → Nat → Prop} (hf : P.funcs[f]? = some fn) (hb : fn.body = some c)
    (hname : (fn.name == "runtime.NumGoroutine") = false) (hN : fn.ntmps = N) (hrs : fn.results.toList = rs) (hn : args.length ≤ N)
    (h : (∀ id b, look id F = some b → id < nx) → JS P [.c c] (bodyQ T rs K) { n := N, fr := params 0 args, F := F, nx := nx, ds := [] }) : CallW P f args F nx K :=
  CallW_of hT N rs hf hb hname hN hrs hn fun hlt => J_of_JS (h hlt)
theorem ret_end {T : Tb} {rs : List ResultVar} {K : Out → Hp → Nat → Prop} {st : St} {v : Value} {vc : Prop} {F' : Hp} (h : ires T rs st = some (v, vc)) (hd : st.ds = []) (hv : vc)
    (hF : ∀ id b, look id F' = some b → look id st.F = some b) (hk : K (.ret v) F' st.nx) : bodyQ T rs K .ret st := ⟨hd, v, vc, h, hv, F', hF, hk⟩
theorem le_of {s t : St} (hn : s.n = t.n) (hf : leL t.fr s.fr) (hF : leL t.F s.F) (hx : t.nx ≤ s.nx) (hd : s.ds = t.ds) : s.le t := ⟨hn, leL_look hf, leL_look hF, hx, hd⟩
end
end Go.Proofs.Ytoihmanhldcjhaa.Id
namespace Go.Proofs.Ytoihmanhldcjhaa.Id
open Go
set_option linter.unusedVariables false
set_option linter.unusedSimpArgs false
inductive MR (m : Mp) : Value → FrameMode → Prop
  | pan {v v' : Value} (h : VR m v v') : MR m v (.panicking [{ v := v', recovered := false }])
  | none : MR m .nilIface .returning
structure CallR (P : Program) (f : FuncId) (args : List Value) (F : Hp) (nx : Nat) (rv : Value) (K : Hp → Nat → Prop) : Prop where
  able : Able P f
  run : ∀ m w (args' : Array Value) u, HR m F nx w → VRs m args args'.toList → MR m rv u → CallsD P f args' u w fun e u' w' => ∃ v F' nx' m', e = .returned v ∧ settle u' = .returning ∧ K F' nx' ∧ HR m' F' nx' w' ∧ Stp m F nx w m' F' nx' w'
def bodyR (K : Hp → Nat → Prop) : IExit → St → Prop
  | .normal, st | .ret, st => st.ds = [] ∧ ∃ F', (∀ id b, look id F' = some b → look id st.F = some b) ∧ K F' st.nx
  | _, _ => False
def leaveQ (T : Tb) (rs : List ResultVar) (K : Out → Hp → Nat → Prop) (st : St) (F' : Hp) (nx' : Nat) : Prop :=
  ∃ v vc, ires T rs { st with F := F', nx := nx', ds := [] } = some (v, vc) ∧ vc ∧ ∃ F2, (∀ id b, look id F2 = some b → look id F' = some b) ∧ K (.ret v) F2 nx'
def deferQ (P : Program) (T : Tb) (rs : List ResultVar) (K : Out → Hp → Nat → Prop) (rv : Value) (st : St) : Prop :=
  ∃ f cap args, st.ds = [{ target := .fn (.func f) cap, args := args }] ∧ CallR P f (args.toList ++ cap.toList) st.F st.nx rv (leaveQ T rs K st)
def bodyD (P : Program) (T : Tb) (rs : List ResultVar) (K : Out → Hp → Nat → Prop) : IExit → St → Prop
  | .normal, st | .ret, st => deferQ P T rs K .nilIface st
  | .pan v, st => deferQ P T rs K v st
  | .exit _, _ => False
def loopI (P : Program) {α : Type} (S : α → St) (I : α → Prop) (μ : α → Nat) (n : Nat) (k : List Kt) (Q : IExit → St → Prop) : IExit → St → Prop
  | .normal, s => ∃ y, I y ∧ μ y < n ∧ (S y).le s
  | .exit id, s => match popB id k with
    | some k' => JS P k' Q s
    | none => Q (.exit id) s
  | e, s => Q e s
section
variable {P : Program} {Q : IExit → St → Prop} {α : Type} {S : α → St} {I : α → Prop} {μ : α → Nat} {n : Nat} {k : List Kt} {st : St}
theorem JS_loopI {c : Code} (S : α → St) (I : α → Prop) (μ : α → Nat) (x : α) (hI : I x) (h0 : (S x).le st) (step : ∀ x, I x → JS P [.c c] (loopI P S I μ (μ x) k Q) (S x)) : JS P (.c (.loop c) :: k) Q st := by
  rw [JS]
  refine J_loop (fun x : { x // I x } => S x.1) (fun x => μ x.1) ⟨x, hI⟩ h0 fun x => (J_of_JS (step x.1 x.2)).mono fun e s q => ?_
  cases e with
  | normal => obtain ⟨y, a, b, c⟩ := q; exact ⟨⟨y, a⟩, b, c⟩
  | exit id => exact JX_pop q
  | ret => exact q
  | pan v => exact q
theorem in_retI (h : Q .ret st) : loopI P S I μ n k Q .ret st := h
theorem in_panI {v : Value} (h : Q (.pan v) st) : loopI P S I μ n k Q (.pan v) st := h
theorem in_nextI (y : α) (hI : I y) (h : μ y < n) (hl : (S y).le st) : loopI P S I μ n k Q .normal st := ⟨y, hI, h, hl⟩
theorem in_exitI {k' : List Kt} {id : Nat} (h : popB id k = some k') (hj : JS P k' Q st) : loopI P S I μ n k Q (.exit id) st := by
  show (match popB id k with | some k' => JS P k' Q st | none => Q (.exit id) st)
  rw [h]; exact hj
end
def hasN (k : Nat) : List Nat → Bool
  | [] => false
  | j :: l => if k = j then true else hasN k l
def remN (ids : List Nat) : Hp → Hp
  | [] => []
  | (k, b) :: F => if hasN k ids = true then remN ids F else (k, b) :: remN ids F
theorem hasN_eq (k : Nat) : ∀ ids : List Nat, hasN k ids = ids.contains k
  | [] => rfl
  | j :: l => by
    rw [hasN, List.contains_cons, hasN_eq k l]
    by_cases h : k = j <;> simp [h]
theorem remN_eq (ids : List Nat) : ∀ F : Hp, remN ids F = rem ids F
  | [] => rfl
  | (k, b) :: F => by
    rw [remN, hasN_eq, remN_eq ids F]
    unfold rem
    rw [List.filter_cons]
    cases ids.contains k <;> rfl
def Ret (v : Value) (L : Hp) (n : Nat) : Out → Hp → Nat → Prop := fun o F' nx' => o = .ret v ∧ F' = L ∧ nx' = n
theorem at_callG {P : Program} {Q : IExit → St → Prop} {f : FuncId} {args : List Value} {dst : Option Nat} {k : List Kt} {st : St} {L : Hp} {K : Out → Hp → Nat → Prop} (h : CallW P f args L st.nx K) (hL : leL st.F L)
    (hj : ∀ o L' n, K o L' n → match o with
      | .ret v => ∃ st', St.put { st with F := L' ++ remN (L.map (·.1)) st.F, nx := n } dst v = some st' ∧ JS P k Q st'
      | .pan v => Q (.pan v) { st with F := L' ++ remN (L.map (·.1)) st.F, nx := n }) : CRJ P Q (.call f args dst k st) := by
  refine at_call ((h.frame (leL_look hL)).mono ?_)
  rintro o F' nx' ⟨L', hk, rfl⟩
  rw [← remN_eq]
  have := hj o L' nx' hk
  cases o with
  | ret v => exact this
  | pan v => exact this
theorem at_callK {P : Program} {Q : IExit → St → Prop} {f : FuncId} {args : List Value} {dst : Option Nat} {k : List Kt} {st st' : St} {L L' : Hp} {n : Nat} {v : Value} (h : CallW P f args L st.nx (Ret v L' n)) (hL : leL st.F L)
    (hp : St.put { st with F := L' ++ remN (L.map (·.1)) st.F, nx := n } dst v = some st') (hj : JS P k Q st') : CRJ P Q (.call f args dst k st) := by
  refine at_callG h hL ?_
  rintro o L2 n2 ⟨rfl, rfl, rfl⟩
  exact ⟨st', hp, hj⟩
theorem CallR.frame {P : Program} {f : FuncId} {args : List Value} {L F : Hp} {nx : Nat} {rv : Value} {K : Hp → Nat → Prop} (h : CallR P f args L nx rv K) (hL : ∀ id b, look id L = some b → look id F = some b) :
    CallR P f args F nx rv fun F' nx' => ∃ L', K L' nx' ∧ F' = L' ++ rem (L.map (·.1)) F := by
  refine ⟨h.able, fun m w args' u hh hv hu => (h.run m w args' u (hh.drop hL) hv hu).mono ?_⟩
  rintro e u' w' ⟨v, L', nx', m', e1, e2, k, hh', hs⟩
  obtain ⟨a, b⟩ := frame_core hL hh hh' hs
  exact ⟨v, _, nx', m', e1, e2, ⟨L', k, rfl⟩, a, b⟩
theorem CallR.mono {P : Program} {f : FuncId} {args : List Value} {F : Hp} {nx : Nat} {rv : Value} {K K' : Hp → Nat → Prop} (h : CallR P f args F nx rv K) (hk : ∀ F' nx', K F' nx' → K' F' nx') : CallR P f args F nx rv K' :=
  ⟨h.able, fun m w args' u h1 h2 h3 => (h.run m w args' u h1 h2 h3).mono fun e u' w' ⟨v, F', nx', m', e1, e2, k, r⟩ => ⟨v, F', nx', m', e1, e2, hk _ _ k, r⟩⟩
theorem deferQ_of {P : Program} {T : Tb} {rs : List ResultVar} {K : Out → Hp → Nat → Prop} {rv : Value} {st : St} {f : FuncId} {cap args : Array Value} {L : Hp} {K0 : Hp → Nat → Prop} (hd : st.ds = [{ target := .fn (.func f) cap, args := args }])
    (h : CallR P f (args.toList ++ cap.toList) L st.nx rv K0) (hL : leL st.F L) (hk : ∀ L' n, K0 L' n → leaveQ T rs K st (L' ++ remN (L.map (·.1)) st.F) n) : deferQ P T rs K rv st := by
  refine ⟨f, cap, args, hd, (h.frame (leL_look hL)).mono ?_⟩
  rintro F' nx' ⟨L', k, rfl⟩
  rw [← remN_eq]
  exact hk _ _ k
theorem pan_endK {T : Tb} {rs : List ResultVar} {K : Out → Hp → Nat → Prop} {st : St} {v : Value} (hd : st.ds = []) (hk : ∃ F', (∀ id b, look id F' = some b → look id st.F = some b) ∧ K (.pan v) F' st.nx) : bodyQ T rs K (.pan v) st := ⟨hd, hk⟩
theorem endR {K : Hp → Nat → Prop} {st : St} (hd : st.ds = []) (hk : ∃ F', (∀ id b, look id F' = some b → look id st.F = some b) ∧ K F' st.nx) : bodyR K .normal st := ⟨hd, hk⟩
theorem nrm_endK {T : Tb} {rs : List ResultVar} {K : Out → Hp → Nat → Prop} {st : St} {v : Value} {vc : Prop} (h : ires T rs st = some (v, vc)) (hd : st.ds = []) (hv : vc)
    (hk : ∃ F', (∀ id b, look id F' = some b → look id st.F = some b) ∧ K (.ret v) F' st.nx) : bodyQ T rs K .normal st := ⟨hd, v, vc, h, hv, hk⟩
theorem ret_endK {T : Tb} {rs : List ResultVar} {K : Out → Hp → Nat → Prop} {st : St} {v : Value} {vc : Prop} (h : ires T rs st = some (v, vc)) (hd : st.ds = []) (hv : vc)
    (hk : ∃ F', (∀ id b, look id F' = some b → look id st.F = some b) ∧ K (.ret v) F' st.nx) : bodyQ T rs K .ret st := ⟨hd, v, vc, h, hv, hk⟩
section
variable {P : Program} {T : Tb} (hT : TbOk P T)
include hT
theorem CallR_go {f : FuncId} {fn : Func} (N : Nat) {d1 d2 : Nat} {id : Nat} {o0 o1 : Oper} {c0 : Call} {c2 : Code} {args : List Value} {F : Hp} {nx : Nat} {rv : Value} {K : Hp → Nat → Prop} (hf : P.funcs[f]? = some fn)
    (hb : fn.body = some (.seq (.region id #[o0, o1] false) c2)) (hname : (fn.name == "runtime.NumGoroutine") = false) (hN : fn.ntmps = N) (hrs : fn.results.toList = []) (hn : args.length ≤ N)
    (h0 : o0.op = .call c0) (hc0 : c0.callee = .builtin .recover) (hg0 : o0.guard = none) (hd0 : o0.dst = some d1)
    (h1 : o1.op = .assign (.tmp d1)) (hg1 : o1.guard = none) (hd1 : o1.dst = some d2) (hl1 : d1 < N) (hl2 : d2 < N)
    (h : (∀ id b, look id F = some b → id < nx) → JS P [.c c2] (bodyR K) { n := N, fr := (d2, rv) :: (d1, rv) :: params 0 args, F := F, nx := nx, ds := [] }) : CallR P f args F nx rv K := by
  subst hN
  refine ⟨⟨fn, hf, by rw [hb]; rfl, hname⟩, fun m w args' u hh hv hu => ?_⟩
  refine callsD_of_wpS hf hb fun c₀ cs hmode => ?_
  have hl := hv.length
  simp at hl
  have hj := J_of_JS (h fun id b e => hh.lt e)
  have main : ∀ (rv' : Value) (cs' : List Frame) (u' : FrameMode), VR m rv rv' → cs' = { c₀ with mode := u' } :: cs → settle u' = .returning →
      c2.wpS P (bodyPostS P fn c₀ cs fun e u' w' => ∃ v F' nx' m', e = .returned v ∧ settle u' = .returning ∧ K F' nx' ∧ HR m' F' nx' w' ∧ Stp m F nx w m' F' nx' w')
        (Act.put (Act.put { tmps := args' ++ Array.replicate (fn.ntmps - args'.size) undef, defers := [] } (some d1) rv') (some d2) rv') cs' w := by
    intro rv' cs' u' hrv hcs' hset
    have hsr : SR m { n := fn.ntmps, fr := params 0 args, F := F, nx := nx, ds := [] } { tmps := args' ++ Array.replicate (fn.ntmps - args'.size) undef, defers := [] } w := by
      refine ⟨by simp; omega, ?_, hh, .nil⟩
      intro k v hk
      obtain ⟨v', _, e, r⟩ := params_look 0 k v hv hk
      refine ⟨v', ?_, r⟩
      simp at e
      have : k < args'.size := by rcases Nat.lt_or_ge k args'.size with h | h; exact h; simp [Array.getElem?_eq_none h] at e
      rw [Array.getElem?_append_left this]
      exact e
    obtain ⟨s1, _, _⟩ := hsr.put (dst := some d1) (fun _ _ h => h) hh hrv (by unfold St.put; dsimp only; rw [if_pos hl1])
    obtain ⟨s2, _, _⟩ := s1.put (dst := some d2) (fun _ _ h => h) hh hrv (by unfold St.put; dsimp only; rw [if_pos hl2])
    refine wpS_of_wp (wp_mono (hj m F nx w m _ w (Stp.refl _ _ _ _) s2) ?_)
    rintro e a w' ⟨ie, s, m', q, r, t, u⟩
    have fin : ∀ (s : St), SR m' s a w' → Stp m F nx w m' s.F s.nx w' → (s.ds = [] ∧ ∃ F', (∀ id b, look id F' = some b → look id s.F = some b) ∧ K F' s.nx) →
        a.defers = [] ∧ ∃ u', cs' = { c₀ with mode := u' } :: cs ∧ ∃ v, (results fn a.tmps).run P w' = .ok v w' ∧ ∃ v2 F' nx' m', Ending.returned v = .returned v2 ∧ settle u' = .returning ∧ K F' nx' ∧ HR m' F' nx' w' ∧ Stp m F nx w m' F' nx' w' := by
      rintro s r t ⟨q0, F', q3, q4⟩
      have hd := r.ds
      rw [q0] at hd
      obtain ⟨v', e1, e2⟩ := ires_run hT r (v := .tuple #[]) (vc := True) (by rw [hrs]; rfl) trivial
      refine ⟨?_, u', hcs', v', e1, v', F', _, m', rfl, hset, q4, r.hp.drop q3, t.drop q3⟩
      generalize a.defers = ds at hd
      cases hd; rfl
    cases u with
    | normal => exact fin s r t q
    | ret => exact fin s r t q
    | exit id => exact q.elim
    | pan hv2 => exact q.elim
  refine wpS_seq (wpS_region ?_)
  have hrg : List.range (#[o0, o1] : Array Oper).size = [0, 1] := rfl
  rw [hrg]
  have hw0 : ∀ Y, Region.wanted o0 Y = true := by intro Y; unfold Region.wanted; rw [hg0]
  have hw1 : ∀ Y, Region.wanted o1 Y = true := by intro Y; unfold Region.wanted; rw [hg1]
  have e0 : ∀ (a : Act) (w : World), (execOp a.eval o0).run P w = .ok .recover w := by
    intro a w
    unfold execOp
    rw [h0]
    dsimp only
    unfold resolve
    rw [hc0]
    rfl
  have e1 : ∀ (a : Act) (w : World), (execOp a.eval o1).run P w = .ok (.value (a.eval (.tmp d1))) w := by
    intro a w
    unfold execOp
    rw [h1]
    rfl
  have step : ∀ (rv' : Value) (cs' : List Frame), VR m rv rv' → (∃ u', cs' = { c₀ with mode := u' } :: cs ∧ settle u' = .returning) →
      (match recoverD (c₀ :: cs) with | some (v, cs') => (v, cs') | none => (.nilIface, c₀ :: cs)) = (rv', cs') →
      wpOpsS P #[o0, o1] (Exit.thenS (c2.wpS P (bodyPostS P fn c₀ cs fun e u' w' => ∃ v F' nx' m', e = .returned v ∧ settle u' = .returning ∧ K F' nx' ∧ HR m' F' nx' w' ∧ Stp m F nx w m' F' nx' w')) (bodyPostS P fn c₀ cs fun e u' w' => ∃ v F' nx' m', e = .returned v ∧ settle u' = .returning ∧ K F' nx' ∧ HR m' F' nx' w' ∧ Stp m F nx w m' F' nx' w'))
        [0, 1] { tmps := args' ++ Array.replicate (fn.ntmps - args'.size) undef, defers := [] } (c₀ :: cs) w := by
    rintro rv' cs' hrv ⟨u', hcs', hset⟩ hrec
    have hev : ∀ (a : Act), d1 < a.tmps.size → (Act.put a (some d1) rv').eval (.tmp d1) = rv' := by
      intro a ha
      simp [Act.put, Act.eval, ha]
    have hsz : d1 < (args' ++ Array.replicate (fn.ntmps - args'.size) undef).size := by simp; omega
    have fin := main rv' cs' u' hrv hcs' hset
    unfold wpOpsS
    simp only [List.getElem?_toArray, List.getElem?_cons_zero, hw0, if_true, e0]
    cases hr : recoverD (c₀ :: cs) with
    | none =>
      rw [hr] at hrec
      cases hrec
      dsimp only
      rw [hd0]
      unfold wpOpsS
      simp only [List.getElem?_toArray, List.getElem?_cons_succ, List.getElem?_cons_zero, hw1, if_true, e1]
      unfold wpOpsS
      simp only [Oper.upon, hd1, hev { tmps := args' ++ Array.replicate (fn.ntmps - args'.size) undef, defers := [] } hsz, Exit.thenS]
      exact fin
    | some p =>
      obtain ⟨pv, pc⟩ := p
      rw [hr] at hrec
      cases hrec
      dsimp only
      rw [hd0]
      unfold wpOpsS
      simp only [List.getElem?_toArray, List.getElem?_cons_succ, List.getElem?_cons_zero, hw1, if_true, e1]
      unfold wpOpsS
      simp only [Oper.upon, hd1, hev { tmps := args' ++ Array.replicate (fn.ntmps - args'.size) undef, defers := [] } hsz, Exit.thenS]
      exact fin
  cases hu with
  | pan hv2 =>
    rename_i v'
    refine step v' _ hv2 ⟨.panicking [{ v := v', recovered := true }], rfl, rfl⟩ ?_
    simp only [recoverD, hmode]
  | none =>
    refine step .nilIface (c₀ :: cs) .nilIface ⟨.returning, ?_, rfl⟩ ?_
    · rw [← hmode]
    · simp only [recoverD, hmode]
theorem CallW_goD {f : FuncId} {fn : Func} (N : Nat) (rs : List ResultVar) {c : Code} {args : List Value} {F : Hp} {nx : Nat} {K : Out → Hp → Nat → Prop} (hf : P.funcs[f]? = some fn) (hb : fn.body = some c)
    (hname : (fn.name == "runtime.NumGoroutine") = false) (hN : fn.ntmps = N) (hrs : fn.results.toList = rs) (hn : args.length ≤ N)
    (h : (∀ id b, look id F = some b → id < nx) → JS P [.c c] (bodyD P T rs K) { n := N, fr := params 0 args, F := F, nx := nx, ds := [] }) : CallW P f args F nx K := by
  subst hN hrs
  refine ⟨fun m w args' hh hv => .inl ⟨⟨fn, hf, by rw [hb]; rfl, hname⟩, ?_⟩⟩
  refine calls_of_wp_defers hf hb ?_
  have hl := hv.length
  simp at hl
  have hsr : SR m { n := fn.ntmps, fr := params 0 args, F := F, nx := nx, ds := [] } { tmps := args' ++ Array.replicate (fn.ntmps - args'.size) undef, defers := [] } w := by
    refine ⟨by simp; omega, ?_, hh, .nil⟩
    intro k v hk
    obtain ⟨v', _, e, r⟩ := params_look 0 k v hv hk
    refine ⟨v', ?_, r⟩
    simp at e
    have : k < args'.size := by rcases Nat.lt_or_ge k args'.size with h | h; exact h; simp [Array.getElem?_eq_none h] at e
    rw [Array.getElem?_append_left this]
    exact e
  refine wp_mono (J_of_JS (h fun id b e => hh.lt e) m F nx w m _ w (Stp.refl _ _ _ _) hsr) ?_
  rintro e a w' ⟨ie, s, m', q, r, t, u⟩
  have fin : ∀ (rv : Value) (mode : FrameMode), MR m' rv mode → deferQ P T fn.results.toList K rv s →
      Leaves P fn a.tmps (fun e w' => ∃ o F' nx' m', K o F' nx' ∧ HR m' F' nx' w' ∧ Stp m F nx w m' F' nx' w' ∧ OutR m' o e) a.defers mode w' := by
    rintro rv mode hm ⟨g, cap, dargs, hds, hcall⟩
    have hd := r.ds
    rw [hds] at hd
    generalize hdf : a.defers = ds at hd
    cases hd with
    | cons fn2 hc ha tl =>
      rename_i c' a' l'
      cases tl
      obtain ⟨fn3, e1, e2, e3⟩ := hcall.able
      have hn3 : ¬ fn3.body = none := by cases hb3 : fn3.body <;> simp_all
      have e4 : ¬ fn3.name = "runtime.NumGoroutine" := by simpa using e3
      refine leaves_cons (f := g) (args := a' ++ c') ?_ ?_ ?_
      · cases hm <;> exact nofun
      · simp [invoke, callFunc, e1, e4, hn3]
      · refine (hcall.run m' w' (a' ++ c') mode r.hp (by simpa using ha.append hc) hm).mono ?_
        rintro e u' w2 ⟨v, F', nx', m2, rfl, hset, ⟨v2, vc, q1, q2, F2, q3, q4⟩, hh2, hst⟩
        dsimp only
        rw [hset]
        have hsr2 : SR m2 { s with F := F', nx := nx', ds := [] } { a with defers := [] } w2 := ⟨r.n, r.fr.mono hst.ext, hh2, .nil⟩
        obtain ⟨v', x1, x2⟩ := ires_run hT hsr2 q1 q2
        exact ⟨v', x1, _, F2, _, m2, q4, hh2.drop q3, (t.trans hst).drop q3, .ret x2⟩
  cases u with
  | normal => exact fin .nilIface .returning .none q
  | ret => exact fin .nilIface .returning .none q
  | exit id => exact q.elim
  | pan hv2 => exact fin _ _ (.pan hv2) q
end
end Go.Proofs.Ytoihmanhldcjhaa.Id
namespace Go.Proofs.Ytoihmanhldcjhaa.Id
open Go
def cutQ (S : St) (Q : IExit → St → Prop) : IExit → St → Prop
  | .normal, s => S.le s
  | .exit _, _ => False
  | e, s => Q e s
theorem CallW.drop {P : Program} {f : FuncId} {args : List Value} {F : Hp} {nx : Nat} {K K' : Out → Hp → Nat → Prop} (h : CallW P f args F nx K) (hk : ∀ o F' nx', K o F' nx' → ∃ F2, (∀ id b, look id F2 = some b → look id F' = some b) ∧ K' o F2 nx') : CallW P f args F nx K' := by
  refine ⟨fun m w args' h1 h2 => (h.run m w args' h1 h2).mono ?_⟩
  rintro e w' ⟨o, F', nx', m', k, a, b, c⟩
  obtain ⟨F2, h3, h4⟩ := hk _ _ _ k
  exact ⟨o, F2, nx', m', h4, a.drop h3, b.drop h3, c⟩
theorem CallW.quiet {P : Program} {f : FuncId} {args : List Value} {L F : Hp} {nx : Nat} {K : Out → Nat → Prop} (h : CallW P f args L nx fun o F' n => K o n ∧ F' = L) (hL : ∀ id b, look id L = some b → look id F = some b) :
    CallW P f args F nx fun o F' n => K o n ∧ F' = F := by
  refine (h.frame hL).drop ?_
  rintro o F' n ⟨L', ⟨hk, rfl⟩, rfl⟩
  refine ⟨F, fun id b hb => ?_, hk, rfl⟩
  rw [look_append]
  cases hl : look id L' with
  | some c => have := hL id c hl; rw [hb] at this; cases this; rfl
  | none =>
    dsimp only
    rw [look_rem, if_neg, hb]
    intro hc
    rw [List.contains_iff_mem] at hc
    obtain ⟨e, he, rfl⟩ := List.mem_map.1 hc
    exact absurd hl (by
      clear hl hL hb h hc
      induction L' with
      | nil => cases he
      | cons x L' ih =>
        obtain ⟨j, y⟩ := x
        rw [look_cons]
        split
        · simp
        · rename_i hj
          rcases List.mem_cons.1 he with he | he
          · subst he; exact absurd rfl hj
          · exact ih he)
section
variable {P : Program} {Q : IExit → St → Prop} {st : St}
theorem at_quiet {f : FuncId} {args : List Value} {dst : Option Nat} {k : List Kt} {L : Hp} {K : Out → Nat → Prop} (h : CallW P f args L st.nx fun o F' n => K o n ∧ F' = L) (hL : ∀ id b, look id L = some b → look id st.F = some b)
    (hj : ∀ o n, K o n → match o with
      | .ret v => ∃ st', St.put { st with nx := n } dst v = some st' ∧ JS P k Q st'
      | .pan v => Q (.pan v) { st with nx := n }) : CRJ P Q (.call f args dst k st) := by
  refine at_call (CallW.mono (h.quiet hL) ?_)
  rintro o F' nx' ⟨hk, rfl⟩
  have := hj o nx' hk
  cases o with
  | ret v => exact this
  | pan v => exact this
theorem JS_seq {a b : Code} {k : List Kt} (h : JS P (.c a :: .c b :: k) Q st) : JS P (.c (.seq a b) :: k) Q st := by
  rw [JS] at h ⊢
  refine J_seq (h.mono fun e s q => ?_)
  cases e with
  | normal => rw [onward, JS] at q; exact q
  | exit id => rw [onward, JX] at q; exact q
  | ret => exact q
  | pan v => exact q
theorem JS_cut (S : St) {a b : Code} {k : List Kt} (h1 : JS P [.c a] (cutQ S Q) st) (h2 : JS P (.c b :: k) Q S) : JS P (.c a :: .c b :: k) Q st := by
  rw [JS] at h1 ⊢
  refine h1.mono fun e s q => ?_
  cases e with
  | normal => rw [onward, JS] at q; exact h2.le q ⟨b, k, rfl⟩
  | exit id => rw [onward, JX] at q; exact q.elim
  | ret => exact q
  | pan v => exact q
theorem at_dcallG {T : Tb} {p : Plan} {ops : List Oper} {cs : List (Nat × List Nat)} {nws fls aks : List (List Nat)} {E : List (Nat × Value)} {f : FuncId} {args : List Value} {c : Nat} {k : List Kt} {L : Hp} {K : Out → Hp → Nat → Prop} (h : CallW P f args L st.nx K) (hL : leL st.F L)
    (hj : ∀ o L' n, K o L' n → match o with
      | .ret v => JS P (.d T p ops cs nws fls aks ((c, v) :: E) :: k) Q { st with F := L' ++ remN (L.map (·.1)) st.F, nx := n }
      | .pan v => Q (.pan v) { st with fr := keepFr p.wr st.fr, F := L' ++ remN (L.map (·.1)) st.F, nx := n }) : CRJ P Q (.dcall f args c T p ops cs nws fls aks E k st) := by
  refine CallW.mono (h.frame (leL_look hL)) ?_
  rintro o F' nx' ⟨L', hk, rfl⟩
  rw [← remN_eq]
  have := hj o L' nx' hk
  cases o with
  | ret v => exact this
  | pan v => exact this
theorem at_condM (S : St) {t : Bool} {a b c : Code} {k : List Kt} (h1 : t = true → JS P [.c a] (cutQ S Q) st) (h2 : t = false → JS P [.c b] (cutQ S Q) st) (h3 : JS P (.c c :: k) Q S) : CRJ P Q (.cond t (.c a :: .c c :: k) (.c b :: .c c :: k) st) :=
  ⟨fun ht => JS_cut S (h1 ht) h3, fun ht => JS_cut S (h2 ht) h3⟩
theorem in_cut {S : St} (h : S.le st) : cutQ S Q .normal st := h
end
end Go.Proofs.Ytoihmanhldcjhaa.Id
namespace Go.Proofs.Ytoihmanhldcjhaa.Id
open Go Go.RowKit
set_option linter.unusedVariables false
set_option linter.unusedSimpArgs false
theorem Does.calls {P : Program} {f : FuncId} {fn : Func} {args : Array Value} {w : World} {R : Ending → World → Prop} (h : Does P f args w R) (hf : P.funcs[f]? = some fn) (hb : fn.body.isSome = true) (hname : (fn.name == "runtime.NumGoroutine") = false) : Calls P f args w R := by
  rcases h with ⟨_, h⟩ | ⟨v, w', h, _⟩
  · exact h
  · exfalso
    have hn3 : ¬ fn.body = none := by cases hb3 : fn.body <;> simp_all
    have e4 : ¬ fn.name = "runtime.NumGoroutine" := by simpa using hname
    simp [callFunc, hf, e4, hn3] at h
theorem law_calls {P : Program} {f : FuncId} {fn : Func} {args : List Value} {F : Hp} {nx : Nat} {m : Mp} {w : World} {args' : Array Value} (h : CallW P f args F nx fun o F' n => (o = .ret (.bool true) ∧ nx ≤ n) ∧ F' = F)
    (hf : P.funcs[f]? = some fn) (hb : fn.body.isSome = true) (hname : (fn.name == "runtime.NumGoroutine") = false) (hro : ∀ id blk, look id F = some blk → blk.ro = true) (hh : HR m F nx w) (hv : VRs m args args'.toList) :
    Calls P f args' w fun e w' => e = .returned (.bool true) ∧ Below w.heap.size w w' := by
  refine ((h.run m w args' hh hv).calls hf hb hname).mono ?_
  rintro e w' ⟨o, F', nx', m', ⟨⟨rfl, _⟩, rfl⟩, _, hs, ho⟩
  cases ho with
  | ret hv =>
    cases hv
    refine ⟨rfl, hs.env.1, hs.env.2.2, hs.env.2.1, hs.size, fun b hb => hs.keep b hb ?_⟩
    rintro ⟨id, blk, p, a1, a2, _, _⟩
    rw [hro id blk a1] at a2
    cases a2
theorem choose_list {α : Type} {P : Nat → α → Prop} : ∀ n : Nat, (∀ i, i < n → ∃ x, P i x) → ∃ l : List α, l.length = n ∧ ∀ (i : Nat) (h : i < l.length), P i l[i]
  | 0, _ => ⟨[], rfl, fun i h => absurd h (Nat.not_lt_zero i)⟩
  | n + 1, h => by
    obtain ⟨l, hl, hp⟩ := choose_list n fun i hi => h i (Nat.lt_succ_of_lt hi)
    obtain ⟨x, hx⟩ := h n (Nat.lt_succ_self n)
    refine ⟨l ++ [x], by simp [hl], fun i hi => ?_⟩
    rcases Nat.lt_or_ge i l.length with h1 | h1
    · rw [List.getElem_append_left h1]; exact hp i h1
    · have : i = n := by simp at hi; omega
      subst this
      rw [List.getElem_append_right h1]
      simpa [hl] using hx
theorem flat_idx {α β : Type} (f : α → List β) (m : Nat) (hm : 0 < m) (hf : ∀ x, (f x).length = m) : ∀ (l : List α) (n : Nat) (v : β), (l.flatMap f)[n]? = some v → ∃ h : n / m < l.length, (f l[n / m])[n % m]? = some v
  | [], n, v, h => by simp at h
  | x :: l, n, v, h => by
    rw [List.flatMap_cons] at h
    rcases Nat.lt_or_ge n m with h1 | h1
    · rw [List.getElem?_append_left (by rw [hf]; exact h1)] at h
      rw [Nat.mod_eq_of_lt h1]
      have : n / m = 0 := Nat.div_eq_of_lt h1
      exact ⟨by rw [this]; simp, by simpa [this] using h⟩
    · rw [List.getElem?_append_right (by rw [hf]; exact h1), hf] at h
      obtain ⟨g1, g2⟩ := flat_idx f m hm hf l (n - m) v h
      have e1 : n / m = (n - m) / m + 1 := by
        rw [Nat.div_eq_sub_div hm h1]
      have e2 : n % m = (n - m) % m := by rw [← Nat.mod_eq_sub_mod h1]
      refine ⟨by rw [e1, List.length_cons]; omega, ?_⟩
      rw [e2]
      simpa [e1] using g2
end Go.Proofs.Ytoihmanhldcjhaa.Id
