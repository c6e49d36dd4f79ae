/- What the claim's proof leans on: texts of this claim, laid together. -/
import Derived.Test.YtfhdibankkokoaaV1
import Derived.Test.YtfhdibankkokoaaProg
import Derived.ProofKit
import Derived.OpenShut
import Derived.ChangeSlices
import Derived.Shelf.Small.Bits
import Derived.Shelf.Strconv.Itoa0
import Derived.Shelf.Bits.Mul64
import Derived.Below
import Derived.WalkKit
import Derived.WalkSpells
import Derived.WalkLawsBesides
import Derived.Deep.QuietTactic
import Derived.BigQuiet
import Derived.Lib.Hide
import Derived.Laws.BitsLemmas
import Derived.Deep.DeepCutAuto
import Derived.Deep.CutBlock
import Derived.Lib.ItoaNum
import Derived.Deep.RegionWith
import Derived.Deep.RegionHeld3
import Derived.Deep.Draws
import Derived.Deep.AppendLies
import Derived.Maps.AppendAt
import Derived.OwnWalk
import Derived.Laws.BytesArg
import Derived.Laws.MakeOwn
import Derived.Laws.OwnMore
import Derived.Deep.OwnRows
import Derived.Tactics
import Derived.Lib.ConvBytes
import Derived.Laws.Slices
import Derived.KernelRfl
import Derived.RowKit3
import Derived.Deep.LoopGhost
import Derived.WideLaws
import Derived.Laws.Rows
import Derived.Lib.AppendStr
import Derived.ArgAppend
import Derived.Laws.IdiomCopy
import Derived.OrdersHeld
import Derived.RowKit
import Derived.BigRegion
import Derived.Deep.Slices
namespace Go.Proofs.Ytfhdibankkokoaa
open Go Go.RowKit Go.ChangeShapes Go.WideShapes Go.Proofs.YtfhdibankkokoaaW.PrintWords
set_option linter.unusedVariables false
set_option linter.unusedSimpArgs false
inductive Leaf where
  | int (k : IntKind) | bool | other (t : TypeId)
def gleavesF (P : Program) (L : TypeId → Option (List Leaf)) : List Field → Nat → Option (List Leaf)
  | [], _ => some []
  | f :: r, o => if f.offset = o then (match L f.type, gleavesF P L r (o + P.cellsOf f.type) with
    | some a, some b => if a.length = P.cellsOf f.type then some (a ++ b) else none
    | _, _ => none) else none
def gleaves (P : Program) : Nat → TypeId → Option (List Leaf)
  | 0, _ => none
  | n + 1, t => match P.underlying t with
    | some (.int k) => some [.int k]
    | some .bool => some [.bool]
    | some (.struct fs) => (match gleavesF P (gleaves P n) fs.toList 0 with
      | some ks => if ks.length = P.cellsOf t then some ks else none
      | none => none)
    | some (.slice _) => if P.cellsOf t = 1 then some [.other t] else none
    | some .string => if P.cellsOf t = 1 then some [.other t] else none
    | _ => none
section
variable {H : Type} {enc : TypeId × Value → H} {P : Program} {w : World} {base : Nat} {spare : Nat → Bool} {held : Bool}
def gokLeaf (enc : TypeId × Value → H) (P : Program) (w : World) (base : Nat) (spare : Nat → Bool) (held : Bool) : Leaf → Value → Prop
  | .int k, v => ∃ z, v = .int k z ∧ (Lit.int k z).wf = true
  | .bool, v => ∃ b, v = .bool b
  | .other t, v => ∃ m x, DataW.trod enc P w base spare held m t [v] = some x
def gflatOk (enc : TypeId × Value → H) (P : Program) (w : World) (base : Nat) (spare : Nat → Bool) (held : Bool) : List Leaf → List Value → Prop
  | [], [] => True
  | k :: ks, v :: vs => gokLeaf enc P w base spare held k v ∧ gflatOk enc P w base spare held ks vs
  | _, _ => False
theorem gflatOk_append : ∀ (a b : List Leaf) (x y : List Value), gflatOk enc P w base spare held a x → gflatOk enc P w base spare held b y → gflatOk enc P w base spare held (a ++ b) (x ++ y)
  | [], b, [], y, _, h => h
  | _ :: a, b, _ :: x, y, h, h' => ⟨h.1, gflatOk_append a b x y h.2 h'⟩
  | [], _, _ :: _, _, h, _ => h.elim
  | _ :: _, _, [], _, h, _ => h.elim
theorem gflat_fields {n : Nat} (ih : ∀ t ks, gleaves P n t = some ks → ∀ fuel cs x, cs.length = P.cellsOf t → DataW.trod enc P w base spare held fuel t cs = some x → gflatOk enc P w base spare held ks cs)
    (m : Nat) (cs : List Value) : ∀ (fl : List Field) (o : Nat) (ks : List Leaf) (ys : List (DataW H × List MemPlace)), gleavesF P (gleaves P n) fl o = some ks → ys.length = fl.length → o + ks.length ≤ cs.length →
      (∀ (i : Nat) (f : Field), fl[i]? = some f → DataW.trod enc P w base spare held m f.type ((cs.drop f.offset).take (P.cellsOf f.type)) = ys[i]?) →
      gflatOk enc P w base spare held ks ((cs.drop o).take ks.length)
  | [], o, ks, ys, hk, hl, hle, _ => by
    obtain rfl := Option.some.inj (show some [] = some ks from hk)
    exact trivial
  | f :: r, o, ks, [], hk, hl, hle, hf => by simp at hl
  | f :: r, o, ks, y :: ys, hk, hl, hle, hf => by
    unfold gleavesF at hk
    split at hk
    · rename_i ho
      split at hk
      · rename_i a b ha hb
        split at hk
        · rename_i hc
          obtain rfl := Option.some.inj hk
          have h0 := hf 0 f rfl
          rw [List.getElem?_cons_zero] at h0
          rw [List.length_append] at hle
          have h1 := ih _ _ ha _ _ _ (by rw [List.length_take, List.length_drop]; omega) h0
          have g1 := gflat_fields ih m cs r _ b ys hb (by simpa using hl) (by omega) (fun i f' hi => by simpa using hf (i + 1) f' (by simpa using hi))
          subst ho
          rw [List.length_append, List.take_add, List.drop_drop, hc]
          exact gflatOk_append _ _ _ _ h1 g1
        · cases hk
      · cases hk
    · cases hk
theorem gflat_open : ∀ (n : Nat) (t : TypeId) (ks : List Leaf), gleaves P n t = some ks → ∀ (fuel : Nat) (cs : List Value) (x : DataW H × List MemPlace), cs.length = P.cellsOf t → DataW.trod enc P w base spare held fuel t cs = some x →
    gflatOk enc P w base spare held ks cs
  | 0, _, _, hk, _, _, _, _, _ => by cases hk
  | n + 1, t, ks, hk, fuel, cs, x, hlc, h => by
    unfold gleaves at hk
    split at hk
    · rename_i k ht
      obtain rfl := Option.some.inj hk
      obtain ⟨z, rfl, rfl, hw⟩ := DataW.trod_int ht h
      exact ⟨⟨z, rfl, hw⟩, trivial⟩
    · rename_i ht
      obtain rfl := Option.some.inj hk
      obtain ⟨b, rfl, rfl⟩ := DataW.trod_bool ht h
      exact ⟨⟨b, rfl⟩, trivial⟩
    · rename_i fs ht
      split at hk
      · rename_i ks' hks
        split at hk
        · rename_i hlen
          obtain rfl := Option.some.inj hk
          obtain ⟨xs, m, rfl, rfl, hl, hxl, hf⟩ := DataW.trod_struct ht h
          have g1 := gflat_fields (gflat_open n) m cs fs.toList 0 ks' xs hks (by simpa using hxl) (by omega) (fun i f hi => hf i f (by simpa using hi))
          rw [List.drop_zero, List.take_of_length_le (by omega)] at g1
          exact g1
        · cases hk
      · cases hk
    · split at hk
      · rename_i e ht hc
        obtain rfl := Option.some.inj hk
        rw [hc] at hlc
        match cs, hlc with
        | [v], _ => exact ⟨⟨fuel, x, h⟩, trivial⟩
      · cases hk
    · split at hk
      · rename_i ht hc
        obtain rfl := Option.some.inj hk
        rw [hc] at hlc
        match cs, hlc with
        | [v], _ => exact ⟨⟨fuel, x, h⟩, trivial⟩
      · cases hk
    · cases hk
theorem gopen_flat {n : Nat} {ks : List Leaf} {fs : Array Field} {r : Reach} {b0 : Nat} {t : TypeId} {v : Value} {d : DataW H} {p : List MemPlace} (hk : gleaves P n t = some ks) (hs : P.underlying t = some (.struct fs))
    (hv : Value.okWide P w r b0 t v) (h : DataW.Trod enc P w base spare held t v d p) :
    ∃ cs, v = .agg cs ∧ gflatOk enc P w base spare held ks cs.toList := by
  obtain ⟨cs, rfl, hsz⟩ := okWide_struct hs hv
  obtain ⟨fuel, hf⟩ := h
  exact ⟨cs, rfl, gflat_open n t ks hk _ _ _ (by simpa [Value.cells] using hsz) hf⟩
end
end Go.Proofs.Ytfhdibankkokoaa
namespace Go.Proofs
open Go.Shelf
def Try.lays134_ren : Go.Shelf.Ren := ⟨fun | 134 => 32 | 129 => 33 | n => n, fun | 53 => 56 | 3 => 3 | 4 => 4 | 46 => 53 | 5 => 5 | 9 => 9 | n => n, fun | n => n⟩
theorem Try.lays134 : Go.Proofs.Lays.n134 Try.prog Try.lays134_ren := {
  mixed := by kernel_rfl
  f129 := Try.func33.trans (congrArg some (by kernel_rfl))
  f134 := Try.func32.trans (congrArg some (by kernel_rfl))
  t3 := Try.underlying3
  a3 := Try.isAgg3
  z3 := Try.sizeOf3
  v3 := Try.zeroValue3
  t4 := Try.underlying4
  a4 := Try.isAgg4
  z4 := Try.sizeOf4
  v4 := Try.zeroValue4
  t5 := Try.underlying5
  a5 := Try.isAgg5
  z5 := Try.sizeOf5
  v5 := Try.zeroValue5
  t9 := Try.underlying9
  a9 := Try.isAgg9
  z9 := Try.sizeOf9
  v9 := Try.zeroValue9
  t46 := Try.underlying53
  a46 := Try.isAgg53
  z46 := Try.sizeOf53
  v46 := Try.zeroValue53
  t53 := Try.underlying56
  a53 := Try.isAgg56
  z53 := Try.sizeOf56
  v53 := Try.zeroValue56 }
theorem Try.bits_LeadingZeros64 (x : Int) (w : World) (h0 : 0 ≤ x) (h1 : x ≤ 18446744073709551615) :
    Calls Try.prog 32 #[.int .u64 x] w fun e w' => e = .returned (.int .i64 (64 - (Lib.bitLen x.toNat : Int))) ∧ w' = w := Any.bits_LeadingZeros64 Try.lays134 x w h0 h1
def Try.lays264_ren : Go.Shelf.Ren := ⟨fun | 264 => 28 | n => n, fun | 53 => 56 | 46 => 53 | n => n, fun | n => n⟩
theorem Try.lays264 : Go.Proofs.Lays.n264 Try.prog Try.lays264_ren := {
  mixed := by kernel_rfl
  f264 := Try.func28.trans (congrArg some (by kernel_rfl))
  t46 := Try.underlying53
  a46 := Try.isAgg53
  z46 := Try.sizeOf53
  v46 := Try.zeroValue53
  t53 := Try.underlying56
  a53 := Try.isAgg56
  z53 := Try.sizeOf56
  v53 := Try.zeroValue56 }
open Go.RowKit Go.Lib in
theorem Try.bits_Mul64 (x y : Nat) (hx : x < 18446744073709551616) (hy : y < 18446744073709551616) (w : World) :
    Calls Try.prog 28 #[.int .u64 x, .int .u64 y] w fun e w' => e = .returned (.tuple #[.int .u64 ((x * y / 18446744073709551616 : Nat) : Int), .int .u64 ((x * y % 18446744073709551616 : Nat) : Int)]) ∧ w' = w := Any.bits_Mul64 Try.lays264 x y hx hy w
end Go.Proofs
namespace Go.Proofs.Ytfhdibankkokoaa.Dv
open Go Go.RowKit
set_option linter.unusedVariables false
structure Guess (U u y yh yl q rh : Int) : Prop where
  sum : q * yh + rh = U
  q0 : 0 ≤ q
  q1 : q ≤ 4294967297
  rh0 : 0 ≤ rh
  rh1 : rh < 4294967296
  high : (U * 4294967296 + u) / y ≤ q
theorem quo_lt {U u y : Int} (hU0 : 0 ≤ U) (hU : U < y) (hu0 : 0 ≤ u) (hu : u < 4294967296) : (U * 4294967296 + u) / y < 4294967296 := by
  apply Int.ediv_lt_of_lt_mul (by omega)
  omega
theorem quo_nonneg {U u y : Int} (hU0 : 0 ≤ U) (hU : U < y) (hu0 : 0 ≤ u) : 0 ≤ (U * 4294967296 + u) / y := Int.ediv_nonneg (by omega) (by omega)
theorem guess_start {U u y yh yl : Int} (e : y = yh * 4294967296 + yl) (p1 : 2147483648 ≤ yh) (p2 : yh < 4294967296) (p3 : 0 ≤ yl) (p4 : yl < 4294967296) (hU0 : 0 ≤ U) (hU : U < y) (hu0 : 0 ≤ u) (hu : u < 4294967296) :
    Guess U u y yh yl (U / yh) (U - U / yh * yh) := by
  have d1 : U / yh * yh + U % yh = U := by rw [Int.mul_comm]; exact Int.mul_ediv_add_emod U yh
  have d2 : 0 ≤ U % yh := Int.emod_nonneg _ (by omega)
  have d3 : U % yh < yh := Int.emod_lt_of_pos _ (by omega)
  have d4 : 0 ≤ U / yh := Int.ediv_nonneg hU0 (by omega)
  generalize U / yh = q at *
  generalize U % yh = r at *
  refine ⟨by omega, d4, ?_, by omega, by omega, ?_⟩
  · by_cases h : q ≤ 4294967297
    · exact h
    · have h2 : 4294967298 * yh ≤ q * yh := Int.mul_le_mul_of_nonneg_right (by omega) (by omega)
      omega
  · have h3 : (U * 4294967296 + u) / y < q + 1 := by
      apply Int.ediv_lt_of_lt_mul (by omega)
      have h4 : (q + 1) * y = (q + 1) * yh * 4294967296 + (q + 1) * yl := by rw [e, Int.mul_add, Int.mul_assoc]
      have h5 : (q + 1) * yh = q * yh + yh := by rw [Int.add_mul, Int.one_mul]
      have h6 : 0 ≤ (q + 1) * yl := Int.mul_nonneg (by omega) p3
      rw [h4, h5]; omega
    omega
theorem guess_high {U u y yh yl q rh : Int} (hy : 0 < y) (e : y = yh * 4294967296 + yl) (hlt : (U * 4294967296 + u) / y < 4294967296) (g : Guess U u y yh yl q rh) (h : 4294967296 ≤ q ∨ 4294967296 * rh + u < q * yl) : (U * 4294967296 + u) / y ≤ q - 1 := by
  rcases h with h | h
  · omega
  · have h2 : (U * 4294967296 + u) / y < q := by
      apply Int.ediv_lt_of_lt_mul hy
      have h4 : q * y = q * yh * 4294967296 + q * yl := by rw [e, Int.mul_add, Int.mul_assoc]
      have := g.sum
      rw [h4]; omega
    omega
theorem guess_right {U u y yh yl q rh : Int} (hy : 0 < y) (e : y = yh * 4294967296 + yl) (g : Guess U u y yh yl q rh) (h : q * yl ≤ 4294967296 * rh + u) : q = (U * 4294967296 + u) / y := by
  have h1 := g.high
  have h2 : q ≤ (U * 4294967296 + u) / y := by
    apply (Int.le_ediv_iff_mul_le hy).2
    have h4 : q * y = q * yh * 4294967296 + q * yl := by rw [e, Int.mul_add, Int.mul_assoc]
    have := g.sum
    rw [h4]; omega
  omega
theorem guess_next {U u y yh yl q rh : Int} (hyh : 0 < yh) (g : Guess U u y yh yl q rh) (hlow : (U * 4294967296 + u) / y ≤ q - 1) (h0 : 0 ≤ (U * 4294967296 + u) / y) (hr : rh + yh < 4294967296) : Guess U u y yh yl (q - 1) (rh + yh) := by
  obtain ⟨s, a, b, c, d, f⟩ := g
  refine ⟨by rw [Int.sub_mul, Int.one_mul]; omega, by omega, by omega, by omega, by omega, hlow⟩
theorem guess_stop {U u y yh yl q rh : Int} (hy : 0 < y) (e : y = yh * 4294967296 + yl) (hyh : 0 < yh) (hyl0 : 0 ≤ yl) (hyl : yl < 4294967296) (hu0 : 0 ≤ u) (g : Guess U u y yh yl q rh) (hlow : (U * 4294967296 + u) / y ≤ q - 1) (h0 : 0 ≤ (U * 4294967296 + u) / y) (hr : 4294967296 ≤ rh + yh) : q - 1 = (U * 4294967296 + u) / y := by
  obtain ⟨s, a, b, c, d, f⟩ := g
  have h2 : q - 1 ≤ (U * 4294967296 + u) / y := by
    apply (Int.le_ediv_iff_mul_le hy).2
    have h4 : (q - 1) * y = (q - 1) * yh * 4294967296 + (q - 1) * yl := by rw [e, Int.mul_add, Int.mul_assoc]
    have h5 : (q - 1) * yh = q * yh - yh := by rw [Int.sub_mul, Int.one_mul]
    have h6 : (q - 1) * yl ≤ 4294967296 * yl := Int.mul_le_mul_of_nonneg_right (by omega) hyl0
    rw [h4, h5]; omega
  omega
theorem left_over {U u y q : Int} (hy0 : 0 < y) (hy : y < 18446744073709551616) (hq : q = (U * 4294967296 + u) / y) :
    0 ≤ U * 4294967296 + u - q * y ∧ U * 4294967296 + u - q * y < y := by
  have h1 := Int.mul_ediv_add_emod (U * 4294967296 + u) y
  have h2 := Int.emod_nonneg (U * 4294967296 + u) (show y ≠ 0 by omega)
  have h3 := Int.emod_lt_of_pos (U * 4294967296 + u) hy0
  have h4 : y * ((U * 4294967296 + u) / y) = q * y := by rw [hq, Int.mul_comm]
  omega
theorem whole {N y p Q1 Q0 r1 r2 U u1 u0 : Int} (hp : 0 < p) (hy0 : 0 < y) (hN : N * p = U * 18446744073709551616 + u1 * 4294967296 + u0) (h1 : U * 4294967296 + u1 = Q1 * (y * p) + r1) (h2 : r1 * 4294967296 + u0 = Q0 * (y * p) + r2)
    (h3 : 0 ≤ r2) (h4 : r2 < y * p) : Q1 * 4294967296 + Q0 = N / y ∧ r2 / p = N % y := by
  have e : N * p = (Q1 * 4294967296 + Q0) * y * p + r2 := by
    have e1 : (Q1 * 4294967296 + Q0) * y * p = Q1 * (y * p) * 4294967296 + Q0 * (y * p) := by
      rw [Int.mul_assoc, Int.add_mul, Int.mul_assoc, Int.mul_assoc, Int.mul_comm 4294967296]
    rw [hN, e1]; omega
  obtain ⟨Q, hQ⟩ : ∃ z, Q1 * 4294967296 + Q0 = z := ⟨_, rfl⟩
  rw [hQ] at e ⊢
  have e2 : r2 = (N - Q * y) * p := by rw [Int.sub_mul]; omega
  have e3 : 0 ≤ N - Q * y := by
    by_cases h : 0 ≤ N - Q * y
    · exact h
    · have := Int.mul_neg_of_neg_of_pos (show N - Q * y < 0 by omega) hp
      omega
  have e4 : N - Q * y < y := by
    by_cases h : N - Q * y < y
    · exact h
    · have : y * p ≤ (N - Q * y) * p := Int.mul_le_mul_of_nonneg_right (by omega) (by omega)
      omega
  constructor
  · have h5 : N = (N - Q * y) + Q * y := by omega
    rw [h5, Int.add_mul_ediv_right _ _ (by omega), Int.ediv_eq_zero_of_lt e3 e4]; omega
  · rw [e2, Int.mul_ediv_cancel _ (by omega)]
    have h5 : N % y = ((N - Q * y) + Q * y) % y := by congr 1; omega
    rw [h5, Int.add_mul_emod_self_right, Int.emod_eq_of_lt e3 e4]
end Go.Proofs.Ytfhdibankkokoaa.Dv
namespace Go.Proofs.Ytfhdibankkokoaa
open Go Go.RowKit
set_option linter.unusedVariables false
theorem div64_low (lo y : Int) (w : World) (h0 : 0 ≤ lo) (h1 : lo ≤ 18446744073709551615) (hy0 : 0 < y) (hy1 : y ≤ 18446744073709551615) :
    Calls Try.prog 31 #[.int .u64 0, .int .u64 lo, .int .u64 y] w fun e w' => e = .returned (.tuple #[.int .u64 (lo / y), .int .u64 (lo % y)]) ∧ ∃ n, w' = w.drewN n := by
  have hne : ((y : Int) == 0) = false := by simp; omega
  go_enter Try.func31, Try.ntmps31
  go_wp2
  go_quiet (fail)
  go_wp2
  go_ret2
  exact ⟨rfl, _, rfl⟩
theorem wrap_u64 (n : Int) : IntKind.u64.wrap n = n % 18446744073709551616 := by simp [IntKind.wrap, IntKind.bits, IntKind.signed]
theorem u64_eq {a b : Int} (h : a = b) : Value.int .u64 a = .int .u64 b := by rw [h]
theorem lz_any (y : Int) (s : Nat) (w : World) (h0 : 0 < y) (h1 : y ≤ 18446744073709551615) (hs : (64 - (Lib.bitLen y.toNat : Int)) = s) :
    Calls Try.prog 32 #[.int .u64 y] w fun e w' => e = .returned (.int .i64 s) ∧ w = w' :=
  (Try.bits_LeadingZeros64 y w (by omega) h1).mono fun _ _ q => ⟨by rw [← hs]; exact q.1, q.2.symm⟩
theorem start_wrap (U m r : Int) (hm0 : 0 ≤ m) (hm1 : m ≤ 18446744073709551615) (h : r = U - m) (h0 : 0 ≤ r) (h1 : r < 4294967296) : IntKind.u64.wrap (U - IntKind.u64.wrap m) = r := by
  rw [wrap_u64, wrap_u64]; omega
theorem left_wrap (U u P r : Int) (h : U * 4294967296 + u - P = r) (h0 : 0 ≤ r) (h1 : r < 18446744073709551616) : IntKind.u64.wrap (IntKind.u64.wrap (IntKind.u64.wrap (U * 4294967296) + u) - IntKind.u64.wrap P) = r := by
  rw [wrap_u64, wrap_u64, wrap_u64, wrap_u64]; omega
set_option maxHeartbeats 2000000 in
set_option maxRecDepth 100000 in
theorem div64_high (hi lo y : Int) (s : Nat) (w : World) (h0 : 0 ≤ lo) (h1 : lo ≤ 18446744073709551615) (hh0 : 0 < hi) (hh1 : hi < y) (hy1 : y ≤ 18446744073709551615)
    (hs : (64 - (Lib.bitLen y.toNat : Int)) = s) (hs1 : s ≤ 63) (Y : Int) (hY : y * 2 ^ s = Y) (hY0 : 9223372036854775808 ≤ Y) (hY1 : Y ≤ 18446744073709551615)
    (H L U X yh yl u1 u0 : Int) (eH : IntKind.u64.wrap (hi * 2 ^ s) = H) (eL : lo / 2 ^ (64 - s) = L) (eU : bits .or .u64 H L = U) (eX : IntKind.u64.wrap (lo * 2 ^ s) = X)
    (eyh : Y / 4294967296 = yh) (eyl : bits .and .u64 Y 4294967295 = yl) (eu1 : X / 4294967296 = u1) (eu0 : bits .and .u64 X 4294967295 = u0)
    (hU0 : 0 ≤ U) (hU : U < Y) (bh0 : 2147483648 ≤ yh) (bh1 : yh < 4294967296) (bl0 : 0 ≤ yl) (bl1 : yl < 4294967296) (b10 : 0 ≤ u1) (b11 : u1 < 4294967296) (b00 : 0 ≤ u0) (b01 : u0 < 4294967296)
    (hYY : Hid (Y = yh * 4294967296 + yl)) :
    Calls Try.prog 31 #[.int .u64 hi, .int .u64 lo, .int .u64 y] w fun e w' => ∃ Q1 Q0 r1 r2, e = .returned (.tuple #[.int .u64 (Q1 * 4294967296 + Q0), .int .u64 (r2 / 2 ^ s)]) ∧ w = w' ∧
      U * 4294967296 + u1 = Q1 * Y + r1 ∧ r1 * 4294967296 + u0 = Q0 * Y + r2 ∧ 0 ≤ r2 ∧ r2 < Y := by
  have HL := Lib.hid (lz_any y s w (by omega) hy1 hs)
  clear hs
  have hne : ((y : Int) == 0) = false := by simp; omega
  have hne2 : ((hi : Int) == 0) = false := by simp; omega
  have HG := Lib.hid (Dv.guess_start (u := u1) hYY.out bh0 bh1 bl0 bl1 hU0 hU b10 b11)
  have HQL := Lib.hid (Dv.quo_lt hU0 hU b10 b11)
  have HQ0 := Lib.hid (Dv.quo_nonneg (u := u1) hU0 hU b10)
  obtain ⟨Q1, hQ1⟩ : ∃ q, (U * 4294967296 + u1) / Y = q := ⟨_, rfl⟩
  have HQ1 := Lib.hid hQ1
  rw [hQ1] at HQL HQ0
  obtain ⟨q, hq⟩ : ∃ q, U / yh = q := ⟨_, rfl⟩
  have hg := HG.out
  rw [hq] at hg
  have hq0 := hg.q0
  have hq1 := hg.q1
  obtain ⟨m, hm⟩ : ∃ m, q * yh = m := ⟨_, rfl⟩
  have hsum := hg.sum
  have hrh0 := hg.rh0
  have hrh1 := hg.rh1
  rw [hm] at hg hsum hrh0 hrh1
  have HG1 := Lib.hid hg
  have hm0 : 0 ≤ m := by rw [← hm]; exact Int.mul_nonneg hq0 (by omega)
  clear hg HG hQ1
  go_enter Try.func31, Try.ntmps31
  go_upto_block 0 with (first | (go_at_call 32; refine HL.out.mono ?_; rintro e w' ⟨rfl, rfl⟩))
  go_cut [15, 16] (fun a b wc => a = .int .u64 Q1 ∧ wc = w)
  case first =>
    go_wp2_with fail
    go_loop [15, 16] (fun a b => ∃ q r : Int, a = .int .u64 q ∧ b = .int .u64 r ∧ Hid (Dv.Guess U u1 Y yh yl q r)) (fun a _ => (intOf a).toNat)
    case atStart => exact ⟨q, U - m, u64_eq hq, (by first | rfl | exact u64_eq (start_wrap U m _ (by omega) (by omega) rfl hrh0 hrh1)), HG1.out⟩
    case round =>
      clear hq hm HG1 hsum hrh0 hrh1 hq0 hq1 hm0
      obtain ⟨q, r, rfl, rfl, G⟩ := hrel
      have b1 := G.out.q0
      have b2 := G.out.q1
      have b3 := G.out.rh0
      have b4 := G.out.rh1
      have HH := Lib.hid (Dv.guess_high (show 0 < Y by omega) hYY.out (by rw [HQ1.out]; exact HQL.out) G.out)
      rw [HQ1.out] at HH
      by_cases hA : 4294967296 ≤ q
      · have hlow := HH.out (Or.inl hA)
        by_cases hr : r + yh < 4294967296
        · have HN := Lib.hid (Dv.guess_next (show 0 < yh by omega) G.out (by rw [HQ1.out]; exact hlow) (by rw [HQ1.out]; exact HQ0.out) hr)
          go_wp2
          go_round
          case rel => exact ⟨q - 1, r + yh, rfl, rfl, HN.out⟩
          case measure => simp [intOf]; omega
        · have HS := Lib.hid (Dv.guess_stop (show 0 < Y by omega) hYY.out (show 0 < yh by omega) bl0 bl1 b10 G.out (by rw [HQ1.out]; exact hlow) (by rw [HQ1.out]; exact HQ0.out) (by omega))
          rw [HQ1.out] at HS
          go_wp2
          go_meet
          exact ⟨u64_eq HS.out, rfl⟩
      · obtain ⟨m2, hm2⟩ : ∃ m2, q * yl = m2 := ⟨_, rfl⟩
        have hm20 : 0 ≤ m2 := by rw [← hm2]; exact Int.mul_nonneg b1 bl0
        have hm21 : m2 ≤ 18446744065119617025 := by
          rw [← hm2]
          have a1 : q * yl ≤ 4294967295 * yl := Int.mul_le_mul_of_nonneg_right (by omega) bl0
          omega
        by_cases hB : 4294967296 * r + u1 < m2
        · have hlow := HH.out (Or.inr (by rw [hm2]; exact hB))
          have hqpos : 1 ≤ q := by have := HQ0.out; omega
          by_cases hr : r + yh < 4294967296
          · have HN := Lib.hid (Dv.guess_next (show 0 < yh by omega) G.out (by rw [HQ1.out]; exact hlow) (by rw [HQ1.out]; exact HQ0.out) hr)
            go_wp2
            go_round
            case rel => exact ⟨q - 1, r + yh, rfl, rfl, HN.out⟩
            case measure => simp [intOf]; omega
          · have HS := Lib.hid (Dv.guess_stop (show 0 < Y by omega) hYY.out (show 0 < yh by omega) bl0 bl1 b10 G.out (by rw [HQ1.out]; exact hlow) (by rw [HQ1.out]; exact HQ0.out) (by omega))
            rw [HQ1.out] at HS
            go_wp2
            go_meet
            exact ⟨u64_eq HS.out, rfl⟩
        · have HR := Lib.hid (Dv.guess_right (show 0 < Y by omega) hYY.out G.out (by rw [hm2]; omega))
          rw [HQ1.out] at HR
          go_wp2
          go_meet
          exact ⟨u64_eq HR.out, rfl⟩
  case rest =>
    obtain ⟨rfl, rfl⟩ := hcut
    clear hq hm HG1 hsum hrh0 hrh1 hq0 hq1 hm0
    have hlo := Dv.left_over (u := u1) (show 0 < Y by omega) (show Y < 18446744073709551616 by omega) HQ1.out.symm
    obtain ⟨P, hP⟩ : ∃ P, Q1 * Y = P := ⟨_, rfl⟩
    rw [hP] at hlo
    obtain ⟨r1, hr1⟩ : ∃ r, U * 4294967296 + u1 - P = r := ⟨_, rfl⟩
    rw [hr1] at hlo
    have e9 := left_wrap U u1 P r1 hr1 hlo.1 (by omega)
    have HR1 := Lib.hid hr1
    clear hr1
    have HG := Lib.hid (Dv.guess_start (u := u0) hYY.out bh0 bh1 bl0 bl1 hlo.1 hlo.2 b00 b01)
    have HKL := Lib.hid (Dv.quo_lt hlo.1 hlo.2 b00 b01)
    have HK0 := Lib.hid (Dv.quo_nonneg (u := u0) hlo.1 hlo.2 b00)
    have hQ1a := HQL.out
    have hQ1b := HQ0.out
    obtain ⟨Q0, hK1⟩ : ∃ q, (r1 * 4294967296 + u0) / Y = q := ⟨_, rfl⟩
    have HK1 := Lib.hid hK1
    rw [hK1] at HKL HK0
    obtain ⟨q, hq⟩ : ∃ q, r1 / yh = q := ⟨_, rfl⟩
    have hg := HG.out
    rw [hq] at hg
    have hq0 := hg.q0
    have hq1 := hg.q1
    obtain ⟨m, hm⟩ : ∃ m, q * yh = m := ⟨_, rfl⟩
    have hsum := hg.sum
    have hrh0 := hg.rh0
    have hrh1 := hg.rh1
    rw [hm] at hg hsum hrh0 hrh1
    have HG1 := Lib.hid hg
    have hm0 : 0 ≤ m := by rw [← hm]; exact Int.mul_nonneg hq0 (by omega)
    clear hg HG hK1
    go_upto_block 2 with fail
    go_cut [18, 16] (fun a b wx => a = .int .u64 Q0 ∧ wx = wc)
    case first =>
      go_wp2_with fail
      go_loop [18, 16] (fun a b => ∃ q r : Int, a = .int .u64 q ∧ b = .int .u64 r ∧ Hid (Dv.Guess r1 u0 Y yh yl q r)) (fun a _ => (intOf a).toNat)
      case atStart => exact ⟨q, r1 - m, u64_eq hq, (by first | rfl | exact u64_eq (start_wrap r1 m _ (by omega) (by omega) rfl hrh0 hrh1)), HG1.out⟩
      case round =>
        clear hq hm HG1 hsum hrh0 hrh1 hq0 hq1 hm0
        obtain ⟨q, r, rfl, rfl, G⟩ := hrel
        have b1 := G.out.q0
        have b2 := G.out.q1
        have b3 := G.out.rh0
        have b4 := G.out.rh1
        have HH := Lib.hid (Dv.guess_high (show 0 < Y by omega) hYY.out (by rw [HK1.out]; exact HKL.out) G.out)
        rw [HK1.out] at HH
        by_cases hA : 4294967296 ≤ q
        · have hlow := HH.out (Or.inl hA)
          by_cases hr : r + yh < 4294967296
          · have HN := Lib.hid (Dv.guess_next (show 0 < yh by omega) G.out (by rw [HK1.out]; exact hlow) (by rw [HK1.out]; exact HK0.out) hr)
            go_wp2
            go_round
            case rel => exact ⟨q - 1, r + yh, rfl, rfl, HN.out⟩
            case measure => simp [intOf]; omega
          · have HS := Lib.hid (Dv.guess_stop (show 0 < Y by omega) hYY.out (show 0 < yh by omega) bl0 bl1 b00 G.out (by rw [HK1.out]; exact hlow) (by rw [HK1.out]; exact HK0.out) (by omega))
            rw [HK1.out] at HS
            go_wp2
            go_meet
            exact ⟨u64_eq HS.out, rfl⟩
        · obtain ⟨m2, hm2⟩ : ∃ m2, q * yl = m2 := ⟨_, rfl⟩
          have hm20 : 0 ≤ m2 := by rw [← hm2]; exact Int.mul_nonneg b1 bl0
          have hm21 : m2 ≤ 18446744065119617025 := by
            rw [← hm2]
            have a1 : q * yl ≤ 4294967295 * yl := Int.mul_le_mul_of_nonneg_right (by omega) bl0
            omega
          by_cases hB : 4294967296 * r + u0 < m2
          · have hlow := HH.out (Or.inr (by rw [hm2]; exact hB))
            have hqpos : 1 ≤ q := by have := HK0.out; omega
            by_cases hr : r + yh < 4294967296
            · have HN := Lib.hid (Dv.guess_next (show 0 < yh by omega) G.out (by rw [HK1.out]; exact hlow) (by rw [HK1.out]; exact HK0.out) hr)
              go_wp2
              go_round
              case rel => exact ⟨q - 1, r + yh, rfl, rfl, HN.out⟩
              case measure => simp [intOf]; omega
            · have HS := Lib.hid (Dv.guess_stop (show 0 < Y by omega) hYY.out (show 0 < yh by omega) bl0 bl1 b00 G.out (by rw [HK1.out]; exact hlow) (by rw [HK1.out]; exact HK0.out) (by omega))
              rw [HK1.out] at HS
              go_wp2
              go_meet
              exact ⟨u64_eq HS.out, rfl⟩
          · have HR := Lib.hid (Dv.guess_right (show 0 < Y by omega) hYY.out G.out (by rw [hm2]; omega))
            rw [HK1.out] at HR
            go_wp2
            go_meet
            exact ⟨u64_eq HR.out, rfl⟩
    case rest =>
      obtain ⟨rfl, rfl⟩ := hcut
      clear hq hm HG1 hsum hrh0 hrh1 hq0 hq1 hm0
      have hlo2 := Dv.left_over (u := u0) (show 0 < Y by omega) (show Y < 18446744073709551616 by omega) HK1.out.symm
      have hK1a := HKL.out
      have hK1b := HK0.out
      obtain ⟨P0, hP0⟩ : ∃ P, Q0 * Y = P := ⟨_, rfl⟩
      rw [hP0] at hlo2
      obtain ⟨r2, hr2⟩ : ∃ r, r1 * 4294967296 + u0 - P0 = r := ⟨_, rfl⟩
      rw [hr2] at hlo2
      have e10 := left_wrap r1 u0 P0 r2 hr2 hlo2.1 (by omega)
      have HR2 := Lib.hid hr2
      have HP := Lib.hid hP
      have HP0 := Lib.hid hP0
      clear hr2
      go_wp2
      go_ret2
      refine ⟨Q1, Q0, r1, r2, rfl, rfl, ?_, ?_, hlo2.1, hlo2.2⟩
      · rw [HP.out]; have := HR1.out; omega
      · rw [HP0.out]; have := HR2.out; omega
end Go.Proofs.Ytfhdibankkokoaa
namespace Go.Proofs.Ytfhdibankkokoaa
open Go Go.RowKit
set_option linter.unusedVariables false
theorem pow_int (s : Nat) : ((2 : Int) ^ s) = ((2 ^ s : Nat) : Int) := by simp
theorem pow_pos' (s : Nat) : (0 : Int) < 2 ^ s := by rw [pow_int]; have := Nat.two_pow_pos s; omega
theorem pow_split (s : Nat) (hs : s ≤ 64) : (2 : Int) ^ (64 - s) * 2 ^ s = 18446744073709551616 := by
  rw [← Int.pow_add, show 64 - s + s = 64 by omega]; rfl
theorem shift_split (lo : Int) (s : Nat) (h0 : 0 ≤ lo) (h1 : lo ≤ 18446744073709551615) (hs : s ≤ 64) :
    lo * 2 ^ s = lo / 2 ^ (64 - s) * 18446744073709551616 + (lo * 2 ^ s) % 18446744073709551616 ∧ 0 ≤ lo / 2 ^ (64 - s) ∧ lo / 2 ^ (64 - s) < 2 ^ s := by
  have e : (lo * 2 ^ s) / 18446744073709551616 = lo / 2 ^ (64 - s) := by
    rw [← pow_split s hs]; exact Int.mul_ediv_mul_of_pos_left _ _ (pow_pos' s)
  refine ⟨?_, Int.ediv_nonneg h0 (Int.le_of_lt (pow_pos' _)), ?_⟩
  · rw [← e]; have := Int.mul_ediv_add_emod (lo * 2 ^ s) 18446744073709551616; omega
  · apply Int.ediv_lt_of_lt_mul (pow_pos' _)
    rw [Int.mul_comm, pow_split s hs]; omega
theorem len_facts (y : Int) (h0 : 0 < y) (h1 : y ≤ 18446744073709551615) : ∃ s : Nat, (64 - (Lib.bitLen y.toNat : Int)) = s ∧ s ≤ 63 ∧ 9223372036854775808 ≤ y * 2 ^ s ∧ y * 2 ^ s ≤ 18446744073709551615 := by
  obtain ⟨n, rfl⟩ : ∃ n : Nat, y = n := ⟨y.toNat, by omega⟩
  have hb := Lib.bitLenAux_bounds 64 n (by omega) (by omega)
  change 1 ≤ Lib.bitLen n ∧ 2 ^ (Lib.bitLen n - 1) ≤ n ∧ n < 2 ^ Lib.bitLen n at hb
  have hl := Lib.bitLen_le n 64 (by omega) (by omega)
  rw [Int.toNat_natCast]
  obtain ⟨L, hL⟩ : ∃ L, Lib.bitLen n = L := ⟨_, rfl⟩
  rw [hL] at hb hl ⊢
  refine ⟨64 - L, by omega, by omega, ?_, ?_⟩
  · have a1 : 2 ^ (L - 1) * 2 ^ (64 - L) ≤ n * 2 ^ (64 - L) := Nat.mul_le_mul_right _ hb.2.1
    rw [← Nat.pow_add, show L - 1 + (64 - L) = 63 by omega] at a1
    have a4 := Int.ofNat_le.2 a1
    rw [Int.natCast_mul] at a4
    rw [pow_int]; omega
  · have a1 : (n + 1) * 2 ^ (64 - L) ≤ 2 ^ L * 2 ^ (64 - L) := Nat.mul_le_mul_right _ hb.2.2
    rw [← Nat.pow_add, show L + (64 - L) = 64 by omega, Nat.add_mul] at a1
    have a2 := Nat.two_pow_pos (64 - L)
    have a3 : n * 2 ^ (64 - L) ≤ 18446744073709551615 := by omega
    have a4 := Int.ofNat_le.2 a3
    rw [Int.natCast_mul] at a4
    rw [pow_int]; omega
theorem wraps_u64 (n : Int) (h₀ : 0 ≤ n) (h₁ : n < 2 ^ 64) : IntKind.u64.wrap n = n := by rw [wrap_u64]; omega
theorem u64_mask32 (x : Int) (h0 : 0 ≤ x) (h1 : x ≤ 18446744073709551615) : bits .and .u64 x 4294967295 = x % 4294967296 := by
  have := bits_mask .u64 64 (by decide) wraps_u64 32 (by decide) x h0 (by omega)
  simpa using this
theorem div64_any (hi lo y : Int) (w : World) (hh0 : 0 ≤ hi) (hh1 : hi < y) (h0 : 0 ≤ lo) (h1 : lo ≤ 18446744073709551615) (hy1 : y ≤ 18446744073709551615) :
    Calls Try.prog 31 #[.int .u64 hi, .int .u64 lo, .int .u64 y] w fun e w' => e = .returned (.tuple #[.int .u64 ((hi * 18446744073709551616 + lo) / y), .int .u64 ((hi * 18446744073709551616 + lo) % y)]) ∧ ∃ n, w' = w.drewN n := by
  by_cases hz : hi = 0
  · subst hz
    rw [Int.zero_mul, Int.zero_add]
    exact div64_low lo y w h0 h1 hh1 hy1
  · obtain ⟨s, e1, e2, e3, e4⟩ := len_facts y (by omega) hy1
    have hp := pow_pos' s
    have hsp := shift_split lo s h0 h1 (by omega)
    have hH1 : hi * 2 ^ s ≤ (y - 1) * 2 ^ s := Int.mul_le_mul_of_nonneg_right (by omega) (Int.le_of_lt hp)
    rw [Int.sub_mul, Int.one_mul] at hH1
    have hH0 : 0 ≤ hi * 2 ^ s := Int.mul_nonneg hh0 (Int.le_of_lt hp)
    have eH : IntKind.u64.wrap (hi * 2 ^ s) = hi * 2 ^ s := by rw [wrap_u64]; omega
    have hL64 : (2 : Int) ^ s ≤ 2 ^ 63 := by rw [pow_int, pow_int]; exact_mod_cast Nat.pow_le_pow_right (by omega) e2
    have eU : bits .or .u64 (hi * 2 ^ s) (lo / 2 ^ (64 - s)) = hi * 2 ^ s + lo / 2 ^ (64 - s) :=
      bits_join .u64 64 (by decide) wraps_u64 s _ _ hH0 (Int.mul_emod_left _ _) (by omega) hsp.2.1 hsp.2.2 (by omega)
    have eX : IntKind.u64.wrap (lo * 2 ^ s) = (lo * 2 ^ s) % 18446744073709551616 := wrap_u64 _
    obtain ⟨X, hX⟩ : ∃ X, (lo * 2 ^ s) % 18446744073709551616 = X := ⟨_, rfl⟩
    have hX0 : 0 ≤ X ∧ X ≤ 18446744073709551615 := by omega
    rw [hX] at eX hsp
    have hN : (hi * 18446744073709551616 + lo) * 2 ^ s = (hi * 2 ^ s + lo / 2 ^ (64 - s)) * 18446744073709551616 + X := by
      rw [Int.add_mul, Int.add_mul, hsp.1, Int.mul_assoc, Int.mul_comm 18446744073709551616, ← Int.mul_assoc]; omega
    refine (div64_high hi lo y s w h0 h1 (by omega) hh1 hy1 e1 e2 (y * 2 ^ s) rfl e3 e4 (hi * 2 ^ s) (lo / 2 ^ (64 - s)) (hi * 2 ^ s + lo / 2 ^ (64 - s)) X (y * 2 ^ s / 4294967296) (y * 2 ^ s % 4294967296) (X / 4294967296) (X % 4294967296)
      eH rfl eU eX rfl (u64_mask32 _ (by omega) e4) rfl (u64_mask32 _ hX0.1 hX0.2) (by omega) (by omega) (by omega) (by omega) (by omega) (by omega) (by omega) (by omega) (by omega) (by omega) (by show _ = _; omega)).mono ?_
    rintro e w' ⟨Q1, Q0, r1, r2, rfl, rfl, h2, h3, h4, h5⟩
    have hw := Dv.whole (N := hi * 18446744073709551616 + lo) (y := y) (p := 2 ^ s) (Q1 := Q1) (Q0 := Q0) (r1 := r1) (r2 := r2) (U := hi * 2 ^ s + lo / 2 ^ (64 - s)) (u1 := X / 4294967296) (u0 := X % 4294967296) hp (by omega) (by rw [hN]; omega) h2 h3 h4 h5
    exact ⟨by rw [hw.1, hw.2], 0, rfl⟩
end Go.Proofs.Ytfhdibankkokoaa
namespace Go.Proofs.Ytfhdibankkokoaa
open Go Go.RowKit
set_option linter.unusedVariables false
def absI (a : Int) : Int := if a < 0 then -a else a
theorem absI_pos (a : Int) : 0 ≤ absI a := by unfold absI; split <;> omega
theorem ret_u64 {a b : Int} (h : a = b) : Ending.returned (.int .u64 a) = .returned (.int .u64 b) := by rw [h]
theorem ret_bool {a b : Bool} (h : a = b) : Ending.returned (.bool a) = .returned (.bool b) := by rw [h]
theorem size_any (a : Int) (w : World) (h0 : -9223372036854775808 ≤ a) (h1 : a ≤ 9223372036854775807) : Calls Try.prog 29 #[.int .i64 a] w fun e w' => e = .returned (.int .u64 (absI a)) ∧ w = w' := by
  have HA := Lib.hid (show (a < 0 → IntKind.u64.wrap (-IntKind.u64.wrap a) = absI a) ∧ (0 ≤ a → IntKind.u64.wrap a = absI a) by
    unfold absI; rw [wrap_u64, wrap_u64]; split <;> omega)
  by_cases h : a < 0
  · have e := HA.out.1 h
    go_enter Try.func29, Try.ntmps29
    go_wp2
    go_ret
    exact ⟨rfl, rfl⟩
  · have e := HA.out.2 (by omega)
    have HE := Lib.hid (show a = absI a by unfold absI; rw [if_neg h])
    go_enter Try.func29, Try.ntmps29
    go_wp2
    go_ret
    exact ⟨ret_u64 (by first | rfl | exact e | exact HE.out), rfl⟩
theorem mul64_any (a b : Int) (w : World) (ha0 : 0 ≤ a) (ha1 : a ≤ 18446744073709551615) (hb0 : 0 ≤ b) (hb1 : b ≤ 18446744073709551615) :
    Calls Try.prog 28 #[.int .u64 a, .int .u64 b] w fun e w' => e = .returned (.tuple #[.int .u64 (a * b / 18446744073709551616), .int .u64 (a * b % 18446744073709551616)]) ∧ w = w' := by
  obtain ⟨n, rfl⟩ : ∃ n : Nat, a = n := ⟨a.toNat, by omega⟩
  obtain ⟨m, rfl⟩ : ∃ n : Nat, b = n := ⟨b.toNat, by omega⟩
  refine (Try.bits_Mul64 n m (by omega) (by omega) w).mono ?_
  rintro e w' ⟨rfl, rfl⟩
  exact ⟨by simp, rfl⟩
def belowB (a b c : Int) : Bool := (((decide (a < 0) != decide (b < 0)) != decide (c < 0)) && a != 0) && b != 0
set_option maxHeartbeats 1000000 in
theorem below_any (a b c : Int) (B : Nat) (w : World) (ca : w.cell? ⟨B, 0, none⟩ = some (.int .i64 a)) (cb : w.cell? ⟨B + 1, 0, none⟩ = some (.int .i64 b)) (cc : w.cell? ⟨B + 2, 0, none⟩ = some (.int .i64 c)) :
    Calls Try.prog 30 #[.pointer (some ⟨B, 0, none⟩), .pointer (some ⟨B + 1, 0, none⟩), .pointer (some ⟨B + 2, 0, none⟩)] w fun e w' => e = .returned (.bool (belowB a b c)) ∧ w = w' := by
  by_cases ha : a < 0 <;> by_cases hb : b < 0 <;> by_cases hc : c < 0
  all_goals
    first
    | have dA := Lib.hid (show decide (a < 0) = true from decide_eq_true ha)
    | have dA := Lib.hid (show decide (a < 0) = false from decide_eq_false ha)
    first
    | have dB := Lib.hid (show decide (b < 0) = true from decide_eq_true hb)
    | have dB := Lib.hid (show decide (b < 0) = false from decide_eq_false hb)
    first
    | have dC := Lib.hid (show decide (c < 0) = true from decide_eq_true hc)
    | have dC := Lib.hid (show decide (c < 0) = false from decide_eq_false hc)
    go_enter Try.func30, Try.ntmps30
    go_wp2
    all_goals go_ret
    all_goals exact ⟨ret_bool (by first | rfl | (unfold belowB; rw [dA.out, dB.out, dC.out]; first | rfl | (simp; done)) | (unfold belowB; simp; done)), rfl⟩
end Go.Proofs.Ytfhdibankkokoaa
namespace Go.Proofs.Ytfhdibankkokoaa
open Go Go.RowKit
set_option linter.unusedVariables false
def mdv (a b c : Int) : Int × Int :=
  if absI c ≤ absI a * absI b / 18446744073709551616 then (0, 8)
  else if belowB a b c = false then
    if 9223372036854775807 < absI a * absI b / absI c then (0, 8) else (absI a * absI b / absI c, 0)
  else if absI a * absI b % absI c = 0 then
    if absI a * absI b / absI c = 0 ∨ 9223372036854775808 < absI a * absI b / absI c then (0, 8) else (-(absI a * absI b / absI c), 0)
  else if 9223372036854775808 < absI a * absI b / absI c + 1 then (0, 8) else (-(absI a * absI b / absI c + 1), 0)
theorem mdv_eq (a b c : Int) : mdv a b c =
  (if absI c ≤ absI a * absI b / 18446744073709551616 then (0, 8)
    else if belowB a b c = false then
      if 9223372036854775807 < absI a * absI b / absI c then (0, 8) else (absI a * absI b / absI c, 0)
    else if absI a * absI b % absI c = 0 then
      if absI a * absI b / absI c = 0 ∨ 9223372036854775808 < absI a * absI b / absI c then (0, 8) else (-(absI a * absI b / absI c), 0)
    else if 9223372036854775808 < absI a * absI b / absI c + 1 then (0, 8) else (-(absI a * absI b / absI c + 1), 0)) := rfl
def own4 (w : World) (a b c p q : Int) : World := (((w.alloc (.cells #[.int .i64 a] 2)).alloc (.cells #[.int .i64 b] 2)).alloc (.cells #[.int .i64 c] 2)).alloc (.cells #[.int .u64 p, .int .u64 q] 57)
theorem own4_cells (w : World) (a b c p q : Int) : (own4 w a b c p q).cell? ⟨w.heap.size, 0, none⟩ = some (.int .i64 a) ∧ (own4 w a b c p q).cell? ⟨w.heap.size + 1, 0, none⟩ = some (.int .i64 b) ∧
    (own4 w a b c p q).cell? ⟨w.heap.size + 2, 0, none⟩ = some (.int .i64 c) ∧ (own4 w a b c p q).cell? ⟨w.heap.size + 3, 0, none⟩ = some (.int .u64 p) ∧ (own4 w a b c p q).cell? ⟨w.heap.size + 3, 1, none⟩ = some (.int .u64 q) := by
  unfold own4
  refine ⟨?_, ?_, ?_, ?_, ?_⟩
  · rw [World.cell?_alloc_past _ _ _ (by simp <;> omega), World.cell?_alloc_past _ _ _ (by simp <;> omega), World.cell?_alloc_past _ _ _ (by simp), World.cell?_alloc_at _ _ _ _ rfl]; rfl
  · rw [World.cell?_alloc_past _ _ _ (by simp <;> omega), World.cell?_alloc_past _ _ _ (by simp), World.cell?_alloc_at _ _ _ _ (by simp)]; rfl
  · rw [World.cell?_alloc_past _ _ _ (by simp), World.cell?_alloc_at _ _ _ _ (by simp)]; rfl
  · rw [World.cell?_alloc_at _ _ _ _ (by simp)]; rfl
  · rw [World.cell?_alloc_at _ _ _ _ (by simp)]; rfl
theorem own4_below (w : World) (a b c p q : Int) : Below w.heap.size w (own4 w a b c p q) :=
  ((((Below.refl _ _).alloc (Nat.le_refl _) _).alloc (by simp) _).alloc (by simp; omega) _).alloc (by simp; omega) _
theorem below_drewN {B : Nat} {a w : World} (h : Below B a w) (n : Nat) : Below B a (w.drewN n) := ⟨h.os, h.tape, h.output, h.size, h.block⟩
theorem neg_conv (q : Int) (h0 : 0 < q) (h1 : q ≤ 9223372036854775808) : wrap64 (IntKind.u64.wrap (-q)) = -q := by
  rw [wrap_u64]; unfold wrap64; omega
theorem muldiv_zero (a b : Int) (w : World) : Calls Try.prog 23 #[.int .i64 a, .int .i64 b, .int .i64 0] w fun e w' => e = .returned (.tuple #[.int .i64 0, .int .i64 9]) ∧ Below w.heap.size w w' := by
  go_enter Try.func23, Try.ntmps23
  go_wp2
  go_ret2
  exact ⟨rfl, (((Below.refl _ _).alloc (Nat.le_refl _) _).alloc (by simp) _).alloc (by simp; omega) _⟩
set_option maxHeartbeats 4000000 in
theorem muldiv_walk (a b c : Int) (w : World) (hc : c ≠ 0) (ha0 : -9223372036854775808 ≤ a) (ha1 : a ≤ 9223372036854775807) (hb0 : -9223372036854775808 ≤ b) (hb1 : b ≤ 9223372036854775807) (hc0 : -9223372036854775808 ≤ c) (hc1 : c ≤ 9223372036854775807) :
    Calls Try.prog 23 #[.int .i64 a, .int .i64 b, .int .i64 c] w fun e w' => e = .returned (.tuple #[.int .i64 (mdv a b c).1, .int .i64 (mdv a b c).2]) ∧ Below w.heap.size w w' := by
  have hne : ((c : Int) == 0) = false := by simpa using hc
  have HA := Lib.hid (fun w => size_any a w ha0 ha1)
  have HB := Lib.hid (fun w => size_any b w hb0 hb1)
  have HC := Lib.hid (fun w => size_any c w hc0 hc1)
  have A0 := absI_pos a
  have B0 := absI_pos b
  have C0 : 0 < absI c := by unfold absI; split <;> omega
  have A1 : absI a ≤ 9223372036854775808 := by unfold absI; split <;> omega
  have B1 : absI b ≤ 9223372036854775808 := by unfold absI; split <;> omega
  have C1 : absI c ≤ 9223372036854775808 := by unfold absI; split <;> omega
  have HM := Lib.hid (fun w => mul64_any (absI a) (absI b) w A0 (by omega) B0 (by omega))
  have HR := Lib.hid (mdv_eq a b c)
  have N0 : 0 ≤ absI a * absI b := Int.mul_nonneg A0 B0
  have HBB := Lib.hid (fun w => below_any a b c w)
  clear A0 B0 A1 B1
  obtain ⟨x, hx⟩ : ∃ x, absI a = x := ⟨_, rfl⟩
  obtain ⟨y, hy⟩ : ∃ x, absI b = x := ⟨_, rfl⟩
  obtain ⟨d, hd⟩ : ∃ x, absI c = x := ⟨_, rfl⟩
  obtain ⟨bb, hbb⟩ : ∃ x, belowB a b c = x := ⟨_, rfl⟩
  rw [hx, hy, hd, hbb] at HR
  rw [hbb] at HBB
  rw [hx, hy] at N0
  rw [hx] at HA HM
  rw [hy] at HB HM
  rw [hd] at HC C0 C1
  obtain ⟨N, hN⟩ : ∃ z, x * y = z := ⟨_, rfl⟩
  rw [hN] at HR HM N0
  have HDV := Lib.hid (fun (h : N / 18446744073709551616 < d) w => div64_any (N / 18446744073709551616) (N % 18446744073709551616) d w (by omega) h (by omega) (by omega) (by omega))
  rw [show N / 18446744073709551616 * 18446744073709551616 + N % 18446744073709551616 = N by omega] at HDV
  have hQ0 : 0 ≤ N / d := Int.ediv_nonneg N0 (by omega)
  have HQR := Lib.hid (show (N / 18446744073709551616 < d → N / d < 18446744073709551616) ∧ 0 ≤ N % d ∧ N % d < d from
    ⟨fun h => Int.ediv_lt_of_lt_mul C0 (by omega), Int.emod_nonneg _ (by omega), Int.emod_lt_of_pos _ C0⟩)
  obtain ⟨Q, hQ⟩ : ∃ z, N / d = z := ⟨_, rfl⟩
  obtain ⟨R, hR⟩ : ∃ z, N % d = z := ⟨_, rfl⟩
  rw [hQ, hR] at HR HDV HQR
  rw [hQ] at hQ0
  have hp0 : 0 ≤ N / 18446744073709551616 := by omega
  have hq0 : 0 ≤ N % 18446744073709551616 ∧ N % 18446744073709551616 ≤ 18446744073709551615 := by omega
  obtain ⟨p, hp⟩ : ∃ z, N / 18446744073709551616 = z := ⟨_, rfl⟩
  obtain ⟨q, hq⟩ : ∃ z, N % 18446744073709551616 = z := ⟨_, rfl⟩
  rw [hp, hq] at HM
  rw [hp] at HR HDV HQR hp0
  rw [hq] at HDV hq0
  have OC := Lib.hid (own4_cells w a b c p q)
  have OB := Lib.hid (own4_below w a b c p q)
  clear hx hy hp hq hQ hR hN hd hbb hc N0
  have hmf : ∀ (fn : Fn) (first cap : Array Value) (w : World), (Instr.makeFunc fn first cap).run Try.prog w = .ok (.func fn first cap) w := fun _ _ _ _ => rfl
  go_enter Try.func23, Try.ntmps23
  go_upto_region 4 with fail
  go_cut [8] (fun s wx => s = .pointer (some ⟨w.heap.size + 3, 0, none⟩) ∧ ∃ n, wx = (own4 w a b c p q).drewN n)
  case first =>
    go_region_with (first
      | (go_at_call 29; (first | (with_reducible refine (HA.out _).mono ?_) | (with_reducible refine (HB.out _).mono ?_)); rintro e w' ⟨rfl, rfl⟩)
      | (go_at_call 28; refine (HM.out _).mono ?_; rintro e w' ⟨rfl, rfl⟩))
    all_goals (go_wp2_with fail; go_meet; exact ⟨rfl, _, rfl⟩)
  case rest =>
    obtain ⟨rfl, n, rfl⟩ := hcut
    obtain ⟨ca, cb, cc, cp, cq⟩ := OC.out
    have OCC := Lib.hid (fun m => HBB.out w.heap.size ((own4 w a b c p q).drewN m) ca cb cc)
    by_cases h1 : d ≤ p
    · have hr := HR.out
      rw [if_pos h1] at hr
      have HF := Lib.hid hr
      clear hr
      go_wp2_with (first | (go_at_call 29; refine (HC.out _).mono ?_; rintro e w' ⟨rfl, rfl⟩))
      go_ret2
      exact ⟨by rw [HF.out]; rfl, below_drewN OB.out _⟩
    · have hlt : p < d := by omega
      have hQ1 := HQR.out.1 hlt
      have hR0 := HQR.out.2.1
      have hR1 := HQR.out.2.2
      have HD := Lib.hid (HDV.out hlt)
      have hr := HR.out
      rw [if_neg h1] at hr
      clear HDV HR h1
      cases bb with
      | false =>
        rw [if_pos rfl] at hr
        by_cases h2 : 9223372036854775807 < Q
        · rw [if_pos h2] at hr
          have HF := Lib.hid hr
          clear hr
          go_wp2_with (first | (go_at_call 29; refine (HC.out _).mono ?_; rintro e w' ⟨rfl, rfl⟩) | (go_at_call 31; refine (HD.out _).mono ?_; rintro e w' ⟨rfl, k, rfl⟩) | (go_at_call 30; refine (OCC.out _).mono ?_; rintro e w' ⟨rfl, rfl⟩))
          go_ret2
          exact ⟨by rw [HF.out]; rfl, below_drewN OB.out _⟩
        · rw [if_neg h2] at hr
          have HF := Lib.hid hr
          clear hr
          go_wp2_with (first | (go_at_call 29; refine (HC.out _).mono ?_; rintro e w' ⟨rfl, rfl⟩) | (go_at_call 31; refine (HD.out _).mono ?_; rintro e w' ⟨rfl, k, rfl⟩) | (go_at_call 30; refine (OCC.out _).mono ?_; rintro e w' ⟨rfl, rfl⟩))
          go_ret2
          exact ⟨by rw [HF.out]; rfl, below_drewN OB.out _⟩
      | true =>
        rw [if_neg (by decide)] at hr
        by_cases hz : R = 0
        · rw [if_pos hz] at hr
          have hz1 : ((R : Int) != 0) = false := by simp [hz]
          clear hz
          by_cases hq1 : Q = 0
          · have hq2 : ((Q : Int) == 0) = true := by simp [hq1]
            rw [if_pos (Or.inl hq1)] at hr
            have HF := Lib.hid hr
            clear hr
            clear hq1
            go_wp2_with (first | (go_at_call 29; refine (HC.out _).mono ?_; rintro e w' ⟨rfl, rfl⟩) | (go_at_call 31; refine (HD.out _).mono ?_; rintro e w' ⟨rfl, k, rfl⟩) | (go_at_call 30; refine (OCC.out _).mono ?_; rintro e w' ⟨rfl, rfl⟩))
            go_ret2
            exact ⟨by rw [HF.out]; rfl, below_drewN OB.out _⟩
          · have hq2 : ((Q : Int) == 0) = false := by simpa using hq1
            by_cases hq3 : 9223372036854775808 < Q
            · rw [if_pos (Or.inr hq3)] at hr
              have HF := Lib.hid hr
              clear hr
              clear hq1
              go_wp2_with (first | (go_at_call 29; refine (HC.out _).mono ?_; rintro e w' ⟨rfl, rfl⟩) | (go_at_call 31; refine (HD.out _).mono ?_; rintro e w' ⟨rfl, k, rfl⟩) | (go_at_call 30; refine (OCC.out _).mono ?_; rintro e w' ⟨rfl, rfl⟩))
              go_ret2
              exact ⟨by rw [HF.out]; rfl, below_drewN OB.out _⟩
            · rw [if_neg (by omega)] at hr
              have HF := Lib.hid hr
              have hng := neg_conv Q (by omega) (by omega)
              clear hr hq1
              go_wp2_with (first | (go_at_call 29; refine (HC.out _).mono ?_; rintro e w' ⟨rfl, rfl⟩) | (go_at_call 31; refine (HD.out _).mono ?_; rintro e w' ⟨rfl, k, rfl⟩) | (go_at_call 30; refine (OCC.out _).mono ?_; rintro e w' ⟨rfl, rfl⟩))
              go_ret2
              exact ⟨by rw [HF.out]; first | rfl | (rw [hng]; rfl), below_drewN OB.out _⟩
        · rw [if_neg hz] at hr
          have hz1 : ((R : Int) != 0) = true := by simpa using hz
          clear hz
          by_cases hq3 : 9223372036854775808 < Q + 1
          · rw [if_pos hq3] at hr
            have HF := Lib.hid hr
            clear hr
            have hw : IntKind.u64.wrap (Q + 1) = 0 ∨ 9223372036854775808 < IntKind.u64.wrap (Q + 1) := by rw [wrap_u64]; omega
            obtain ⟨z, hz⟩ : ∃ z, IntKind.u64.wrap (Q + 1) = z := ⟨_, rfl⟩
            rw [hz] at hw
            have hz0 : 0 ≤ z := by rw [← hz, wrap_u64]; omega
            rcases hw with rfl | hw
            all_goals
              go_wp2_with (first | (go_at_call 29; refine (HC.out _).mono ?_; rintro e w' ⟨rfl, rfl⟩) | (go_at_call 31; refine (HD.out _).mono ?_; rintro e w' ⟨rfl, k, rfl⟩) | (go_at_call 30; refine (OCC.out _).mono ?_; rintro e w' ⟨rfl, rfl⟩))
              go_ret2
              exact ⟨by rw [HF.out]; rfl, below_drewN OB.out _⟩
          · rw [if_neg hq3] at hr
            have HF := Lib.hid hr
            have hng := neg_conv (Q + 1) (by omega) (by omega)
            have hq4 : (((Q + 1 : Int)) == 0) = false := by simp; omega
            clear hr
            go_wp2_with (first | (go_at_call 29; refine (HC.out _).mono ?_; rintro e w' ⟨rfl, rfl⟩) | (go_at_call 31; refine (HD.out _).mono ?_; rintro e w' ⟨rfl, k, rfl⟩) | (go_at_call 30; refine (OCC.out _).mono ?_; rintro e w' ⟨rfl, rfl⟩))
            go_ret2
            exact ⟨by rw [HF.out]; first | rfl | (rw [hng]; rfl), below_drewN OB.out _⟩
end Go.Proofs.Ytfhdibankkokoaa
namespace Go.Proofs.Ytfhdibankkokoaa
open Go Go.RowKit
set_option linter.unusedVariables false
def flr (n c : Int) : Int := if 0 < c then n / c else (-n) / (-c)
def fits (z : Int) : Prop := -9223372036854775808 ≤ z ∧ z ≤ 9223372036854775807
instance (z : Int) : Decidable (fits z) := by unfold fits; infer_instance
def fitted (z : Int) : Int × Int := if fits z then (z, 0) else (0, 8)
theorem fitted_in {z : Int} (h : fits z) : fitted z = (z, 0) := if_pos h
theorem fitted_out {z : Int} (h : ¬ fits z) : fitted z = (0, 8) := if_neg h
def mulDiv (a b c : Int) : Int × Int := if c = 0 then (0, 9) else fitted (flr (a * b) c)
theorem neg_quo (N d : Int) (hd : 0 < d) (h0 : 0 ≤ N) : (-N) / d = if N % d = 0 then -(N / d) else -(N / d + 1) := by
  have e := Int.mul_ediv_add_emod N d
  have r0 := Int.emod_nonneg N (show d ≠ 0 by omega)
  have r1 := Int.emod_lt_of_pos N hd
  generalize N / d = Q at *
  generalize N % d = R at *
  by_cases hR : R = 0
  · rw [if_pos hR]
    exact ((Int.ediv_emod_unique hd).2 ⟨show 0 + d * -Q = -N by rw [Int.mul_neg]; omega, by omega, by omega⟩).1
  · rw [if_neg hR]
    exact ((Int.ediv_emod_unique hd).2 ⟨show d - R + d * -(Q + 1) = -N by rw [Int.mul_neg, Int.mul_add, Int.mul_one]; omega, by omega, by omega⟩).1
theorem absI_mul (a b : Int) : absI a * absI b = absI (a * b) := by
  unfold absI
  by_cases ha : a < 0
  · by_cases hb : b < 0
    · have := Int.mul_pos_of_neg_of_neg ha hb
      rw [if_pos ha, if_pos hb, if_neg (by omega), Int.neg_mul_neg]
    · rw [if_pos ha, if_neg hb, Int.neg_mul]
      by_cases hz : b = 0
      · subst hz; simp
      · have := Int.mul_neg_of_neg_of_pos ha (show 0 < b by omega)
        rw [if_pos this]
  · by_cases hb : b < 0
    · rw [if_neg ha, if_pos hb, Int.mul_neg]
      by_cases hz : a = 0
      · subst hz; simp
      · have := Int.mul_neg_of_pos_of_neg (show 0 < a by omega) hb
        rw [if_pos this]
    · have := Int.mul_nonneg (show 0 ≤ a by omega) (show 0 ≤ b by omega)
      rw [if_neg ha, if_neg hb, if_neg (by omega)]
def signed (P c : Int) : Int := if 0 < c then P else -P
theorem below_signed (a b c : Int) (hc : c ≠ 0) : belowB a b c = decide (signed (a * b) c < 0) := by
  unfold belowB signed
  by_cases ha0 : a = 0
  · subst ha0; simp
  · by_cases hb0 : b = 0
    · subst hb0; simp
    · have e1 : (a != 0) = true := by simpa using ha0
      have e2 : (b != 0) = true := by simpa using hb0
      rw [e1, e2, Bool.and_true, Bool.and_true]
      rcases Int.lt_or_gt_of_ne ha0 with ha | ha <;> rcases Int.lt_or_gt_of_ne hb0 with hb | hb
      · have p := Int.mul_pos_of_neg_of_neg ha hb
        by_cases h : 0 < c
        · rw [if_pos h, decide_eq_true ha, decide_eq_true hb, decide_eq_false (show ¬ c < 0 by omega), decide_eq_false (show ¬ a * b < 0 by omega)]; rfl
        · rw [if_neg h, decide_eq_true ha, decide_eq_true hb, decide_eq_true (show c < 0 by omega), decide_eq_true (show -(a * b) < 0 by omega)]; rfl
      · have p := Int.mul_neg_of_neg_of_pos ha hb
        by_cases h : 0 < c
        · rw [if_pos h, decide_eq_true ha, decide_eq_false (show ¬ b < 0 by omega), decide_eq_false (show ¬ c < 0 by omega), decide_eq_true (show a * b < 0 by omega)]; rfl
        · rw [if_neg h, decide_eq_true ha, decide_eq_false (show ¬ b < 0 by omega), decide_eq_true (show c < 0 by omega), decide_eq_false (show ¬ -(a * b) < 0 by omega)]; rfl
      · have p := Int.mul_neg_of_pos_of_neg ha hb
        by_cases h : 0 < c
        · rw [if_pos h, decide_eq_false (show ¬ a < 0 by omega), decide_eq_true hb, decide_eq_false (show ¬ c < 0 by omega), decide_eq_true (show a * b < 0 by omega)]; rfl
        · rw [if_neg h, decide_eq_false (show ¬ a < 0 by omega), decide_eq_true hb, decide_eq_true (show c < 0 by omega), decide_eq_false (show ¬ -(a * b) < 0 by omega)]; rfl
      · have p := Int.mul_pos ha hb
        by_cases h : 0 < c
        · rw [if_pos h, decide_eq_false (show ¬ a < 0 by omega), decide_eq_false (show ¬ b < 0 by omega), decide_eq_false (show ¬ c < 0 by omega), decide_eq_false (show ¬ a * b < 0 by omega)]; rfl
        · rw [if_neg h, decide_eq_false (show ¬ a < 0 by omega), decide_eq_false (show ¬ b < 0 by omega), decide_eq_true (show c < 0 by omega), decide_eq_true (show -(a * b) < 0 by omega)]; rfl
theorem mdv_core (M d : Int) (hd : 0 < d) (N : Int) (hN : N = absI M) :
    (if d ≤ N / 18446744073709551616 then ((0 : Int), (8 : Int))
      else if decide (M < 0) = false then if 9223372036854775807 < N / d then (0, 8) else (N / d, 0)
      else if N % d = 0 then if N / d = 0 ∨ 9223372036854775808 < N / d then (0, 8) else (-(N / d), 0)
      else if 9223372036854775808 < N / d + 1 then (0, 8) else (-(N / d + 1), 0)) = fitted (M / d) := by
  have hN0 : 0 ≤ N := by rw [hN]; exact absI_pos M
  have hQ0 : 0 ≤ N / d := Int.ediv_nonneg hN0 (by omega)
  have hbig : d ≤ N / 18446744073709551616 → 18446744073709551616 ≤ N / d := fun h => by
    apply (Int.le_ediv_iff_mul_le hd).2; omega
  by_cases hM : M < 0
  · have hM' : M = -N := by rw [hN]; unfold absI; rw [if_pos hM]; omega
    rw [hM', neg_quo N d hd hN0, ← hM', decide_eq_true hM, if_neg (show ¬ (true = false) by decide)]
    have hpos : N % d = 0 → N / d ≠ 0 := fun h1 h2 => by
      have e := Int.mul_ediv_add_emod N d
      rw [h1, h2, Int.mul_zero] at e; omega
    generalize N / d = Q at *
    generalize N % d = R at *
    by_cases h1 : d ≤ N / 18446744073709551616
    · have := hbig h1
      rw [if_pos h1]
      split <;> rw [fitted_out (by unfold fits; omega)]
    · rw [if_neg h1]
      by_cases h2 : R = 0
      · have := hpos h2
        rw [if_pos h2, if_pos h2]
        by_cases h3 : 9223372036854775808 < Q
        · rw [if_pos (Or.inr h3), fitted_out (by unfold fits; omega)]
        · rw [if_neg (by omega), fitted_in (by unfold fits; omega)]
      · rw [if_neg h2, if_neg h2]
        by_cases h3 : 9223372036854775808 < Q + 1
        · rw [if_pos h3, fitted_out (by unfold fits; omega)]
        · rw [if_neg h3, fitted_in (by unfold fits; omega)]
  · have hM' : M = N := by rw [hN]; unfold absI; rw [if_neg hM]
    rw [hM'] at hM ⊢
    rw [decide_eq_false hM, if_pos rfl]
    generalize N / d = Q at *
    by_cases h1 : d ≤ N / 18446744073709551616
    · have := hbig h1
      rw [if_pos h1, fitted_out (by unfold fits; omega)]
    · rw [if_neg h1]
      by_cases h3 : 9223372036854775807 < Q
      · rw [if_pos h3, fitted_out (by unfold fits; omega)]
      · rw [if_neg h3, fitted_in (by unfold fits; omega)]
theorem mdv_mulDiv (a b c : Int) (hc : c ≠ 0) : mdv a b c = mulDiv a b c := by
  unfold mulDiv
  rw [if_neg hc]
  have hd : 0 < absI c := by unfold absI; split <;> omega
  have e : flr (a * b) c = signed (a * b) c / absI c := by
    unfold flr signed absI
    by_cases h : 0 < c
    · rw [if_pos h, if_pos h, if_neg (by omega)]
    · rw [if_neg h, if_neg h, if_pos (by omega)]
  have eN : absI a * absI b = absI (signed (a * b) c) := by
    rw [absI_mul]; unfold signed; split
    · rfl
    · unfold absI; split <;> split <;> omega
  rw [e, mdv_eq, below_signed a b c hc]
  exact mdv_core _ _ hd _ eN
theorem mulDiv_any (a b c : Int) (w : World) (ha : fits a) (hb : fits b) (hc : fits c) :
    Calls Try.prog 23 #[.int .i64 a, .int .i64 b, .int .i64 c] w fun e w' => e = .returned (.tuple #[.int .i64 (mulDiv a b c).1, .int .i64 (mulDiv a b c).2]) ∧ Below w.heap.size w w' := by
  by_cases h : c = 0
  · subst h
    exact muldiv_zero a b w
  · rw [← mdv_mulDiv a b c h]
    exact muldiv_walk a b c w h ha.1 ha.2 hb.1 hb.2 hc.1 hc.2
end Go.Proofs.Ytfhdibankkokoaa
namespace Go.Proofs.Ytfhdibankkokoaa.MPu
open Go.RowKit Go.Proofs.YtfhdibankkokoaaW.PrintWords Go.Proofs.YtfhdibankkokoaaW.PrintLast Go.Proofs.YtfhdibankkokoaaW.PrintMore
attribute [local go_sem] max2_int min2_int max_two min_two max_three min_three max_four min_four
set_option linter.unusedVariables false
set_option linter.unusedSimpArgs false
def errW : Option Int → Value
  | none => .nilIface
  | some c => .iface 0 (.int .i64 c)
theorem errW_none : errW none = .nilIface := rfl
theorem errW_some (c : Int) : errW (some c) = .iface 0 (.int .i64 c) := rfl
theorem info23 : (Try.prog.info? 23).map (fun i => (i.zero, i.size, i.bytes)) = some (some (.agg #[(.int .i64 0), (.int .i64 0)]), 2, 16) := by kernel_rfl
structure S23 where
  f0 : Int
  f1 : Int
def z23 : S23 := ⟨(0 : Int), (0 : Int)⟩
def k23 : Kd S23 := Kd.iso (Kd.pair (Kd.int .i64) (Kd.int .i64)) (fun x : S23 => (x.f0, x.f1))
theorem k23_open {w : World} {x : S23} {cs : List Value} (h : k23.K w x cs) : cs = [.int .i64 x.f0, .int .i64 x.f1] := by
  obtain ⟨_, _, rfl, rfl, rfl⟩ := h
  exact rfl
theorem k23_mk (w : World) (x : S23)  : k23.K w x [.int .i64 x.f0, .int .i64 x.f1] := ⟨[.int .i64 x.f0], [.int .i64 x.f1], rfl, rfl, rfl⟩
theorem k23_mkM (w : World) (base : Nat) (ok : Nat → Prop) (x : S23)  : k23.M w base ok x [.int .i64 x.f0, .int .i64 x.f1] := ⟨[.int .i64 x.f0], [.int .i64 x.f1], rfl, rfl, rfl⟩
def rd_T23 (xs : List S23) (i : Int) : S23 := xs.getD i.toNat z23
theorem at_T23 {w : World} {A : Option Addr} {n : Nat} {xs : List S23} (h : Kd.C k23 w A n xs) (i : Int) (h0 : 0 ≤ i) (h1 : i < n) : ∃ ad , A = some ad ∧ w.cell? (ad.add (i.toNat * 2)) = some (.int .i64 (rd_T23 xs i).f0) ∧ w.cell? ⟨(ad.add (i.toNat * 2)).block, (ad.add (i.toNat * 2)).off + 1, none⟩ = some (.int .i64 (rd_T23 xs i).f1) := by
  obtain ⟨ad, c, e, _, hK, hc0⟩ := Kd.C_get h z23 i h0 h1
  have hc : ∀ j u, c[j]? = some u → w.cell? (ad.add (i.toNat * 2 + j)) = some u := hc0
  obtain rfl := k23_open hK
  exact ⟨ad, e, hc 0 _ rfl, by rw [← add_field _ _ 1 (by omega)]; exact hc 1 _ rfl⟩
end Go.Proofs.Ytfhdibankkokoaa.MPu
namespace Go.Proofs.Ytfhdibankkokoaa.MPu
open Go.RowKit Go.Proofs.YtfhdibankkokoaaW.PrintWords Go.Proofs.YtfhdibankkokoaaW.PrintLast Go.Proofs.YtfhdibankkokoaaW.PrintMore
attribute [local go_sem] max2_int min2_int max_two min_two max_three min_three max_four min_four
set_option linter.unusedVariables false
set_option linter.unusedSimpArgs false
noncomputable def purse_within.f (a0 : Int) (a1 : Int) : Option (Bool) := if a0 ≥ 0 then (some (decide (a0 ≤ a1))) else (some false)
set_option maxHeartbeats 8000000 in
set_option maxRecDepth 100000 in
theorem purse_within.calls (a0 : Int) (a1 : Int) (r : Bool) (w : World) (h : purse_within.f a0 a1 = some r) :
    Calls Try.prog 22 #[.int .i64 a0, .int .i64 a1] w fun e w' => e = .returned (.bool r) ∧ Drawn0 w w' := by
  have H : (if a0 ≥ 0 then (some (decide (a0 ≤ a1))) else (some false)) = some r := h
  clear h
  by_cases c3 : a0 ≥ 0
  · rw [if_pos c3] at H
    have c3b0 : decide (0 ≤ a0) = true := decide_eq_true c3
    clear c3
    obtain rfl := Option.some.inj H
    go_enter Try.func22, Try.ntmps22
    go_wp2
    go_ret
    exact ⟨by first | rfl | (simp; done) | (simp [*]; done), by repeat (first | exact Drawn0.refl _ | apply Drawn0.step)⟩
  · rw [if_neg c3] at H
    have c3b0 : decide (0 ≤ a0) = false := decide_eq_false c3
    clear c3
    obtain rfl := Option.some.inj H
    go_enter Try.func22, Try.ntmps22
    go_wp2
    go_ret
    exact ⟨by first | rfl | (simp; done) | (simp [*]; done), by repeat (first | exact Drawn0.refl _ | apply Drawn0.step)⟩
noncomputable def num_MulDiv.f (a b c : Int) : Option (Int × Int) := if fits a then (if fits b then (if fits c then some (mulDiv a b c) else none) else none) else none
theorem num_MulDiv.calls (a0 a1 a2 : Int) (r1 r2 : Int) (w : World) (h : num_MulDiv.f a0 a1 a2 = some (r1, r2)) :
    Calls Try.prog 23 #[.int .i64 a0, .int .i64 a1, .int .i64 a2] w fun e w' => e = .returned (.tuple #[.int .i64 r1, .int .i64 r2]) ∧ Below w.heap.size w w' := by
  unfold num_MulDiv.f at h
  split at h
  · split at h
    · split at h
      · rename_i h1 h2 h3
        have e := Option.some.inj h
        have c := mulDiv_any a0 a1 a2 w h1 h2 h3
        rw [e] at c
        exact c
      · cases h
    · cases h
  · cases h
noncomputable def purse_Scale.j0 : Nat → Int → Int → Bool → Option (Int × Int)
  | 0, _, _, _ => none
  | k + 1, x0, x1, x13 => if x13 = true then (some (0, 1)) else (if x0 ≥ x1 then (some (65536, 0)) else ((num_MulDiv.f x0 65536 x1).bind fun bt103 => (some (bt103.1, bt103.2))))
noncomputable def purse_Scale.f (k : Nat) (a0 : Int) (a1 : Int) : Option (Int × Int) := (purse_within.f a0 1099511627776).bind fun t101 => (if t101 = true then ((purse_within.f a1 1099511627776).bind fun t102 => (purse_Scale.j0 k a0 a1 (!t102))) else (purse_Scale.j0 k a0 a1 true))
theorem purse_Scale.mono_l : ∀ k, (∀ y0 y1 y2, LeO (purse_Scale.j0 k y0 y1 y2) (purse_Scale.j0 (k + 1) y0 y1 y2))
  | 0 => fun _ _ _ r h => by simp [purse_Scale.j0] at h
  | k + 1 => by
    have ih0 := purse_Scale.mono_l k
    · intro y0 y1 y2
      unfold purse_Scale.j0
      repeat' first
      | (with_reducible exact ih0 _ _ _)
      | (with_reducible exact LeO.refl _)
      | (with_reducible exact LeO.none _)
      | (with_reducible refine LeO.ite ?_ ?_)
      | (with_reducible refine LeO.bind ?_ (fun _ => ?_))
      | exact ih0 _ _ _
      | exact LeO.none _
      | refine LeO.ite ?_ ?_
      | refine LeO.bind ?_ (fun _ => ?_)
theorem purse_Scale.mono : ∀ a0 a1 k, LeO (purse_Scale.f k a0 a1) (purse_Scale.f (k + 1) a0 a1) := by
  intro a0 a1 k
  have ih0 := purse_Scale.mono_l k
  unfold purse_Scale.f
  repeat' first
      | (with_reducible exact ih0 _ _ _)
      | (with_reducible exact LeO.refl _)
      | (with_reducible exact LeO.none _)
      | (with_reducible refine LeO.ite ?_ ?_)
      | (with_reducible refine LeO.bind ?_ (fun _ => ?_))
      | exact ih0 _ _ _
      | exact LeO.none _
      | refine LeO.ite ?_ ?_
      | refine LeO.bind ?_ (fun _ => ?_)
set_option maxHeartbeats 8000000 in
set_option maxRecDepth 100000 in
theorem purse_Scale.calls (k : Nat) (a0 : Int) (a1 : Int) (r1 : Int) (r2 : Int) (w : World) (h : purse_Scale.f k a0 a1 = some (r1, r2)) :
    Calls Try.prog 8 #[.int .i64 a0, .int .i64 a1] w fun e w' => e = .returned (.tuple #[.int .i64 r1, .int .i64 r2]) ∧ Below w.heap.size w w' := by
  have HB := Aside0.mk (Below.refl w.heap.size w)
  have H : ((purse_within.f a0 1099511627776).bind fun t101 => (if t101 = true then ((purse_within.f a1 1099511627776).bind fun t102 => (purse_Scale.j0 k a0 a1 (!t102))) else (purse_Scale.j0 k a0 a1 true))) = some (r1, r2) := h
  clear h
  have HC3 := Aside0.mk H
  clear H
  go_enter Try.func8, Try.ntmps8
  go_upto_region 1 with (fail)
  go_cut [13] (fun v13 wc => ∃ (kq : Nat) (x13_2 : Bool), v13 = .bool x13_2 ∧ Aside0 (purse_Scale.j0 kq a0 a1 x13_2 = some (r1, r2)) ∧ Aside0 (kq ≤ k) ∧ Aside0 (Below w.heap.size w wc))
  case first =>
    have H := HC3.out
    clear HC3
    replace H := Option.bind_eq_some_iff.mp H
    obtain ⟨t101, A40, H⟩ := H
    replace H : (if t101 = true then ((purse_within.f a1 1099511627776).bind fun t102 => (purse_Scale.j0 k a0 a1 (!t102))) else (purse_Scale.j0 k a0 a1 true)) = some (r1, r2) := H
    have A4 := Aside0.mk A40
    clear A40
    by_cases c5 : t101 = true
    · subst c5
      have H1 : ((purse_within.f a1 1099511627776).bind fun t102 => (purse_Scale.j0 k a0 a1 (!t102))) = some (r1, r2) := by rw [if_pos rfl] at H; exact H
      clear H
      have H := H1
      clear H1
      replace H := Option.bind_eq_some_iff.mp H
      obtain ⟨t102, A60, H⟩ := H
      replace H : (purse_Scale.j0 k a0 a1 (!t102)) = some (r1, r2) := H
      have A6 := Aside0.mk A60
      clear A60
      have H' := Aside0.mk H
      clear H
      go_wp2_with (first | ((with_reducible refine gate_callee (f := 22) rfl ?_); refine goesL_ (some 7) rfl rfl Try.func22 (by kernel_rfl) rfl #[.int .i64 a0, .int .i64 1099511627776] rfl (by (try simp only [List.map_toArray, List.map_cons, List.map_nil]); first | done | rfl | (simp only [List.length_drop, List.length_take]; rfl)) ?_; (with_reducible refine (purse_within.calls a0 1099511627776 true _ A4.out).mono ?_); rintro e w' ⟨rfl, ⟨nd, rfl⟩⟩; refine ⟨_, rfl, ?_⟩) | (go_at_call 22; (with_reducible refine (purse_within.calls a1 1099511627776 t102 _ A6.out).mono ?_); rintro e w' ⟨rfl, ⟨nd, rfl⟩⟩))
      go_meet
      case rel => exact ⟨_, (!t102), (by first | rfl | (simp; done) | (simp [*]; done)), H', ⟨by first | omega | exact Nat.le_refl _⟩, ⟨by repeat (first | (with_reducible first | exact HB.out | apply below_alloc | apply pw_below_drewN | apply below_drew1) | exact HB.out)⟩⟩
    · replace c5 := Bool.eq_false_iff.mpr c5
      subst c5
      have H1 : (purse_Scale.j0 k a0 a1 true) = some (r1, r2) := by rw [if_neg (show ¬ (false = true) by decide)] at H; exact H
      clear H
      have H := H1
      clear H1
      have H' := Aside0.mk H
      clear H
      go_wp2_with (first | ((with_reducible refine gate_callee (f := 22) rfl ?_); refine goesL_ (some 7) rfl rfl Try.func22 (by kernel_rfl) rfl #[.int .i64 a0, .int .i64 1099511627776] rfl (by (try simp only [List.map_toArray, List.map_cons, List.map_nil]); first | done | rfl | (simp only [List.length_drop, List.length_take]; rfl)) ?_; (with_reducible refine (purse_within.calls a0 1099511627776 false _ A4.out).mono ?_); rintro e w' ⟨rfl, ⟨nd, rfl⟩⟩; refine ⟨_, rfl, ?_⟩))
      go_meet
      case rel => exact ⟨_, (true), (by first | rfl | (simp; done) | (simp [*]; done)), H', ⟨by first | omega | exact Nat.le_refl _⟩, ⟨by repeat (first | (with_reducible first | exact HB.out | apply below_alloc | apply pw_below_drewN | apply below_drew1) | exact HB.out)⟩⟩
  case rest =>
    clear HC3
    try clear c2
    try clear p2
    try clear c5
    obtain ⟨kq, x13_2, rfl, HA, HJ2, HB⟩ := hcut
    cases kq with
    | zero => exact absurd HA.out (by simp [purse_Scale.j0])
    | succ kj2 =>
      have H := HA.out
      clear HA
      simp only [purse_Scale.j0] at H
      by_cases c7 : x13_2 = true
      · subst c7
        have H1 : (some (0, 1)) = some (r1, r2) := by rw [if_pos rfl] at H; exact H
        clear H
        have H := H1
        clear H1
        simp only [Option.some.injEq, Prod.mk.injEq] at H
        obtain ⟨rfl, rfl⟩ := H
        go_wp2
        go_ret2
        exact ⟨by first | rfl | (simp [errW_none, errW_some] <;> rfl) | (simp [*, errW_none, errW_some] <;> rfl), by repeat (first | (with_reducible first | exact HB.out | apply below_alloc | apply pw_below_drewN | apply below_drew1) | exact HB.out)⟩
      · replace c7 := Bool.eq_false_iff.mpr c7
        subst c7
        have H1 : (if a0 ≥ a1 then (some (65536, 0)) else ((num_MulDiv.f a0 65536 a1).bind fun bt103 => (some (bt103.1, bt103.2)))) = some (r1, r2) := by rw [if_neg (show ¬ (false = true) by decide)] at H; exact H
        clear H
        have H := H1
        clear H1
        by_cases c8 : a0 ≥ a1
        · rw [if_pos c8] at H
          have c8b0 : decide (a1 ≤ a0) = true := decide_eq_true c8
          clear c8
          simp only [Option.some.injEq, Prod.mk.injEq] at H
          obtain ⟨rfl, rfl⟩ := H
          go_wp2
          go_ret2
          exact ⟨by first | rfl | (simp [errW_none, errW_some] <;> rfl) | (simp [*, errW_none, errW_some] <;> rfl), by repeat (first | (with_reducible first | exact HB.out | apply below_alloc | apply pw_below_drewN | apply below_drew1) | exact HB.out)⟩
        · rw [if_neg c8] at H
          have c8b0 : decide (a1 ≤ a0) = false := decide_eq_false c8
          clear c8
          replace H := Option.bind_eq_some_iff.mp H
          obtain ⟨⟨t103, t104⟩, A90, H⟩ := H
          replace H : (some (t103, t104)) = some (r1, r2) := H
          have A9 := Aside0.mk A90
          clear A90
          simp only [Option.some.injEq, Prod.mk.injEq] at H
          obtain ⟨rfl, rfl⟩ := H
          go_wp2_with (first | ((with_reducible refine gate_callee (f := 23) rfl ?_); refine goesL_ (some 19) rfl rfl Try.func23 (by kernel_rfl) rfl #[.int .i64 a0, .int .i64 65536, .int .i64 a1] rfl (by (try simp only [List.map_toArray, List.map_cons, List.map_nil]); first | done | rfl | (simp only [List.length_drop, List.length_take]; rfl)) ?_; (with_reducible refine (num_MulDiv.calls a0 65536 a1 t103 t104 _ A9.out).mono ?_); rintro e w10 ⟨rfl, hb⟩; refine ⟨_, rfl, ?_⟩; have n0_ := Aside0.mk (below_step (by repeat (first | (with_reducible first | exact HB.out | apply below_alloc | apply pw_below_drewN | apply below_drew1) | exact HB.out)) hb); clear HB; have HB := n0_; clear n0_; (try clear hb); (try clear hb2); (try clear hk); (try clear hi)))
          go_ret2
          exact ⟨by first | rfl | (simp [errW_none, errW_some] <;> rfl) | (simp [*, errW_none, errW_some] <;> rfl), by repeat (first | (with_reducible first | exact HB.out | apply below_alloc | apply pw_below_drewN | apply below_drew1) | exact HB.out)⟩
noncomputable def purse_wish.f (a0_0 : Int) (a0_1 : Int) : Option (Bool) := (purse_within.f a0_0 1048576).bind fun t106 => (if t106 = true then ((purse_within.f a0_1 1048576).bind fun t107 => (some t107)) else (some false))
set_option maxHeartbeats 8000000 in
set_option maxRecDepth 100000 in
theorem purse_wish.calls (a0_0 : Int) (a0_1 : Int) (r : Bool) (w : World) (h : purse_wish.f a0_0 a0_1 = some r) :
    Calls Try.prog 24 #[.agg #[.int .i64 a0_0, .int .i64 a0_1]] w fun e w' => e = .returned (.bool r) ∧ Below w.heap.size w w' := by
  have hu23 := Try.underlying23
  have HB := Aside0.mk (Below.refl w.heap.size w)
  have H : ((purse_within.f a0_0 1048576).bind fun t106 => (if t106 = true then ((purse_within.f a0_1 1048576).bind fun t107 => (some t107)) else (some false))) = some r := h
  clear h
  replace H := Option.bind_eq_some_iff.mp H
  obtain ⟨t106, A20, H⟩ := H
  replace H : (if t106 = true then ((purse_within.f a0_1 1048576).bind fun t107 => (some t107)) else (some false)) = some r := H
  have A2 := Aside0.mk A20
  clear A20
  by_cases c3 : t106 = true
  · subst c3
    have H1 : ((purse_within.f a0_1 1048576).bind fun t107 => (some t107)) = some r := by rw [if_pos rfl] at H; exact H
    clear H
    have H := H1
    clear H1
    replace H := Option.bind_eq_some_iff.mp H
    obtain ⟨t107, A40, H⟩ := H
    replace H : (some t107) = some r := H
    have A4 := Aside0.mk A40
    clear A40
    obtain rfl := Option.some.inj H
    go_enter Try.func24, Try.ntmps24
    go_wp2_with (first | ((with_reducible refine gate_dst (N := 1) rfl ?_); refine box_event ?hg (N := 1) ?hd (cs := #[.int .i64 a0_0, .int .i64 a0_1]) (t := 23) ?hr ?_; (case hd => rfl); (case hg => rfl); (case hr => first | (go_simp; done) | (go_simp; rfl)); intro gb105 hg w5 hbox hb; have n0_ := Aside0.mk (below_step (by repeat (first | (with_reducible first | exact HB.out | apply below_alloc | apply pw_below_drewN | apply below_drew1) | exact HB.out)) hb); have n1_ := Aside0.mk (hbox); have n2_ := Aside0.mk ((by rw [hg]; exact (below_size (by repeat (first | (with_reducible first | exact HB.out | apply below_alloc | apply pw_below_drewN | apply below_drew1) | exact HB.out))) : w.heap.size ≤ gb105)); have n3_ := Aside0.mk ((by rw [hg]; exact (below_size (by repeat (first | (with_reducible first | exact HB.out | apply below_alloc | apply pw_below_drewN | apply below_drew1) | exact HB.out))) : w.heap.size ≤ gb105)); clear HB; have HB := n0_; have BK105 := n1_; have GW105 := n2_; have GE105 := n3_; clear n0_ n1_ n2_ n3_; clear hb hbox hg; have hcz6_0 : w5.cell? ⟨gb105, 0, none⟩ = some (.int .i64 a0_0) := (blk_cell BK105.out 0).trans rfl; have hcz6_1 : w5.cell? ⟨gb105, 1, none⟩ = some (.int .i64 a0_1) := (blk_cell BK105.out 1).trans rfl; have hfz6_0 := blk_frozen BK105.out 0; have hfz6_1 := blk_frozen BK105.out 1) | ((with_reducible refine gate_callee (f := 22) rfl ?_); refine goesL_ (some 5) rfl rfl Try.func22 (by kernel_rfl) rfl #[.int .i64 a0_0, .int .i64 1048576] rfl (by (try simp only [List.map_toArray, List.map_cons, List.map_nil]); first | done | rfl | (simp only [List.length_drop, List.length_take]; rfl)) ?_; (with_reducible refine (purse_within.calls a0_0 1048576 true _ A2.out).mono ?_); rintro e w' ⟨rfl, ⟨nd, rfl⟩⟩; refine ⟨_, rfl, ?_⟩) | (go_at_call 22; (with_reducible refine (purse_within.calls a0_1 1048576 t107 _ A4.out).mono ?_); rintro e w' ⟨rfl, ⟨nd, rfl⟩⟩))
    go_ret
    exact ⟨by first | rfl | (simp [errW_none, errW_some] <;> rfl) | (simp [*, errW_none, errW_some] <;> rfl), by repeat (first | (with_reducible first | exact HB.out | apply below_alloc | apply pw_below_drewN | apply below_drew1 | refine below_set ?_ GE105.out) | exact HB.out)⟩
  · replace c3 := Bool.eq_false_iff.mpr c3
    subst c3
    have H1 : (some false) = some r := by rw [if_neg (show ¬ (false = true) by decide)] at H; exact H
    clear H
    have H := H1
    clear H1
    obtain rfl := Option.some.inj H
    go_enter Try.func24, Try.ntmps24
    go_wp2_with (first | ((with_reducible refine gate_dst (N := 1) rfl ?_); refine box_event ?hg (N := 1) ?hd (cs := #[.int .i64 a0_0, .int .i64 a0_1]) (t := 23) ?hr ?_; (case hd => rfl); (case hg => rfl); (case hr => first | (go_simp; done) | (go_simp; rfl)); intro gb105 hg w7 hbox hb; have n0_ := Aside0.mk (below_step (by repeat (first | (with_reducible first | exact HB.out | apply below_alloc | apply pw_below_drewN | apply below_drew1) | exact HB.out)) hb); have n1_ := Aside0.mk (hbox); have n2_ := Aside0.mk ((by rw [hg]; exact (below_size (by repeat (first | (with_reducible first | exact HB.out | apply below_alloc | apply pw_below_drewN | apply below_drew1) | exact HB.out))) : w.heap.size ≤ gb105)); have n3_ := Aside0.mk ((by rw [hg]; exact (below_size (by repeat (first | (with_reducible first | exact HB.out | apply below_alloc | apply pw_below_drewN | apply below_drew1) | exact HB.out))) : w.heap.size ≤ gb105)); clear HB; have HB := n0_; have BK105 := n1_; have GW105 := n2_; have GE105 := n3_; clear n0_ n1_ n2_ n3_; clear hb hbox hg; have hcz8_0 : w7.cell? ⟨gb105, 0, none⟩ = some (.int .i64 a0_0) := (blk_cell BK105.out 0).trans rfl; have hcz8_1 : w7.cell? ⟨gb105, 1, none⟩ = some (.int .i64 a0_1) := (blk_cell BK105.out 1).trans rfl; have hfz8_0 := blk_frozen BK105.out 0; have hfz8_1 := blk_frozen BK105.out 1) | ((with_reducible refine gate_callee (f := 22) rfl ?_); refine goesL_ (some 5) rfl rfl Try.func22 (by kernel_rfl) rfl #[.int .i64 a0_0, .int .i64 1048576] rfl (by (try simp only [List.map_toArray, List.map_cons, List.map_nil]); first | done | rfl | (simp only [List.length_drop, List.length_take]; rfl)) ?_; (with_reducible refine (purse_within.calls a0_0 1048576 false _ A2.out).mono ?_); rintro e w' ⟨rfl, ⟨nd, rfl⟩⟩; refine ⟨_, rfl, ?_⟩))
    go_ret
    exact ⟨by first | rfl | (simp [errW_none, errW_some] <;> rfl) | (simp [*, errW_none, errW_some] <;> rfl), by repeat (first | (with_reducible first | exact HB.out | apply below_alloc | apply pw_below_drewN | apply below_drew1 | refine below_set ?_ GE105.out) | exact HB.out)⟩
noncomputable def purse_Part.j0 : Nat → Int → Bool → Int → Int → Option (Int × Int × Int)
  | 0, _, _, _, _ => none
  | k + 1, x1, x16, x109000, x109001 => if x16 = true then (some (0, 0, 1)) else (some ((wrap64 (x109000 * x1)) / 65536, (wrap64 (x109001 * x1)) / 65536, 0))
noncomputable def purse_Part.f (k : Nat) (a0_0 : Int) (a0_1 : Int) (a1 : Int) : Option (Int × Int × Int) := (purse_wish.f a0_0 a0_1).bind fun t110 => (if t110 = true then (if a1 < 0 then (purse_Part.j0 k a1 true a0_0 a0_1) else (purse_Part.j0 k a1 (decide (a1 > 65536)) a0_0 a0_1)) else (purse_Part.j0 k a1 true a0_0 a0_1))
set_option maxHeartbeats 8000000 in
set_option maxRecDepth 100000 in
theorem purse_Part.calls (k : Nat) (a0_0 : Int) (a0_1 : Int) (a1 : Int) (r1 : Int) (r2 : Int) (r3 : Int) (w : World) (h : purse_Part.f k a0_0 a0_1 a1 = some (r1, r2, r3)) :
    Calls Try.prog 10 #[.agg #[.int .i64 a0_0, .int .i64 a0_1], .int .i64 a1] w fun e w' => e = .returned (.tuple #[.agg #[.int .i64 r1, .int .i64 r2], .int .i64 r3]) ∧ Below w.heap.size w w' := by
  have hu23 := Try.underlying23
  have HB := Aside0.mk (Below.refl w.heap.size w)
  have H : ((purse_wish.f a0_0 a0_1).bind fun t110 => (if t110 = true then (if a1 < 0 then (purse_Part.j0 k a1 true a0_0 a0_1) else (purse_Part.j0 k a1 (decide (a1 > 65536)) a0_0 a0_1)) else (purse_Part.j0 k a1 true a0_0 a0_1))) = some (r1, r2, r3) := h
  clear h
  have HC3 := Aside0.mk H
  clear H
  go_enter Try.func10, Try.ntmps10
  go_upto_region 1 with (first | ((with_reducible refine gate_dst (N := 2) rfl ?_); refine box_event ?hg (N := 2) ?hd (cs := #[.int .i64 a0_0, .int .i64 a0_1]) (t := 23) ?hr ?_; (case hd => rfl); (case hg => rfl); (case hr => first | (go_simp; done) | (go_simp; rfl)); intro gb108 hg w4 hbox hb; have n0_ := Aside0.mk (below_step (by repeat (first | (with_reducible first | exact HB.out | apply below_alloc | apply pw_below_drewN | apply below_drew1) | exact HB.out)) hb); have n1_ := Aside0.mk (hbox); have n2_ := Aside0.mk ((by rw [hg]; exact (below_size (by repeat (first | (with_reducible first | exact HB.out | apply below_alloc | apply pw_below_drewN | apply below_drew1) | exact HB.out))) : w.heap.size ≤ gb108)); have n3_ := Aside0.mk ((by rw [hg]; exact (below_size (by repeat (first | (with_reducible first | exact HB.out | apply below_alloc | apply pw_below_drewN | apply below_drew1) | exact HB.out))) : w.heap.size ≤ gb108)); clear HB; have HB := n0_; have BK108 := n1_; have GW108 := n2_; have GE108 := n3_; clear n0_ n1_ n2_ n3_; clear hb hbox hg) | ((with_reducible refine gate_dst (N := 4) rfl ?_); refine box_event ?hg (N := 4) ?hd (cs := #[.int .i64 0, .int .i64 0]) (t := 23) ?hr ?_; (case hd => rfl); (case hg => rfl); (case hr => first | (go_simp; done) | (go_simp; rfl)); intro gb109 hg w5 hbox hb; have n0_ := Aside0.mk (blk_below (g := gb108) (o := .cells #[.int .i64 a0_0, .int .i64 a0_1] 23 (0, 0)) (by (with_reducible repeat (first | refine blk_drewN ?_ _ | refine blk_drew ?_ | refine blk_alloc ?_ _)); exact BK108.out) hb); have n1_ := Aside0.mk (below_step (by repeat (first | (with_reducible first | exact HB.out | apply below_alloc | apply pw_below_drewN | apply below_drew1 | refine below_set ?_ GE108.out) | exact HB.out)) hb); have n2_ := Aside0.mk (hbox); have n3_ := Aside0.mk ((by rw [hg]; exact (below_size (by repeat (first | (with_reducible first | exact HB.out | apply below_alloc | apply pw_below_drewN | apply below_drew1 | refine below_set ?_ GE108.out) | exact HB.out))) : w.heap.size ≤ gb109)); have n4_ := Aside0.mk ((by rw [hg]; exact (below_size (by repeat (first | (with_reducible first | exact HB.out | apply below_alloc | apply pw_below_drewN | apply below_drew1 | refine below_set ?_ GE108.out) | exact HB.out))) : w.heap.size ≤ gb109)); have n5_ := Aside0.mk ((by rw [hg]; exact Nat.ne_of_lt (blk_lt (g := gb108) (o := .cells #[.int .i64 a0_0, .int .i64 a0_1] 23 (0, 0)) (by (with_reducible repeat (first | refine blk_drewN ?_ _ | refine blk_drew ?_ | refine blk_alloc ?_ _)); exact BK108.out)) : gb108 ≠ gb109)); have n6_ := Aside0.mk ((by rw [hg]; exact Nat.ne_of_gt (blk_lt (g := gb108) (o := .cells #[.int .i64 a0_0, .int .i64 a0_1] 23 (0, 0)) (by (with_reducible repeat (first | refine blk_drewN ?_ _ | refine blk_drew ?_ | refine blk_alloc ?_ _)); exact BK108.out)) : gb109 ≠ gb108)); clear BK108; clear HB; have BK108 := n0_; have HB := n1_; have BK109 := n2_; have GW109 := n3_; have GE109 := n4_; have NB108_109 := n5_; have NB109_108 := n6_; clear n0_ n1_ n2_ n3_ n4_ n5_ n6_; clear hb hbox hg))
  (try simp only [Act.put, List.setIfInBounds_toArray, List.set_cons_zero, List.set_cons_succ])
  go_cut [16] (fun v16 wc => ∃ (kq : Nat) (x16_2 : Bool), v16 = .bool x16_2 ∧ Aside0 (purse_Part.j0 kq a1 x16_2 a0_0 a0_1 = some (r1, r2, r3)) ∧ Aside0 (kq ≤ k) ∧ Aside0 (wc.heap[gb108]? = some (.cells #[.int .i64 a0_0, .int .i64 a0_1] 23 (0, 0))) ∧ Aside0 (wc.heap[gb109]? = some (.cells #[.int .i64 0, .int .i64 0] 23 (0, 0))) ∧ Aside0 (Below w.heap.size w wc))
  case first =>
    have H := HC3.out
    clear HC3
    replace H := Option.bind_eq_some_iff.mp H
    obtain ⟨t110, A60, H⟩ := H
    replace H : (if t110 = true then (if a1 < 0 then (purse_Part.j0 k a1 true a0_0 a0_1) else (purse_Part.j0 k a1 (decide (a1 > 65536)) a0_0 a0_1)) else (purse_Part.j0 k a1 true a0_0 a0_1)) = some (r1, r2, r3) := H
    have A6 := Aside0.mk A60
    clear A60
    by_cases c7 : t110 = true
    · subst c7
      have H1 : (if a1 < 0 then (purse_Part.j0 k a1 true a0_0 a0_1) else (purse_Part.j0 k a1 (decide (a1 > 65536)) a0_0 a0_1)) = some (r1, r2, r3) := by rw [if_pos rfl] at H; exact H
      clear H
      have H := H1
      clear H1
      by_cases c8 : a1 < 0
      · rw [if_pos c8] at H
        have c8b0 : decide (a1 < 0) = true := decide_eq_true c8
        clear c8
        (first | rw [c8b0] | (simp only [i64_w, i32_w]; rw [c8b0]) | skip)
        have H' := Aside0.mk H
        clear H
        have hnb9 := NB108_109.out
        have hnc9 := NB109_108.out
        have hcz10_0 : w5.cell? ⟨gb108, 0, none⟩ = some (.int .i64 a0_0) := (blk_cell BK108.out 0).trans rfl
        have hcz10_1 : w5.cell? ⟨gb108, 1, none⟩ = some (.int .i64 a0_1) := (blk_cell BK108.out 1).trans rfl
        have hfz10_0 := blk_frozen BK108.out 0
        have hfz10_1 := blk_frozen BK108.out 1
        go_wp2_with (first | ((with_reducible refine gate_callee (f := 24) rfl ?_); refine goesL_ (some 7) rfl rfl Try.func24 (by kernel_rfl) rfl #[.agg #[.int .i64 a0_0, .int .i64 a0_1]] rfl (by (try simp only [List.map_toArray, List.map_cons, List.map_nil]); first | done | rfl | (simp only [List.length_drop, List.length_take]; rfl)) ?_; (with_reducible refine (purse_wish.calls a0_0 a0_1 true _ A6.out).mono ?_); rintro e w11 ⟨rfl, hb⟩; refine ⟨_, rfl, ?_⟩; have n0_ := Aside0.mk (blk_below (g := gb108) (o := .cells #[.int .i64 a0_0, .int .i64 a0_1] 23 (0, 0)) (by (with_reducible repeat (first | refine blk_drewN ?_ _ | refine blk_drew ?_ | refine blk_alloc ?_ _)); exact BK108.out) hb); have n1_ := Aside0.mk (blk_below (g := gb109) (o := .cells #[.int .i64 0, .int .i64 0] 23 (0, 0)) (by (with_reducible repeat (first | refine blk_drewN ?_ _ | refine blk_drew ?_ | refine blk_alloc ?_ _)); exact BK109.out) hb); have n2_ := Aside0.mk (below_step (by repeat (first | (with_reducible first | exact HB.out | apply below_alloc | apply pw_below_drewN | apply below_drew1 | refine below_set ?_ GE108.out | refine below_set ?_ GE109.out) | exact HB.out)) hb); clear BK108; clear BK109; clear HB; have BK108 := n0_; have BK109 := n1_; have HB := n2_; clear n0_ n1_ n2_; (try clear hb); (try clear hb2); (try clear hk); (try clear hi)))
        go_meet
        case rel => exact ⟨_, (true), (by first | rfl | (simp; done) | (simp [*]; done)), H', ⟨by first | omega | exact Nat.le_refl _⟩, ⟨by (with_reducible repeat (first | refine blk_drewN ?_ _ | refine blk_drew ?_ | refine blk_alloc ?_ _)); exact BK108.out⟩, ⟨by (with_reducible repeat (first | refine blk_drewN ?_ _ | refine blk_drew ?_ | refine blk_alloc ?_ _)); exact BK109.out⟩, ⟨by repeat (first | (with_reducible first | exact HB.out | apply below_alloc | apply pw_below_drewN | apply below_drew1 | refine below_set ?_ GE108.out | refine below_set ?_ GE109.out) | exact HB.out)⟩⟩
      · rw [if_neg c8] at H
        have c8b0 : decide (a1 < 0) = false := decide_eq_false c8
        clear c8
        (first | rw [c8b0] | (simp only [i64_w, i32_w]; rw [c8b0]) | skip)
        have H' := Aside0.mk H
        clear H
        have hnb12 := NB108_109.out
        have hnc12 := NB109_108.out
        have hcz13_0 : w5.cell? ⟨gb108, 0, none⟩ = some (.int .i64 a0_0) := (blk_cell BK108.out 0).trans rfl
        have hcz13_1 : w5.cell? ⟨gb108, 1, none⟩ = some (.int .i64 a0_1) := (blk_cell BK108.out 1).trans rfl
        have hfz13_0 := blk_frozen BK108.out 0
        have hfz13_1 := blk_frozen BK108.out 1
        go_wp2_with (first | ((with_reducible refine gate_callee (f := 24) rfl ?_); refine goesL_ (some 7) rfl rfl Try.func24 (by kernel_rfl) rfl #[.agg #[.int .i64 a0_0, .int .i64 a0_1]] rfl (by (try simp only [List.map_toArray, List.map_cons, List.map_nil]); first | done | rfl | (simp only [List.length_drop, List.length_take]; rfl)) ?_; (with_reducible refine (purse_wish.calls a0_0 a0_1 true _ A6.out).mono ?_); rintro e w14 ⟨rfl, hb⟩; refine ⟨_, rfl, ?_⟩; have n0_ := Aside0.mk (blk_below (g := gb108) (o := .cells #[.int .i64 a0_0, .int .i64 a0_1] 23 (0, 0)) (by (with_reducible repeat (first | refine blk_drewN ?_ _ | refine blk_drew ?_ | refine blk_alloc ?_ _)); exact BK108.out) hb); have n1_ := Aside0.mk (blk_below (g := gb109) (o := .cells #[.int .i64 0, .int .i64 0] 23 (0, 0)) (by (with_reducible repeat (first | refine blk_drewN ?_ _ | refine blk_drew ?_ | refine blk_alloc ?_ _)); exact BK109.out) hb); have n2_ := Aside0.mk (below_step (by repeat (first | (with_reducible first | exact HB.out | apply below_alloc | apply pw_below_drewN | apply below_drew1 | refine below_set ?_ GE108.out | refine below_set ?_ GE109.out) | exact HB.out)) hb); clear BK108; clear BK109; clear HB; have BK108 := n0_; have BK109 := n1_; have HB := n2_; clear n0_ n1_ n2_; (try clear hb); (try clear hb2); (try clear hk); (try clear hi)))
        go_meet
        case rel => exact ⟨_, (decide (a1 > 65536)), (by first | rfl | (simp; done) | (simp [*]; done)), H', ⟨by first | omega | exact Nat.le_refl _⟩, ⟨by (with_reducible repeat (first | refine blk_drewN ?_ _ | refine blk_drew ?_ | refine blk_alloc ?_ _)); exact BK108.out⟩, ⟨by (with_reducible repeat (first | refine blk_drewN ?_ _ | refine blk_drew ?_ | refine blk_alloc ?_ _)); exact BK109.out⟩, ⟨by repeat (first | (with_reducible first | exact HB.out | apply below_alloc | apply pw_below_drewN | apply below_drew1 | refine below_set ?_ GE108.out | refine below_set ?_ GE109.out) | exact HB.out)⟩⟩
    · replace c7 := Bool.eq_false_iff.mpr c7
      subst c7
      have H1 : (purse_Part.j0 k a1 true a0_0 a0_1) = some (r1, r2, r3) := by rw [if_neg (show ¬ (false = true) by decide)] at H; exact H
      clear H
      have H := H1
      clear H1
      have H' := Aside0.mk H
      clear H
      have hnb15 := NB108_109.out
      have hnc15 := NB109_108.out
      have hcz16_0 : w5.cell? ⟨gb108, 0, none⟩ = some (.int .i64 a0_0) := (blk_cell BK108.out 0).trans rfl
      have hcz16_1 : w5.cell? ⟨gb108, 1, none⟩ = some (.int .i64 a0_1) := (blk_cell BK108.out 1).trans rfl
      have hfz16_0 := blk_frozen BK108.out 0
      have hfz16_1 := blk_frozen BK108.out 1
      go_wp2_with (first | ((with_reducible refine gate_callee (f := 24) rfl ?_); refine goesL_ (some 7) rfl rfl Try.func24 (by kernel_rfl) rfl #[.agg #[.int .i64 a0_0, .int .i64 a0_1]] rfl (by (try simp only [List.map_toArray, List.map_cons, List.map_nil]); first | done | rfl | (simp only [List.length_drop, List.length_take]; rfl)) ?_; (with_reducible refine (purse_wish.calls a0_0 a0_1 false _ A6.out).mono ?_); rintro e w17 ⟨rfl, hb⟩; refine ⟨_, rfl, ?_⟩; have n0_ := Aside0.mk (blk_below (g := gb108) (o := .cells #[.int .i64 a0_0, .int .i64 a0_1] 23 (0, 0)) (by (with_reducible repeat (first | refine blk_drewN ?_ _ | refine blk_drew ?_ | refine blk_alloc ?_ _)); exact BK108.out) hb); have n1_ := Aside0.mk (blk_below (g := gb109) (o := .cells #[.int .i64 0, .int .i64 0] 23 (0, 0)) (by (with_reducible repeat (first | refine blk_drewN ?_ _ | refine blk_drew ?_ | refine blk_alloc ?_ _)); exact BK109.out) hb); have n2_ := Aside0.mk (below_step (by repeat (first | (with_reducible first | exact HB.out | apply below_alloc | apply pw_below_drewN | apply below_drew1 | refine below_set ?_ GE108.out | refine below_set ?_ GE109.out) | exact HB.out)) hb); clear BK108; clear BK109; clear HB; have BK108 := n0_; have BK109 := n1_; have HB := n2_; clear n0_ n1_ n2_; (try clear hb); (try clear hb2); (try clear hk); (try clear hi)))
      go_meet
      case rel => exact ⟨_, (true), (by first | rfl | (simp; done) | (simp [*]; done)), H', ⟨by first | omega | exact Nat.le_refl _⟩, ⟨by (with_reducible repeat (first | refine blk_drewN ?_ _ | refine blk_drew ?_ | refine blk_alloc ?_ _)); exact BK108.out⟩, ⟨by (with_reducible repeat (first | refine blk_drewN ?_ _ | refine blk_drew ?_ | refine blk_alloc ?_ _)); exact BK109.out⟩, ⟨by repeat (first | (with_reducible first | exact HB.out | apply below_alloc | apply pw_below_drewN | apply below_drew1 | refine below_set ?_ GE108.out | refine below_set ?_ GE109.out) | exact HB.out)⟩⟩
  case rest =>
    clear HC3
    try clear c1
    try clear c2
    try clear p2
    try clear c7
    try clear c8
    try clear c8b0
    try clear c9
    try clear c10
    try clear c12
    try clear c15
    try clear hcz10_0
    try clear hcz10_1
    try clear hcz13_0
    try clear hcz13_1
    try clear hcz16_0
    try clear hcz16_1
    try clear hfz10_0
    try clear hfz10_1
    try clear hfz13_0
    try clear hfz13_1
    try clear hfz16_0
    try clear hfz16_1
    obtain ⟨kq, x16_2, rfl, HA, HJ2, BK108, BK109, HB⟩ := hcut
    cases kq with
    | zero => exact absurd HA.out (by simp [purse_Part.j0])
    | succ kj2 =>
      have H := HA.out
      clear HA
      simp only [purse_Part.j0] at H
      by_cases c18 : x16_2 = true
      · subst c18
        have H1 : (some (0, 0, 1)) = some (r1, r2, r3) := by rw [if_pos rfl] at H; exact H
        clear H
        have H := H1
        clear H1
        simp only [Option.some.injEq, Prod.mk.injEq] at H
        obtain ⟨rfl, rfl, rfl⟩ := H
        have hnb19 := NB109_108.out
        have hnc19 := NB108_109.out
        have hcz20_0 : wc.cell? ⟨gb109, 0, none⟩ = some (.int .i64 0) := (blk_cell BK109.out 0).trans rfl
        have hcz20_1 : wc.cell? ⟨gb109, 1, none⟩ = some (.int .i64 0) := (blk_cell BK109.out 1).trans rfl
        have hfz20_0 := blk_frozen BK109.out 0
        have hfz20_1 := blk_frozen BK109.out 1
        go_wp2
        refine bodyPost_ret (results_ct rfl _ _ gb109 23 #[.int .i64 0, .int .i64 0] (0, 0) _ rfl (by (with_reducible repeat (first | refine blk_drewN ?_ _ | refine blk_drew ?_ | refine blk_alloc ?_ _)); refine blk_put (cs := #[.int .i64 0, .int .i64 0]) ?_ 1 _ rfl; (with_reducible repeat (first | refine blk_drewN ?_ _ | refine blk_drew ?_ | refine blk_alloc ?_ _)); refine blk_put (cs := #[.int .i64 0, .int .i64 0]) ?_ 0 _ rfl; (with_reducible repeat (first | refine blk_drewN ?_ _ | refine blk_drew ?_ | refine blk_alloc ?_ _)); exact BK109.out) Try.underlying23 rfl (by kernel_rfl)) rfl ?_
        exact ⟨by first | rfl | (simp [errW_none, errW_some] <;> rfl) | (simp [*, errW_none, errW_some] <;> rfl), by repeat (first | (with_reducible first | exact HB.out | apply below_alloc | apply pw_below_drewN | apply below_drew1 | refine below_set ?_ GE108.out | refine below_set ?_ GE109.out) | exact HB.out)⟩
      · replace c18 := Bool.eq_false_iff.mpr c18
        subst c18
        have H1 : (some ((wrap64 (a0_0 * a1)) / 65536, (wrap64 (a0_1 * a1)) / 65536, 0)) = some (r1, r2, r3) := by rw [if_neg (show ¬ (false = true) by decide)] at H; exact H
        clear H
        have H := H1
        clear H1
        simp only [Option.some.injEq, Prod.mk.injEq] at H
        obtain ⟨rfl, rfl, rfl⟩ := H
        have hnb21 := NB108_109.out
        have hnc21 := NB109_108.out
        have hcz22_0 : wc.cell? ⟨gb108, 0, none⟩ = some (.int .i64 a0_0) := (blk_cell BK108.out 0).trans rfl
        have hcz22_1 : wc.cell? ⟨gb108, 1, none⟩ = some (.int .i64 a0_1) := (blk_cell BK108.out 1).trans rfl
        have hfz22_0 := blk_frozen BK108.out 0
        have hfz22_1 := blk_frozen BK108.out 1
        have hcz23_0 : wc.cell? ⟨gb109, 0, none⟩ = some (.int .i64 0) := (blk_cell BK109.out 0).trans rfl
        have hcz23_1 : wc.cell? ⟨gb109, 1, none⟩ = some (.int .i64 0) := (blk_cell BK109.out 1).trans rfl
        have hfz23_0 := blk_frozen BK109.out 0
        have hfz23_1 := blk_frozen BK109.out 1
        go_wp2
        refine bodyPost_ret (results_ct rfl _ _ gb109 23 #[.int .i64 ((wrap64 (a0_0 * a1)) / 65536), .int .i64 ((wrap64 (a0_1 * a1)) / 65536)] (0, 0) _ rfl (by (with_reducible repeat (first | refine blk_drewN ?_ _ | refine blk_drew ?_ | refine blk_alloc ?_ _)); refine blk_put (cs := #[.int .i64 ((wrap64 (a0_0 * a1)) / 65536), .int .i64 0]) ?_ 1 _ rfl; (with_reducible repeat (first | refine blk_drewN ?_ _ | refine blk_drew ?_ | refine blk_alloc ?_ _)); refine blk_put (cs := #[.int .i64 0, .int .i64 0]) ?_ 0 _ rfl; (with_reducible repeat (first | refine blk_drewN ?_ _ | refine blk_drew ?_ | refine blk_alloc ?_ _)); exact BK109.out) Try.underlying23 rfl (by kernel_rfl)) rfl ?_
        exact ⟨by first | rfl | (simp [errW_none, errW_some] <;> rfl) | (simp [*, errW_none, errW_some] <;> rfl), by repeat (first | (with_reducible first | exact HB.out | apply below_alloc | apply pw_below_drewN | apply below_drew1 | refine below_set ?_ GE108.out | refine below_set ?_ GE109.out) | exact HB.out)⟩
noncomputable def purse_May.f (a0_0 : Int) (a0_1 : Int) (a0_2 : Int) (a0_3 : Int) : Option (Bool) := (purse_within.f a0_2 1073741824).bind fun t115 => (if t115 = true then ((purse_within.f a0_3 1073741824).bind fun t116 => (if t116 = true then ((purse_within.f a0_0 a0_2).bind fun t117 => (if t117 = true then ((purse_within.f a0_1 a0_3).bind fun t118 => (some t118)) else (some false))) else (some false))) else (some false))
set_option maxHeartbeats 8000000 in
set_option maxRecDepth 100000 in
theorem purse_May.calls (a0_0 : Int) (a0_1 : Int) (a0_2 : Int) (a0_3 : Int) (r : Bool) (w : World) (h : purse_May.f a0_0 a0_1 a0_2 a0_3 = some r) :
    Calls Try.prog 16 #[.agg #[.int .i64 a0_0, .int .i64 a0_1, .int .i64 a0_2, .int .i64 a0_3]] w fun e w' => e = .returned (.bool r) ∧ Below w.heap.size w w' := by
  have hu37 := Try.underlying37
  have HB := Aside0.mk (Below.refl w.heap.size w)
  have H : ((purse_within.f a0_2 1073741824).bind fun t115 => (if t115 = true then ((purse_within.f a0_3 1073741824).bind fun t116 => (if t116 = true then ((purse_within.f a0_0 a0_2).bind fun t117 => (if t117 = true then ((purse_within.f a0_1 a0_3).bind fun t118 => (some t118)) else (some false))) else (some false))) else (some false))) = some r := h
  clear h
  replace H := Option.bind_eq_some_iff.mp H
  obtain ⟨t115, A20, H⟩ := H
  replace H : (if t115 = true then ((purse_within.f a0_3 1073741824).bind fun t116 => (if t116 = true then ((purse_within.f a0_0 a0_2).bind fun t117 => (if t117 = true then ((purse_within.f a0_1 a0_3).bind fun t118 => (some t118)) else (some false))) else (some false))) else (some false)) = some r := H
  have A2 := Aside0.mk A20
  clear A20
  by_cases c3 : t115 = true
  · subst c3
    have H1 : ((purse_within.f a0_3 1073741824).bind fun t116 => (if t116 = true then ((purse_within.f a0_0 a0_2).bind fun t117 => (if t117 = true then ((purse_within.f a0_1 a0_3).bind fun t118 => (some t118)) else (some false))) else (some false))) = some r := by rw [if_pos rfl] at H; exact H
    clear H
    have H := H1
    clear H1
    replace H := Option.bind_eq_some_iff.mp H
    obtain ⟨t116, A40, H⟩ := H
    replace H : (if t116 = true then ((purse_within.f a0_0 a0_2).bind fun t117 => (if t117 = true then ((purse_within.f a0_1 a0_3).bind fun t118 => (some t118)) else (some false))) else (some false)) = some r := H
    have A4 := Aside0.mk A40
    clear A40
    by_cases c5 : t116 = true
    · subst c5
      have H1 : ((purse_within.f a0_0 a0_2).bind fun t117 => (if t117 = true then ((purse_within.f a0_1 a0_3).bind fun t118 => (some t118)) else (some false))) = some r := by rw [if_pos rfl] at H; exact H
      clear H
      have H := H1
      clear H1
      replace H := Option.bind_eq_some_iff.mp H
      obtain ⟨t117, A60, H⟩ := H
      replace H : (if t117 = true then ((purse_within.f a0_1 a0_3).bind fun t118 => (some t118)) else (some false)) = some r := H
      have A6 := Aside0.mk A60
      clear A60
      by_cases c7 : t117 = true
      · subst c7
        have H1 : ((purse_within.f a0_1 a0_3).bind fun t118 => (some t118)) = some r := by rw [if_pos rfl] at H; exact H
        clear H
        have H := H1
        clear H1
        replace H := Option.bind_eq_some_iff.mp H
        obtain ⟨t118, A80, H⟩ := H
        replace H : (some t118) = some r := H
        have A8 := Aside0.mk A80
        clear A80
        obtain rfl := Option.some.inj H
        go_enter Try.func16, Try.ntmps16
        go_wp2_with (first | ((with_reducible refine gate_dst (N := 1) rfl ?_); refine box_event ?hg (N := 1) ?hd (cs := #[.int .i64 a0_0, .int .i64 a0_1, .int .i64 a0_2, .int .i64 a0_3]) (t := 37) ?hr ?_; (case hd => rfl); (case hg => rfl); (case hr => first | (go_simp; done) | (go_simp; rfl)); intro gb114 hg w9 hbox hb; have n0_ := Aside0.mk (below_step (by repeat (first | (with_reducible first | exact HB.out | apply below_alloc | apply pw_below_drewN | apply below_drew1) | exact HB.out)) hb); have n1_ := Aside0.mk (hbox); have n2_ := Aside0.mk ((by rw [hg]; exact (below_size (by repeat (first | (with_reducible first | exact HB.out | apply below_alloc | apply pw_below_drewN | apply below_drew1) | exact HB.out))) : w.heap.size ≤ gb114)); have n3_ := Aside0.mk ((by rw [hg]; exact (below_size (by repeat (first | (with_reducible first | exact HB.out | apply below_alloc | apply pw_below_drewN | apply below_drew1) | exact HB.out))) : w.heap.size ≤ gb114)); clear HB; have HB := n0_; have BK114 := n1_; have GW114 := n2_; have GE114 := n3_; clear n0_ n1_ n2_ n3_; clear hb hbox hg; have hcz10_0 : w9.cell? ⟨gb114, 0, none⟩ = some (.int .i64 a0_0) := (blk_cell BK114.out 0).trans rfl; have hcz10_1 : w9.cell? ⟨gb114, 1, none⟩ = some (.int .i64 a0_1) := (blk_cell BK114.out 1).trans rfl; have hcz10_2 : w9.cell? ⟨gb114, 2, none⟩ = some (.int .i64 a0_2) := (blk_cell BK114.out 2).trans rfl; have hcz10_3 : w9.cell? ⟨gb114, 3, none⟩ = some (.int .i64 a0_3) := (blk_cell BK114.out 3).trans rfl; have hfz10_0 := blk_frozen BK114.out 0; have hfz10_1 := blk_frozen BK114.out 1; have hfz10_2 := blk_frozen BK114.out 2; have hfz10_3 := blk_frozen BK114.out 3) | ((with_reducible refine gate_callee (f := 22) rfl ?_); refine goesL_ (some 5) rfl rfl Try.func22 (by kernel_rfl) rfl #[.int .i64 a0_2, .int .i64 1073741824] rfl (by (try simp only [List.map_toArray, List.map_cons, List.map_nil]); first | done | rfl | (simp only [List.length_drop, List.length_take]; rfl)) ?_; (with_reducible refine (purse_within.calls a0_2 1073741824 true _ A2.out).mono ?_); rintro e w' ⟨rfl, ⟨nd, rfl⟩⟩; refine ⟨_, rfl, ?_⟩) | (go_at_call 22; (with_reducible refine (purse_within.calls a0_3 1073741824 true _ A4.out).mono ?_); rintro e w' ⟨rfl, ⟨nd, rfl⟩⟩) | (go_at_call 22; (with_reducible refine (purse_within.calls a0_0 a0_2 true _ A6.out).mono ?_); rintro e w' ⟨rfl, ⟨nd, rfl⟩⟩) | (go_at_call 22; (with_reducible refine (purse_within.calls a0_1 a0_3 t118 _ A8.out).mono ?_); rintro e w' ⟨rfl, ⟨nd, rfl⟩⟩))
        go_ret
        exact ⟨by first | rfl | (simp [errW_none, errW_some] <;> rfl) | (simp [*, errW_none, errW_some] <;> rfl), by repeat (first | (with_reducible first | exact HB.out | apply below_alloc | apply pw_below_drewN | apply below_drew1 | refine below_set ?_ GE114.out) | exact HB.out)⟩
      · replace c7 := Bool.eq_false_iff.mpr c7
        subst c7
        have H1 : (some false) = some r := by rw [if_neg (show ¬ (false = true) by decide)] at H; exact H
        clear H
        have H := H1
        clear H1
        obtain rfl := Option.some.inj H
        go_enter Try.func16, Try.ntmps16
        go_wp2_with (first | ((with_reducible refine gate_dst (N := 1) rfl ?_); refine box_event ?hg (N := 1) ?hd (cs := #[.int .i64 a0_0, .int .i64 a0_1, .int .i64 a0_2, .int .i64 a0_3]) (t := 37) ?hr ?_; (case hd => rfl); (case hg => rfl); (case hr => first | (go_simp; done) | (go_simp; rfl)); intro gb114 hg w11 hbox hb; have n0_ := Aside0.mk (below_step (by repeat (first | (with_reducible first | exact HB.out | apply below_alloc | apply pw_below_drewN | apply below_drew1) | exact HB.out)) hb); have n1_ := Aside0.mk (hbox); have n2_ := Aside0.mk ((by rw [hg]; exact (below_size (by repeat (first | (with_reducible first | exact HB.out | apply below_alloc | apply pw_below_drewN | apply below_drew1) | exact HB.out))) : w.heap.size ≤ gb114)); have n3_ := Aside0.mk ((by rw [hg]; exact (below_size (by repeat (first | (with_reducible first | exact HB.out | apply below_alloc | apply pw_below_drewN | apply below_drew1) | exact HB.out))) : w.heap.size ≤ gb114)); clear HB; have HB := n0_; have BK114 := n1_; have GW114 := n2_; have GE114 := n3_; clear n0_ n1_ n2_ n3_; clear hb hbox hg; have hcz12_0 : w11.cell? ⟨gb114, 0, none⟩ = some (.int .i64 a0_0) := (blk_cell BK114.out 0).trans rfl; have hcz12_1 : w11.cell? ⟨gb114, 1, none⟩ = some (.int .i64 a0_1) := (blk_cell BK114.out 1).trans rfl; have hcz12_2 : w11.cell? ⟨gb114, 2, none⟩ = some (.int .i64 a0_2) := (blk_cell BK114.out 2).trans rfl; have hcz12_3 : w11.cell? ⟨gb114, 3, none⟩ = some (.int .i64 a0_3) := (blk_cell BK114.out 3).trans rfl; have hfz12_0 := blk_frozen BK114.out 0; have hfz12_1 := blk_frozen BK114.out 1; have hfz12_2 := blk_frozen BK114.out 2; have hfz12_3 := blk_frozen BK114.out 3) | ((with_reducible refine gate_callee (f := 22) rfl ?_); refine goesL_ (some 5) rfl rfl Try.func22 (by kernel_rfl) rfl #[.int .i64 a0_2, .int .i64 1073741824] rfl (by (try simp only [List.map_toArray, List.map_cons, List.map_nil]); first | done | rfl | (simp only [List.length_drop, List.length_take]; rfl)) ?_; (with_reducible refine (purse_within.calls a0_2 1073741824 true _ A2.out).mono ?_); rintro e w' ⟨rfl, ⟨nd, rfl⟩⟩; refine ⟨_, rfl, ?_⟩) | (go_at_call 22; (with_reducible refine (purse_within.calls a0_3 1073741824 true _ A4.out).mono ?_); rintro e w' ⟨rfl, ⟨nd, rfl⟩⟩) | (go_at_call 22; (with_reducible refine (purse_within.calls a0_0 a0_2 false _ A6.out).mono ?_); rintro e w' ⟨rfl, ⟨nd, rfl⟩⟩))
        go_ret
        exact ⟨by first | rfl | (simp [errW_none, errW_some] <;> rfl) | (simp [*, errW_none, errW_some] <;> rfl), by repeat (first | (with_reducible first | exact HB.out | apply below_alloc | apply pw_below_drewN | apply below_drew1 | refine below_set ?_ GE114.out) | exact HB.out)⟩
    · replace c5 := Bool.eq_false_iff.mpr c5
      subst c5
      have H1 : (some false) = some r := by rw [if_neg (show ¬ (false = true) by decide)] at H; exact H
      clear H
      have H := H1
      clear H1
      obtain rfl := Option.some.inj H
      go_enter Try.func16, Try.ntmps16
      go_wp2_with (first | ((with_reducible refine gate_dst (N := 1) rfl ?_); refine box_event ?hg (N := 1) ?hd (cs := #[.int .i64 a0_0, .int .i64 a0_1, .int .i64 a0_2, .int .i64 a0_3]) (t := 37) ?hr ?_; (case hd => rfl); (case hg => rfl); (case hr => first | (go_simp; done) | (go_simp; rfl)); intro gb114 hg w13 hbox hb; have n0_ := Aside0.mk (below_step (by repeat (first | (with_reducible first | exact HB.out | apply below_alloc | apply pw_below_drewN | apply below_drew1) | exact HB.out)) hb); have n1_ := Aside0.mk (hbox); have n2_ := Aside0.mk ((by rw [hg]; exact (below_size (by repeat (first | (with_reducible first | exact HB.out | apply below_alloc | apply pw_below_drewN | apply below_drew1) | exact HB.out))) : w.heap.size ≤ gb114)); have n3_ := Aside0.mk ((by rw [hg]; exact (below_size (by repeat (first | (with_reducible first | exact HB.out | apply below_alloc | apply pw_below_drewN | apply below_drew1) | exact HB.out))) : w.heap.size ≤ gb114)); clear HB; have HB := n0_; have BK114 := n1_; have GW114 := n2_; have GE114 := n3_; clear n0_ n1_ n2_ n3_; clear hb hbox hg; have hcz14_0 : w13.cell? ⟨gb114, 0, none⟩ = some (.int .i64 a0_0) := (blk_cell BK114.out 0).trans rfl; have hcz14_1 : w13.cell? ⟨gb114, 1, none⟩ = some (.int .i64 a0_1) := (blk_cell BK114.out 1).trans rfl; have hcz14_2 : w13.cell? ⟨gb114, 2, none⟩ = some (.int .i64 a0_2) := (blk_cell BK114.out 2).trans rfl; have hcz14_3 : w13.cell? ⟨gb114, 3, none⟩ = some (.int .i64 a0_3) := (blk_cell BK114.out 3).trans rfl; have hfz14_0 := blk_frozen BK114.out 0; have hfz14_1 := blk_frozen BK114.out 1; have hfz14_2 := blk_frozen BK114.out 2; have hfz14_3 := blk_frozen BK114.out 3) | ((with_reducible refine gate_callee (f := 22) rfl ?_); refine goesL_ (some 5) rfl rfl Try.func22 (by kernel_rfl) rfl #[.int .i64 a0_2, .int .i64 1073741824] rfl (by (try simp only [List.map_toArray, List.map_cons, List.map_nil]); first | done | rfl | (simp only [List.length_drop, List.length_take]; rfl)) ?_; (with_reducible refine (purse_within.calls a0_2 1073741824 true _ A2.out).mono ?_); rintro e w' ⟨rfl, ⟨nd, rfl⟩⟩; refine ⟨_, rfl, ?_⟩) | (go_at_call 22; (with_reducible refine (purse_within.calls a0_3 1073741824 false _ A4.out).mono ?_); rintro e w' ⟨rfl, ⟨nd, rfl⟩⟩))
      go_ret
      exact ⟨by first | rfl | (simp [errW_none, errW_some] <;> rfl) | (simp [*, errW_none, errW_some] <;> rfl), by repeat (first | (with_reducible first | exact HB.out | apply below_alloc | apply pw_below_drewN | apply below_drew1 | refine below_set ?_ GE114.out) | exact HB.out)⟩
  · replace c3 := Bool.eq_false_iff.mpr c3
    subst c3
    have H1 : (some false) = some r := by rw [if_neg (show ¬ (false = true) by decide)] at H; exact H
    clear H
    have H := H1
    clear H1
    obtain rfl := Option.some.inj H
    go_enter Try.func16, Try.ntmps16
    go_wp2_with (first | ((with_reducible refine gate_dst (N := 1) rfl ?_); refine box_event ?hg (N := 1) ?hd (cs := #[.int .i64 a0_0, .int .i64 a0_1, .int .i64 a0_2, .int .i64 a0_3]) (t := 37) ?hr ?_; (case hd => rfl); (case hg => rfl); (case hr => first | (go_simp; done) | (go_simp; rfl)); intro gb114 hg w15 hbox hb; have n0_ := Aside0.mk (below_step (by repeat (first | (with_reducible first | exact HB.out | apply below_alloc | apply pw_below_drewN | apply below_drew1) | exact HB.out)) hb); have n1_ := Aside0.mk (hbox); have n2_ := Aside0.mk ((by rw [hg]; exact (below_size (by repeat (first | (with_reducible first | exact HB.out | apply below_alloc | apply pw_below_drewN | apply below_drew1) | exact HB.out))) : w.heap.size ≤ gb114)); have n3_ := Aside0.mk ((by rw [hg]; exact (below_size (by repeat (first | (with_reducible first | exact HB.out | apply below_alloc | apply pw_below_drewN | apply below_drew1) | exact HB.out))) : w.heap.size ≤ gb114)); clear HB; have HB := n0_; have BK114 := n1_; have GW114 := n2_; have GE114 := n3_; clear n0_ n1_ n2_ n3_; clear hb hbox hg; have hcz16_0 : w15.cell? ⟨gb114, 0, none⟩ = some (.int .i64 a0_0) := (blk_cell BK114.out 0).trans rfl; have hcz16_1 : w15.cell? ⟨gb114, 1, none⟩ = some (.int .i64 a0_1) := (blk_cell BK114.out 1).trans rfl; have hcz16_2 : w15.cell? ⟨gb114, 2, none⟩ = some (.int .i64 a0_2) := (blk_cell BK114.out 2).trans rfl; have hcz16_3 : w15.cell? ⟨gb114, 3, none⟩ = some (.int .i64 a0_3) := (blk_cell BK114.out 3).trans rfl; have hfz16_0 := blk_frozen BK114.out 0; have hfz16_1 := blk_frozen BK114.out 1; have hfz16_2 := blk_frozen BK114.out 2; have hfz16_3 := blk_frozen BK114.out 3) | ((with_reducible refine gate_callee (f := 22) rfl ?_); refine goesL_ (some 5) rfl rfl Try.func22 (by kernel_rfl) rfl #[.int .i64 a0_2, .int .i64 1073741824] rfl (by (try simp only [List.map_toArray, List.map_cons, List.map_nil]); first | done | rfl | (simp only [List.length_drop, List.length_take]; rfl)) ?_; (with_reducible refine (purse_within.calls a0_2 1073741824 false _ A2.out).mono ?_); rintro e w' ⟨rfl, ⟨nd, rfl⟩⟩; refine ⟨_, rfl, ?_⟩))
    go_ret
    exact ⟨by first | rfl | (simp [errW_none, errW_some] <;> rfl) | (simp [*, errW_none, errW_some] <;> rfl), by repeat (first | (with_reducible first | exact HB.out | apply below_alloc | apply pw_below_drewN | apply below_drew1 | refine below_set ?_ GE114.out) | exact HB.out)⟩
noncomputable def bivouaclaw19_few.f (l0 : List (S23)) : Option ((List (S23))) := if (l0.length : Int) > 66 then (if 66 ≤ (l0.length : Int) then (some (l0.take 66)) else (none)) else (some l0)
set_option maxHeartbeats 8000000 in
set_option maxRecDepth 100000 in
theorem bivouaclaw19_few.calls (P0_ : Nat → Prop) (A0 : Option Addr) (c0 : Nat) (l0 : List (S23)) (r : List (S23)) (w : World) (hs0 : Kd.V k23 23 w w.heap.size (fun k_ => P0_ k_) (.slice A0 l0.length c0) l0) (h : bivouaclaw19_few.f l0 = some r) :
    Calls Try.prog 14 #[.slice A0 l0.length c0] w fun e w' => ∃ v0_ : Value, e = .returned (v0_) ∧ Kd.V k23 23 w' w.heap.size (fun k_ => (P0_ k_ ∨ w.heap.size ≤ k_)) v0_ r ∧ Below w.heap.size w w' := by
  have HO0 := Aside0.mk (show Kd.V k23 23 w w.heap.size (fun k_ => (P0_ k_ ∨ w.heap.size ≤ k_)) (.slice A0 l0.length c0) l0 from Kd.V_mono hs0 (fun k_ hk => .inl hk))
  have HB := Aside0.mk (Below.refl w.heap.size w)
  have H : (if (l0.length : Int) > 66 then (if 66 ≤ (l0.length : Int) then (some (l0.take 66)) else (none)) else (some l0)) = some r := h
  clear h
  by_cases c2 : (l0.length : Int) > 66
  · rw [if_pos c2] at H
    have c2b0 : decide (66 < (l0.length : Int)) = true := decide_eq_true c2
    have c2b1 : decide (66 < l0.length) = true := decide_eq_true (by omega)
    clear c2
    by_cases c3 : 66 ≤ (l0.length : Int)
    · rw [if_pos c3] at H
      have c3b0 := eq_true c3
      have c3b1 : decide (66 ≤ (l0.length : Int)) = true := decide_eq_true c3
      clear c3
      obtain ⟨y148, hy148⟩ : ∃ y_ : List (S23), y_ = (l0.take 66) := ⟨_, rfl⟩
      replace H : (some y148) = some r := by first | (rw [hy148]; with_reducible exact H) | (have H2_ := (Option.bind_some _ _).symm.trans H; rw [hy148]; with_reducible exact H2_) | (have H2_ := (Option.bind_some _ _).symm.trans H; with_reducible exact H2_) | with_reducible exact H | (rw [hy148]; exact H) | exact H
      have Ny148 := Aside0.mk hy148
      clear hy148
      obtain rfl := Option.some.inj H
      have q4 : (66 : Int) ≤ ((l0.length : Int) : Int) := of_decide_eq_true (by first | (with_reducible assumption) | assumption)
      obtain ⟨i04, hi04, _, hsz4, _⟩ := info_parts info23
      have hroom4 : l0.length ≤ c0 := (Kd.V_reads' HO0.out).2.1
      have hC4 : Kd.F k23 _ _ A0 l0.length l0 := (Kd.V_at (base := w.heap.size) HO0.out).2.2
      have hcut4 := cut_to (P := Try.prog) 38 23 .i64 Try.underlying38 hi04 A0 l0.length c0 66 (by omega) q4 hroom4
      have hr4 := Kd.F_take (m := 66) hC4 (by omega)
      have hy4 : y148.length = (66 : Int).toNat := (by rw [Ny148.out, List.length_take]; omega)
      rw [← Ny148.out] at hr4
      rw [← hy4] at hcut4
      have HO152 := Aside0.mk (show Kd.V k23 23 _ w.heap.size _ (.slice A0 y148.length c0) y148 from Kd.V_mk (by omega) hr4)
      have HC152 := Aside0.mk (show y148.length ≤ c0 from by omega)
      clear hr4 hC4 hroom4 hi04 hsz4
      have KY4 := Aside0.mk hy4
      clear hy4
      replace q4 := eq_true q4
      go_enter Try.func14, Try.ntmps14
      go_wp2
      go_ret
      exact ⟨_, by first | rfl | (simp [errW_none, errW_some] <;> rfl) | (simp [*, errW_none, errW_some] <;> rfl), by (with_reducible repeat (first | apply Kd.V_alloc | apply Kd.V_drewN | apply Kd.V_drew)); exact HO152.out, by repeat (first | (with_reducible first | exact HB.out | apply below_alloc | apply pw_below_drewN | apply below_drew1) | exact HB.out)⟩
    · rw [if_neg c3] at H
      exact absurd H (by simp)
  · rw [if_neg c2] at H
    have c2b0 : decide (66 < (l0.length : Int)) = false := decide_eq_false c2
    have c2b1 : decide (66 < l0.length) = false := decide_eq_false (by omega)
    clear c2
    obtain rfl := Option.some.inj H
    go_enter Try.func14, Try.ntmps14
    go_wp2
    go_ret
    exact ⟨_, by first | rfl | (simp [errW_none, errW_some] <;> rfl) | (simp [*, errW_none, errW_some] <;> rfl), by (with_reducible repeat (first | apply Kd.V_alloc | apply Kd.V_drewN | apply Kd.V_drew)); exact HO0.out, by repeat (first | (with_reducible first | exact HB.out | apply below_alloc | apply pw_below_drewN | apply below_drew1) | exact HB.out)⟩
end Go.Proofs.Ytfhdibankkokoaa.MPu
namespace Go.Proofs.Ytfhdibankkokoaa.MPu
open Go.RowKit Go.Proofs.YtfhdibankkokoaaW.PrintWords Go.Proofs.YtfhdibankkokoaaW.PrintLast Go.Proofs.YtfhdibankkokoaaW.PrintMore
attribute [local go_sem] max2_int min2_int max_two min_two max_three min_three max_four min_four
set_option linter.unusedVariables false
set_option linter.unusedSimpArgs false
end Go.Proofs.Ytfhdibankkokoaa.MPu
namespace Go.Proofs.Ytfhdibankkokoaa.MPu
open Go.RowKit Go.Proofs.YtfhdibankkokoaaW.PrintWords Go.Proofs.YtfhdibankkokoaaW.PrintLast Go.Proofs.YtfhdibankkokoaaW.PrintMore
attribute [local go_sem] max2_int min2_int max_two min_two max_three min_three max_four min_four
set_option linter.unusedVariables false
set_option linter.unusedSimpArgs false
end Go.Proofs.Ytfhdibankkokoaa.MPu
namespace Go.Proofs.Ytfhdibankkokoaa.MPu
open Go.RowKit Go.Proofs.YtfhdibankkokoaaW.PrintWords Go.Proofs.YtfhdibankkokoaaW.PrintLast Go.Proofs.YtfhdibankkokoaaW.PrintMore
attribute [local go_sem] max2_int min2_int max_two min_two max_three min_three max_four min_four
set_option linter.unusedVariables false
set_option linter.unusedSimpArgs false
end Go.Proofs.Ytfhdibankkokoaa.MPu
namespace Go.Proofs.Ytfhdibankkokoaa.MPu
open Go.RowKit Go.Proofs.YtfhdibankkokoaaW.PrintWords Go.Proofs.YtfhdibankkokoaaW.PrintLast Go.Proofs.YtfhdibankkokoaaW.PrintMore
attribute [local go_sem] max2_int min2_int max_two min_two max_three min_three max_four min_four
set_option linter.unusedVariables false
set_option linter.unusedSimpArgs false
end Go.Proofs.Ytfhdibankkokoaa.MPu
namespace Go.Proofs.Ytfhdibankkokoaa.MPu
open Go.RowKit Go.Proofs.YtfhdibankkokoaaW.PrintWords Go.Proofs.YtfhdibankkokoaaW.PrintLast Go.Proofs.YtfhdibankkokoaaW.PrintMore
attribute [local go_sem] max2_int min2_int max_two min_two max_three min_three max_four min_four
set_option linter.unusedVariables false
set_option linter.unusedSimpArgs false
end Go.Proofs.Ytfhdibankkokoaa.MPu
namespace Go.Proofs.Ytfhdibankkokoaa.MPu
open Go Go.RowKit Go.ChangeShapes Go.WideShapes Go.Proofs.YtfhdibankkokoaaW.PrintWords
set_option linter.unusedVariables false
set_option linter.unusedSimpArgs false
def cellAt (w : World) (a : Addr) : Int := match w.cell? a with
  | some (.int _ z) => z
  | _ => 0
theorem gslice23 {H : Type} {enc : TypeId × Value → H} {w : World} {base : Nat} {spare : Nat → Bool} {held : Bool} {v : Value} {m : Nat} {x : DataW H × List MemPlace} (h : DataW.trod enc Try.prog w base spare held m 38 [v] = some x) :
    ∃ (A : Option Addr) (c : Nat) (l : List S23), v = .slice A l.length c ∧ l.length ≤ c ∧ Kd.C k23 w A l.length l := by
  rcases Go.Deep.open_slice Try.underlying38 h with ⟨h1, _⟩ | ⟨a, len, cap, m, n, D, Pl, h1, hb, hl, hm, hmm, hx, hi⟩
  · simp only [List.cons.injEq, and_true] at h1
    exact ⟨none, 0, [], h1, Nat.le_refl _, Kd.C_nil _ _⟩
  · simp only [List.cons.injEq, and_true] at h1
    have hlm : len ≤ m := by rw [hmm]; split <;> omega
    have hC : Try.prog.cellsOf 23 = 2 := by kernel_rfl
    have hg : gleaves Try.prog 6 23 = some [.int .i64, .int .i64] := by kernel_rfl
    rw [hC] at hi
    have hc : ∀ i, i < m → ∃ z0 z1 : Int, w.cell? (a.add (i * 2)) = some (.int .i64 z0) ∧ w.cell? (a.add (i * 2 + 1)) = some (.int .i64 z1) := by
      intro i him
      obtain ⟨cs, hcs, ht⟩ := hi i him
      obtain ⟨_, hcl, hat⟩ := World.cells?_some hcs
      have hf := gflat_open 6 _ _ hg _ _ _ (by rw [hC]; exact hcl) ht
      clear hcs ht
      rcases cs with _ | ⟨u0, cs⟩
      · exact hf.elim
      obtain ⟨⟨z0, rfl, _⟩, hf⟩ := hf
      rcases cs with _ | ⟨u1, cs⟩
      · exact hf.elim
      obtain ⟨⟨z1, rfl, _⟩, hf⟩ := hf
      refine ⟨z0, z1, ?_, ?_⟩
      · have := hat 0 (by omega); rw [Go.Deep.add_add] at this; exact this
      · have := hat 1 (by omega); rw [Go.Deep.add_add] at this; exact this
    refine ⟨some a, cap, (List.range len).map fun i => ⟨cellAt w (a.add (i * 2)), cellAt w (a.add (i * 2 + 1))⟩, by simpa using h1, by simpa using hl, ?_⟩
    unfold Kd.C ReadsRow
    refine ⟨rfl, by unfold maxLen at hm; simp; omega, fun _ => ⟨a, rfl, fun j p hp => ?_⟩⟩
    have hj : j < len := by simpa using (List.getElem?_eq_some_iff.1 hp).1
    have e : (⟨cellAt w (a.add (j * 2)), cellAt w (a.add (j * 2 + 1))⟩ : S23) = p := by simpa [hj] using hp
    subst e
    obtain ⟨z0, z1, g0, g1⟩ := hc j (Nat.lt_of_lt_of_le hj hlm)
    refine ⟨_, rfl, k23_mk w _, fun i u hu => ?_⟩
    match i, hu with
    | 0, hu =>
      obtain rfl := Option.some.inj hu
      rw [show cellAt w (a.add (j * 2)) = z0 by unfold cellAt; rw [g0]]
      exact g0
    | 1, hu =>
      obtain rfl := Option.some.inj hu
      rw [show cellAt w (a.add (j * 2 + 1)) = z1 by unfold cellAt; rw [g1]]
      exact g1
    | i + 2, hu => simp at hu
end Go.Proofs.Ytfhdibankkokoaa.MPu
namespace Go.Proofs.Ytfhdibankkokoaa.MPu
open Go Go.RowKit Go.Proofs.YtfhdibankkokoaaW.PrintMore Go.Proofs.YtfhdibankkokoaaW.PrintWords
set_option linter.unusedVariables false
set_option linter.unusedSimpArgs false
theorem w_in {x : Int} (h0 : -9223372036854775808 ≤ x) (h1 : x ≤ 9223372036854775807) : wrap64 x = x := by unfold wrap64; omega
theorem mul_nn {a b : Int} {B C : Int} (h0 : 0 ≤ a) (h1 : a ≤ B) (k0 : 0 ≤ b) (k1 : b ≤ C) : 0 ≤ a * b ∧ a * b ≤ B * C :=
  ⟨Int.mul_nonneg h0 k0, Int.le_trans (Int.mul_le_mul_of_nonneg_right h1 k0) (Int.mul_le_mul_of_nonneg_left k1 (by omega))⟩
def MayP (M E CM CE : Int) : Prop := 0 ≤ CM ∧ CM ≤ 1073741824 ∧ 0 ≤ CE ∧ CE ≤ 1073741824 ∧ 0 ≤ M ∧ M ≤ CM ∧ 0 ≤ E ∧ E ≤ CE
instance (M E CM CE : Int) : Decidable (MayP M E CM CE) := by unfold MayP; infer_instance
def WishP (a b : Int) : Prop := 0 ≤ a ∧ a ≤ 1048576 ∧ 0 ≤ b ∧ b ≤ 1048576
instance (a b : Int) : Decidable (WishP a b) := by unfold WishP; infer_instance
def wishB (x : S23) : Bool := decide (WishP x.f0 x.f1)
theorem in_eq (a b : Int) : (if a ≥ 0 then some (decide (a ≤ b)) else some false) = some (decide (0 ≤ a ∧ a ≤ b)) := by
  split
  · congr 1; exact decide_eq_decide.2 ⟨fun q => ⟨by assumption, q⟩, fun q => q.2⟩
  · rw [decide_eq_false (by omega)]
theorem within_f (a b : Int) : purse_within.f a b = some (decide (0 ≤ a ∧ a ≤ b)) := in_eq a b
theorem may_f (M E CM CE : Int) : purse_May.f M E CM CE = some (decide (MayP M E CM CE)) := by
  unfold purse_May.f
  simp only [within_f, Option.bind_some, decide_eq_true_eq]
  repeat' split
  · congr 1; exact decide_eq_decide.2 ⟨fun q => by unfold MayP; omega, fun q => by unfold MayP at q; omega⟩
  all_goals rw [decide_eq_false (by unfold MayP; omega)]
theorem wish_f (a b : Int) : purse_wish.f a b = some (decide (WishP a b)) := by
  unfold purse_wish.f
  simp only [within_f, Option.bind_some, decide_eq_true_eq]
  repeat' split
  · congr 1; exact decide_eq_decide.2 ⟨fun q => by unfold WishP; omega, fun q => by unfold WishP at q; omega⟩
  all_goals rw [decide_eq_false (by unfold WishP; omega)]
def scaleS (h w : Int) : Int := if h ≥ w then 65536 else h * 65536 / w
theorem scaleS_range {h w : Int} (h0 : 0 ≤ h) (w0 : 0 ≤ w) : 0 ≤ scaleS h w ∧ scaleS h w ≤ 65536 := by
  unfold scaleS
  split
  · omega
  · rename_i q
    refine ⟨Int.ediv_nonneg (by omega) w0, ?_⟩
    have : h * 65536 / w < 65536 := Int.ediv_lt_of_lt_mul (by omega) (by omega)
    omega
def ScaleP (h w : Int) : Prop := 0 ≤ h ∧ h ≤ 1099511627776 ∧ 0 ≤ w ∧ w ≤ 1099511627776
instance (h w : Int) : Decidable (ScaleP h w) := by unfold ScaleP; infer_instance
theorem scale_f {h w : Int} (q : ScaleP h w) (k : Nat) : purse_Scale.f (k + 1) h w = some (scaleS h w, 0) := by
  unfold ScaleP at q
  unfold purse_Scale.f
  rw [within_f, Option.bind_some, if_pos (decide_eq_true (by omega)), within_f, Option.bind_some, decide_eq_true (by omega), purse_Scale.j0, if_neg (by decide)]
  unfold scaleS
  by_cases c : h ≥ w
  · rw [if_pos c, if_pos c]
  · rw [if_neg c, if_neg c]
    have hr := scaleS_range (h := h) (w := w) (by omega) (by omega)
    unfold scaleS at hr
    rw [if_neg c] at hr
    unfold num_MulDiv.f
    rw [if_pos (by unfold fits; omega), if_pos (by unfold fits; omega), if_pos (by unfold fits; omega)]
    have e1 : mulDiv h 65536 w = (h * 65536 / w, 0) := by
      unfold mulDiv
      rw [if_neg (by omega)]
      unfold flr
      rw [if_pos (by omega)]
      exact fitted_in (by unfold fits; omega)
    rw [e1]
    rfl
def partS (s : Int) (x : S23) : S23 := ⟨x.f0 * s / 65536, x.f1 * s / 65536⟩
theorem part_range {a s : Int} (a0 : 0 ≤ a) (a1 : a ≤ 1048576) (s0 : 0 ≤ s) (s1 : s ≤ 65536) : 0 ≤ a * s ∧ a * s ≤ 68719476736 ∧ 0 ≤ a * s / 65536 ∧ a * s / 65536 ≤ a := by
  have h := mul_nn a0 a1 s0 s1
  have h2 : a * s ≤ a * 65536 := Int.mul_le_mul_of_nonneg_left s1 a0
  omega
theorem part_f {a b s : Int} (q : WishP a b) (s0 : 0 ≤ s) (s1 : s ≤ 65536) (k : Nat) : purse_Part.f (k + 1) a b s = some (a * s / 65536, b * s / 65536, 0) := by
  have h := q
  unfold WishP at q
  have ha := part_range (a := a) (by omega) (by omega) s0 s1
  have hb := part_range (a := b) (by omega) (by omega) s0 s1
  unfold purse_Part.f
  rw [wish_f, Option.bind_some, if_pos (decide_eq_true h), if_neg (by omega), decide_eq_false (by omega), purse_Part.j0, if_neg (by decide), w_in (x := a * s) (by omega) (by omega), w_in (x := b * s) (by omega) (by omega)]
def sumM : List S23 → Int
  | [] => 0
  | x :: l => x.f0 + sumM l
def sumE : List S23 → Int
  | [] => 0
  | x :: l => x.f1 + sumE l
theorem sumM_app (a b : List S23) : sumM (a ++ b) = sumM a + sumM b := by
  induction a with
  | nil => simp [sumM]
  | cons x a ih => simp only [List.cons_append, sumM, ih]; omega
theorem sumE_app (a b : List S23) : sumE (a ++ b) = sumE a + sumE b := by
  induction a with
  | nil => simp [sumE]
  | cons x a ih => simp only [List.cons_append, sumE, ih]; omega
theorem take_next (l : List S23) (j : Nat) (h : j < l.length) : l.take (j + 1) = l.take j ++ [rd_T23 l j] := by
  rw [List.take_succ_eq_append_getElem h]
  congr 2
  unfold rd_T23
  rw [List.getD_eq_getElem?_getD]
  simp [h]
theorem sum_next (l : List S23) (j : Nat) (h : j < l.length) : sumM (l.take (j + 1)) = sumM (l.take j) + (rd_T23 l j).f0 ∧ sumE (l.take (j + 1)) = sumE (l.take j) + (rd_T23 l j).f1 := by
  rw [take_next l j h, sumM_app, sumE_app]
  simp [sumM, sumE]
theorem sum_range (l : List S23) (h : l.all wishB = true) : 0 ≤ sumM l ∧ sumM l ≤ 1048576 * l.length ∧ 0 ≤ sumE l ∧ sumE l ≤ 1048576 * l.length := by
  induction l with
  | nil => simp [sumM, sumE]
  | cons x l ih =>
    rw [List.all_cons, Bool.and_eq_true] at h
    have hx : WishP x.f0 x.f1 := of_decide_eq_true h.1
    have := ih h.2
    unfold WishP at hx
    simp only [sumM, sumE, List.length_cons]
    omega
theorem all_take {l : List S23} (h : l.all wishB = true) (j : Nat) : (l.take j).all wishB = true := by
  rw [List.all_eq_true] at h ⊢
  exact fun x hx => h x (List.mem_of_mem_take hx)
theorem all_next {l : List S23} {j : Nat} (h : j < l.length) (ha : (l.take j).all wishB = true) (hb : wishB (rd_T23 l j) = true) : (l.take (j + 1)).all wishB = true := by
  rw [take_next l j h, List.all_append, ha]
  simpa using hb
theorem all_rd {l : List S23} (h : l.all wishB = true) {j : Nat} (hj : j < l.length) : wishB (rd_T23 l j) = true := by
  rw [List.all_eq_true] at h
  refine h _ ?_
  unfold rd_T23
  rw [List.getD_eq_getElem?_getD]
  simp [hj]
theorem all_not {l : List S23} {j : Nat} (hj : j < l.length) (hb : wishB (rd_T23 l j) = false) : l.all wishB = false := by
  cases h : l.all wishB with
  | false => rfl
  | true => rw [all_rd h hj] at hb; cases hb
theorem map_next (s : Int) (l : List S23) (j : Nat) (h : j < l.length) : (l.take (j + 1)).map (partS s) = (l.take j).map (partS s) ++ [partS s (rd_T23 l j)] := by rw [take_next l j h, List.map_append]; rfl
theorem psum_range {s : Int} (s0 : 0 ≤ s) (s1 : s ≤ 65536) (l : List S23) (h : l.all wishB = true) : 0 ≤ sumM (l.map (partS s)) ∧ sumM (l.map (partS s)) ≤ sumM l ∧ 0 ≤ sumE (l.map (partS s)) ∧ sumE (l.map (partS s)) ≤ sumE l := by
  induction l with
  | nil => simp [sumM, sumE]
  | cons x l ih =>
    rw [List.all_cons, Bool.and_eq_true] at h
    have hx : WishP x.f0 x.f1 := of_decide_eq_true h.1
    have := ih h.2
    unfold WishP at hx
    have ha := part_range (a := x.f0) (by omega) (by omega) s0 s1
    have hb := part_range (a := x.f1) (by omega) (by omega) s0 s1
    simp only [List.map_cons, sumM, sumE, partS]
    omega
def ServeP (M E CM CE a b : Int) (l : List S23) : Prop := MayP M E CM CE ∧ WishP a b ∧ l.length ≤ 64 ∧ l.all wishB = true
instance (M E CM CE a b : Int) (l : List S23) : Decidable (ServeP M E CM CE a b l) := by unfold ServeP; infer_instance
def scl (M E a b : Int) (l : List S23) : Int := mn (scaleS (M + a) (sumM l)) (scaleS (E + b) (sumE l))
def purse_Serve.f (M E CM CE a b : Int) (l : List S23) : Option (Int × Int × Int × Int × Int × List S23 × Int) :=
  if ServeP M E CM CE a b l then
    some (mn (M + a - sumM (l.map (partS (scl M E a b l)))) CM, mn (E + b - sumE (l.map (partS (scl M E a b l)))) CE, CM, CE, scl M E a b l, l.map (partS (scl M E a b l)), 0)
  else some (0, 0, 0, 0, 0, [], 1)
end Go.Proofs.Ytfhdibankkokoaa.MPu
namespace Go.Proofs.Ytfhdibankkokoaa.MPu
open Go Go.RowKit Go.Proofs.YtfhdibankkokoaaW.PrintWords Go.Proofs.YtfhdibankkokoaaW.PrintLast Go.Proofs.YtfhdibankkokoaaW.PrintMore
set_option linter.unusedVariables false
set_option linter.unusedSimpArgs false
attribute [local go_sem] max2_int min2_int max_two min_two max_three min_three max_four min_four
set_option maxHeartbeats 4000000 in
set_option maxRecDepth 100000 in
theorem add_any (g : Nat) (m e wm we : Int) (w0 w : World) (hg : w.heap[g]? = some (.cells #[.int .i64 m, .int .i64 e] 23 (0, 0))) (hB : Below w0.heap.size w0 w) (h0 : w0.heap.size ≤ g) :
    Calls Try.prog 26 #[.agg #[.int .i64 wm, .int .i64 we], .pointer (some ⟨g, 0, none⟩)] w fun e' w' => e' = .returned (.tuple #[]) ∧
      w'.heap[g]? = some (.cells #[.int .i64 (wrap64 (m + wm)), .int .i64 (wrap64 (e + we))] 23 (0, 0)) ∧ KeepBut w w' g none ∧ Below w0.heap.size w0 w' := by
  have HG := Lib.hid hg
  have HB := Lib.hid hB
  have L0 : g < w.heap.size := blk_lt hg
  have hu := Try.underlying23
  clear hg hB
  go_enter Try.func26, Try.ntmps26
  go_wp2_with fail
  obtain ⟨V, hV⟩ : ∃ V_, (w.alloc (Obj.cells #[Value.int IntKind.i64 wm, Value.int IntKind.i64 we] 23)) = V_ := ⟨_, rfl⟩
  have hB : Below w.heap.size w V := by rw [← hV]; exact below_alloc (Below.refl _ _) _
  have b0 := blk_new w (Obj.cells #[Value.int IntKind.i64 wm, Value.int IntKind.i64 we] 23)
  rw [hV] at b0
  rw [hV]
  clear hV
  have c := blk_below HG.out hB
  have K := Lib.hid (KeepBut.of_below hB g none)
  have HB2 := Lib.hid (below_then HB.out HB.out.size hB)
  have f := blk_frozen c
  have x0 := blk_cell c 0
  have x1 := blk_cell c 1
  simp only [List.getElem?_toArray, List.getElem?_cons_succ, List.getElem?_cons_zero] at x0 x1
  have y0 := blk_cell b0 0
  have y1 := blk_cell b0 1
  simp only [List.getElem?_toArray, List.getElem?_cons_succ, List.getElem?_cons_zero] at y0 y1
  go_region
  all_goals (go_end0)
  all_goals exact ⟨rfl, blk_drew (blk_set (blk_set c 0 (.int .i64 (wrap64 (m + wm)))) 1 (.int .i64 (wrap64 (e + we)))), (K.out.set_ 0 _).set_ 1 _, below_drew (below_set (below_set HB2.out h0) h0)⟩
end Go.Proofs.Ytfhdibankkokoaa.MPu
namespace Go.Proofs.Ytfhdibankkokoaa.MPu
open Go Go.RowKit Go.Proofs.YtfhdibankkokoaaW.PrintWords Go.Proofs.YtfhdibankkokoaaW.PrintLast Go.Proofs.YtfhdibankkokoaaW.PrintMore
set_option linter.unusedVariables false
set_option linter.unusedSimpArgs false
attribute [local go_sem] max2_int min2_int max_two min_two max_three min_three max_four min_four
theorem serve_end {w wr : World} {v : Value} {xs : List S23} {M E CM CE z0 z1 z2 z3 : Int} (p q : Int) (ho : Kd.R k23 23 wr w.heap.size (fun _ => True) v xs)
    (h0 : wr.heap[w.heap.size]? = some (.cells #[.int .i64 M, .int .i64 E, .int .i64 CM, .int .i64 CE] 37 (0, 0)))
    (h2 : wr.heap[w.heap.size + 2]? = some (.cells #[.int .i64 z0, .int .i64 z1, .int .i64 z2, .int .i64 z3] 37 (0, 0))) (hb : Below w.heap.size w wr) :
    ∃ W : World, (((((((wr.setCell ⟨w.heap.size, 0, none⟩ (.int .i64 p)).setCell ⟨w.heap.size, 1, none⟩ (.int .i64 q)).setCell ⟨w.heap.size + 2, 0, none⟩ (.int .i64 p)).setCell ⟨w.heap.size + 2, 1, none⟩ (.int .i64 q)).setCell ⟨w.heap.size + 2, 2, none⟩ (.int .i64 CM)).setCell ⟨w.heap.size + 2, 3, none⟩ (.int .i64 CE)) = W) ∧
      W.heap[w.heap.size + 2]? = some (.cells #[.int .i64 p, .int .i64 q, .int .i64 CM, .int .i64 CE] 37 (0, 0)) ∧ Kd.R k23 23 W w.heap.size (fun _ => True) v xs ∧ Below w.heap.size w W := by
  have ht : ∀ q, q ∈ 23 :: k23.E → q ≠ 37 := by decide
  have a1 := blk_set h0 0 (.int .i64 p)
  have b1 := blk_set (blk_far (blk_far h2 (p := ⟨w.heap.size, 0, none⟩) (by simp) (.int .i64 p)) (p := ⟨w.heap.size, 1, none⟩) (by simp) (.int .i64 q)) 0 (.int .i64 p)
  have b2 := blk_set b1 1 (.int .i64 q)
  have b3 := blk_set b2 2 (.int .i64 CM)
  have b4 := blk_set b3 3 (.int .i64 CE)
  exact ⟨_, rfl, b4, Kd.R_set (Kd.R_set (Kd.R_set (Kd.R_set (Kd.R_set (Kd.R_set ho h0 ht 0 _) a1 ht 1 _) (blk_far (blk_far h2 (by simp) _) (by simp) _) ht 0 _) b1 ht 1 _) b2 ht 2 _) b3 ht 3 _,
    below_set (below_set (below_set (below_set (below_set (below_set hb (Nat.le_refl _)) (Nat.le_refl _)) (by omega)) (by omega)) (by omega)) (by omega)⟩
set_option maxHeartbeats 8000000 in
set_option maxRecDepth 100000 in
theorem purse_Serve.calls (M E CM CE im ie : Int) (A : Option Addr) (c : Nat) (l : List S23) (r1 r2 r3 r4 r5 : Int) (r6 : List S23) (r7 : Int) (w : World) (hr : Kd.C k23 w A l.length l) (hc : l.length ≤ c)
    (h : purse_Serve.f M E CM CE im ie l = some (r1, r2, r3, r4, r5, r6, r7)) :
    Calls Try.prog 15 #[.agg #[.int .i64 M, .int .i64 E, .int .i64 CM, .int .i64 CE], .agg #[.int .i64 im, .int .i64 ie], .slice A l.length c] w fun e w' => ∃ v6_ : Value,
      e = .returned (.tuple #[.agg #[.int .i64 r1, .int .i64 r2, .int .i64 r3, .int .i64 r4], .int .i64 r5, v6_, .int .i64 r7]) ∧ Kd.R k23 23 w' w.heap.size (fun _ => True) v6_ r6 ∧ Below w.heap.size w w' := by
  have HR := Lib.hid hr
  have HC := Lib.hid hc
  have HM : l.length ≤ 9223372036854775807 := Kd.C_max hr
  clear hr hc
  have hu := Try.underlying37
  have hu2 := Try.underlying23
  have hmf : ∀ (fn : Fn) (first cap : Array Value) (w : World), (Instr.makeFunc fn first cap).run Try.prog w = .ok (.func fn first cap) w := fun _ _ _ _ => rfl
  have H1 := Lib.hid (may_f M E CM CE)
  have HH := Lib.hid h
  clear h
  by_cases g1 : MayP M E CM CE
  · rw [decide_eq_true g1] at H1
    have G1 := Lib.hid g1
    clear g1
    have H2 := Lib.hid (wish_f im ie)
    by_cases g2 : WishP im ie
    · rw [decide_eq_true g2] at H2
      have G2 := Lib.hid g2
      clear g2
      by_cases g3 : l.length ≤ 64
      · go_enter Try.func15, Try.ntmps15
        go_wp2_with fail
        obtain ⟨V, hV⟩ : ∃ V_, (((w.alloc (Obj.cells #[Value.int IntKind.i64 M, Value.int IntKind.i64 E, Value.int IntKind.i64 CM, Value.int IntKind.i64 CE] 37)).alloc (Obj.cells #[Value.int IntKind.i64 im, Value.int IntKind.i64 ie] 23)).alloc (Obj.cells #[Value.int IntKind.i64 0, Value.int IntKind.i64 0, Value.int IntKind.i64 0, Value.int IntKind.i64 0] 37)) = V_ := ⟨_, rfl⟩
        have hB : Below w.heap.size w V := by rw [← hV]; exact below_alloc (below_alloc (below_alloc (Below.refl _ _) _) _) _
        have b0 := blk_alloc (blk_alloc (blk_new w (Obj.cells #[Value.int IntKind.i64 M, Value.int IntKind.i64 E, Value.int IntKind.i64 CM, Value.int IntKind.i64 CE] 37)) (Obj.cells #[Value.int IntKind.i64 im, Value.int IntKind.i64 ie] 23)) (Obj.cells #[Value.int IntKind.i64 0, Value.int IntKind.i64 0, Value.int IntKind.i64 0, Value.int IntKind.i64 0] 37)
        rw [hV] at b0
        have b1 := blk_alloc (blk_new (w.alloc (Obj.cells #[Value.int IntKind.i64 M, Value.int IntKind.i64 E, Value.int IntKind.i64 CM, Value.int IntKind.i64 CE] 37)) (Obj.cells #[Value.int IntKind.i64 im, Value.int IntKind.i64 ie] 23)) (Obj.cells #[Value.int IntKind.i64 0, Value.int IntKind.i64 0, Value.int IntKind.i64 0, Value.int IntKind.i64 0] 37)
        rw [hV] at b1
        have zb1 : (w.alloc (Obj.cells #[Value.int IntKind.i64 M, Value.int IntKind.i64 E, Value.int IntKind.i64 CM, Value.int IntKind.i64 CE] 37)).heap.size = w.heap.size + 1 := by simp
        rw [zb1] at b1
        clear zb1
        have b2 := blk_new ((w.alloc (Obj.cells #[Value.int IntKind.i64 M, Value.int IntKind.i64 E, Value.int IntKind.i64 CM, Value.int IntKind.i64 CE] 37)).alloc (Obj.cells #[Value.int IntKind.i64 im, Value.int IntKind.i64 ie] 23)) (Obj.cells #[Value.int IntKind.i64 0, Value.int IntKind.i64 0, Value.int IntKind.i64 0, Value.int IntKind.i64 0] 37)
        rw [hV] at b2
        have zb2 : ((w.alloc (Obj.cells #[Value.int IntKind.i64 M, Value.int IntKind.i64 E, Value.int IntKind.i64 CM, Value.int IntKind.i64 CE] 37)).alloc (Obj.cells #[Value.int IntKind.i64 im, Value.int IntKind.i64 ie] 23)).heap.size = w.heap.size + 2 := by simp
        rw [zb2] at b2
        clear zb2
        rw [hV]
        clear hV
        refine (purse_May.calls M E CM CE true V H1.out).mono ?_
        rintro e w1 ⟨rfl, hb1⟩
        have HB1 := Lib.hid (below_then hB hB.size hb1)
        have C0 := Lib.hid (blk_below b0 hb1)
        have D1 := blk_below b1 hb1
        have D2 := Lib.hid (blk_below b2 hb1)
        clear b0 b1 b2 hB hb1
        have x0 := blk_cell D1 0
        have x1 := blk_cell D1 1
        simp only [List.getElem?_toArray, List.getElem?_cons_succ, List.getElem?_cons_zero] at x0 x1
        go_wp2_with fail
        refine (purse_wish.calls im ie true w1 H2.out).mono ?_
        rintro e w2 ⟨rfl, hb2⟩
        have HB2 := Lib.hid (below_then HB1.out HB1.out.size hb2)
        have L2 : w.heap.size ≤ w2.heap.size := HB2.out.size
        have L3 : w.heap.size + 2 < w2.heap.size := blk_lt (blk_below D2.out hb2)
        have F0 := Lib.hid (blk_below C0.out hb2)
        have F1 := Lib.hid (blk_below D1 hb2)
        have F2 := Lib.hid (blk_below D2.out hb2)
        clear x0 x1 C0 D1 D2 hb2 HB1
        go_wp2
        obtain ⟨V, hV⟩ : ∃ V_, (w2.alloc (Obj.cells #[Value.int IntKind.i64 0, Value.int IntKind.i64 0] 23)) = V_ := ⟨_, rfl⟩
        have hBV : Below w2.heap.size w2 V := by rw [← hV]; exact below_alloc (Below.refl _ _) _
        have a0 := blk_new w2 (Obj.cells #[Value.int IntKind.i64 0, Value.int IntKind.i64 0] 23)
        rw [hV] at a0
        rw [hV]
        clear hV
        have K0 := Lib.hid (blk_below F0.out hBV)
        have K1 := Lib.hid (blk_below F1.out hBV)
        have K2 := Lib.hid (blk_below F2.out hBV)
        have A0 := Lib.hid a0
        have HBV := Lib.hid (below_then HB2.out HB2.out.size hBV)
        have LA : w2.heap.size < V.heap.size := blk_lt a0
        clear a0 hBV F0 F1 F2
        go_loopw [43] (fun i wr => ∃ j : Nat, i = .int .i64 j ∧ j ≤ l.length ∧ Hid ((l.take j).all wishB = true) ∧ Hid (wr.heap[w2.heap.size]? = some (.cells #[.int .i64 (sumM (l.take j)), .int .i64 (sumE (l.take j))] 23 (0, 0))) ∧ Hid (KeepBut V wr w2.heap.size none) ∧ Hid (Below w.heap.size w wr)) (fun i _ => l.length - (intOf i).toNat)
        case atStart => exact ⟨0, rfl, Nat.zero_le _, Lib.hid (by simp), Lib.hid (by simpa [sumM, sumE] using A0.out), Lib.hid (KeepBut.refl _ _ _), HBV⟩
        case round =>
          obtain ⟨j, rfl, hj, ha, hs, hk, hb⟩ := hrel
          by_cases hlt : j < l.length
          · obtain ⟨ad, rfl, c0, c1⟩ := at_T23 HR.out (j : Int) (by omega) (by omega)
            obtain ⟨x0, hx0⟩ : ∃ z, (rd_T23 l (j : Int)).f0 = z := ⟨_, rfl⟩
            obtain ⟨x1, hx1⟩ : ∃ z, (rd_T23 l (j : Int)).f1 = z := ⟨_, rfl⟩
            rw [hx0, Int.toNat_natCast] at c0
            rw [hx1, Int.toNat_natCast] at c1
            replace c0 := (hb.out.cell (World.block_lt_of_cell? w _ c0)).trans c0
            replace c1 := (hb.out.cell (World.block_lt_of_cell? w _ c1)).trans c1
            have X0 := Lib.hid hx0
            have X1 := Lib.hid hx1
            clear hx0 hx1
            have H3 := Lib.hid (wish_f x0 x1)
            have LW : w2.heap.size < wr.heap.size := blk_lt hs.out
            have LW0 : w.heap.size ≤ wr.heap.size := hb.out.size
            by_cases hw : WishP x0 x1
            · rw [decide_eq_true hw] at H3
              have HW := Lib.hid hw
              clear hw
              go_wp2_with fail
              refine (purse_wish.calls x0 x1 true _ H3.out).mono ?_
              rintro e w3 ⟨rfl, hb3⟩
              have hbx : Below wr.heap.size wr w3 := below_then (below_alloc (Below.refl _ wr) (Obj.cells #[Value.int IntKind.i64 x0, Value.int IntKind.i64 x1] 23)) (below_alloc (Below.refl _ wr) (Obj.cells #[Value.int IntKind.i64 x0, Value.int IntKind.i64 x1] 23)).size hb3
              have HB3 := Lib.hid (below_then hb.out hb.out.size hbx)
              have S3 := Lib.hid (blk_below (blk_alloc hs.out (Obj.cells #[Value.int IntKind.i64 x0, Value.int IntKind.i64 x1] 23)) hb3)
              have E3 := blk_below (blk_new wr (Obj.cells #[Value.int IntKind.i64 x0, Value.int IntKind.i64 x1] 23)) hb3
              have K3 := Lib.hid (hk.out.trans (KeepBut.of_below hbx w2.heap.size none) (.inl rfl))
              have y0 := blk_cell E3 0
              have y1 := blk_cell E3 1
              simp only [List.getElem?_toArray, List.getElem?_cons_succ, List.getElem?_cons_zero] at y0 y1
              clear hb3 hbx hk hs H3 c0 c1
              have LW3 : wr.heap.size < w3.heap.size := blk_lt E3
              have LA3 : w2.heap.size < w3.heap.size := blk_lt S3.out
              go_wp2_with fail
              refine (add_any w2.heap.size (sumM (l.take j)) (sumE (l.take j)) x0 x1 w w3 S3.out HB3.out L2).mono ?_
              rintro e w4 ⟨rfl, hg4, hk4, hb4⟩
              have K4 := Lib.hid (K3.out.trans hk4 (.inl rfl))
              have HB4 := Lib.hid hb4
              have hsr := sum_range (l.take j) ha.out
              have hsn := sum_next l j hlt
              rw [X0.out, X1.out] at hsn
              have hwo := HW.out
              unfold WishP at hwo
              rw [List.length_take, Nat.min_eq_left hj] at hsr
              rw [w_in (by omega) (by omega), w_in (by omega) (by omega), ← hsn.1, ← hsn.2] at hg4
              have S4 := Lib.hid hg4
              have A4 : Hid ((l.take (j + 1)).all wishB = true) := Lib.hid (all_next hlt ha.out (by unfold wishB; rw [X0.out, X1.out]; exact decide_eq_true HW.out))
              clear hg4 hk4 hb4 hsr hsn hwo E3 y0 y1
              go_wp2
              go_roundw
              case rel => exact ⟨j + 1, by go_num, by omega, A4, S4, K4, HB4⟩
              case measure => simp [intOf]; omega
            · rw [decide_eq_false hw] at H3
              have h := HH.out
              obtain ⟨rfl, rfl, rfl, rfl, rfl, rfl, rfl⟩ : 0 = r1 ∧ 0 = r2 ∧ 0 = r3 ∧ 0 = r4 ∧ 0 = r5 ∧ [] = r6 ∧ 1 = r7 := by
                unfold purse_Serve.f at h
                rw [if_neg (fun q => by have q2 := all_not hlt (show wishB (rd_T23 l (j : Int)) = false by unfold wishB; rw [X0.out, X1.out]; exact decide_eq_false hw); rw [q.2.2.2] at q2; cases q2)] at h
                simpa using h
              clear h HH hw
              go_wp2_with fail
              refine (purse_wish.calls x0 x1 false _ H3.out).mono ?_
              rintro e w3 ⟨rfl, hb3⟩
              have hbx : Below wr.heap.size wr w3 := below_then (below_alloc (Below.refl _ wr) (Obj.cells #[Value.int IntKind.i64 x0, Value.int IntKind.i64 x1] 23)) (below_alloc (Below.refl _ wr) (Obj.cells #[Value.int IntKind.i64 x0, Value.int IntKind.i64 x1] 23)).size hb3
              have HB3 := Lib.hid (below_then hb.out hb.out.size hbx)
              have S3 := Lib.hid (blk_below (blk_alloc hs.out (Obj.cells #[Value.int IntKind.i64 x0, Value.int IntKind.i64 x1] 23)) hb3)
              have E3 := blk_below (blk_new wr (Obj.cells #[Value.int IntKind.i64 x0, Value.int IntKind.i64 x1] 23)) hb3
              have K3 := Lib.hid (hk.out.trans (KeepBut.of_below hbx w2.heap.size none) (.inl rfl))
              have R3 := Lib.hid (K3.out.blk K2.out (by omega) (by simp))
              clear hb3 hbx hk hs H3 c0 c1 E3
              have Z := R3.out
              have fz := blk_frozen Z
              have hBB := HB3.out
              have q0 := blk_cell Z 0
              have q1 := blk_cell Z 1
              have q2 := blk_cell Z 2
              have q3 := blk_cell Z 3
              simp only [List.getElem?_toArray, List.getElem?_cons_succ, List.getElem?_cons_zero] at q0 q1 q2 q3
              go_wp2
              have e := blk_set (blk_set (blk_set (blk_set (Z) 0 (.int .i64 0)) 1 (.int .i64 0)) 2 (.int .i64 0)) 3 (.int .i64 0)
              have hB3 := below_set (g := w.heap.size + 2) (j := 3) (v := .int .i64 0) (below_set (g := w.heap.size + 2) (j := 2) (v := .int .i64 0) (below_set (g := w.heap.size + 2) (j := 1) (v := .int .i64 0) (below_set (g := w.heap.size + 2) (j := 0) (v := .int .i64 0) (hBB) (by omega)) (by omega)) (by omega)) (by omega)
              generalize ((((w3.setCell ⟨w.heap.size + 2, 0, none⟩ (.int .i64 0)).setCell ⟨w.heap.size + 2, 1, none⟩ (.int .i64 0)).setCell ⟨w.heap.size + 2, 2, none⟩ (.int .i64 0)).setCell ⟨w.heap.size + 2, 3, none⟩ (.int .i64 0)) = V3 at e hB3 ⊢
              have e0 := blk_cell e 0
              have e1 := blk_cell e 1
              have e2 := blk_cell e 2
              have e3 := blk_cell e 3
              simp only [List.setIfInBounds_toArray, List.set_cons_zero, List.set_cons_succ, List.getElem?_toArray, List.getElem?_cons_succ, List.getElem?_cons_zero] at e0 e1 e2 e3
              exact bodyPost_ret (v := .tuple #[.agg #[.int .i64 0, .int .i64 0, .int .i64 0, .int .i64 0], .int .i64 0, .slice none 0 0, .int .i64 1]) (by simp [results, Try.results15, go_sem, e0, e1, e2, e3]) rfl ⟨.slice none 0 0, rfl, Kd.R_nil _ _ _ _ _, hB3⟩
          · obtain rfl : j = l.length := by omega
            have ha' := ha.out
            have hs' := hs.out
            rw [List.take_length] at ha' hs'
            have S0 := Lib.hid hs'
            have AA := Lib.hid ha'
            have P0 := Lib.hid (hk.out.blk K0.out (by omega) (by simp))
            have P1 := Lib.hid (hk.out.blk K1.out (by omega) (by simp))
            have P2 := Lib.hid (hk.out.blk K2.out (by omega) (by simp))
            clear hs' ha' hs ha hk K0 K1 K2
            have h := HH.out
            unfold purse_Serve.f at h
            rw [if_pos ⟨G1.out, G2.out, g3, AA.out⟩] at h
            have gm := G1.out
            have gw := G2.out
            have gs := sum_range l AA.out
            unfold MayP at gm
            unfold WishP at gw
            have HS1 := Lib.hid (scale_f (h := M + im) (w := sumM l) (by unfold ScaleP; omega) 0)
            have HS2 := Lib.hid (scale_f (h := E + ie) (w := sumE l) (by unfold ScaleP; omega) 0)
            have q1 := scaleS_range (h := M + im) (w := sumM l) (by omega) (by omega)
            have q2 := scaleS_range (h := E + ie) (w := sumE l) (by omega) (by omega)
            obtain ⟨sc, hsc⟩ : ∃ z, scl M E im ie l = z := ⟨_, rfl⟩
            rw [hsc] at h
            have hsc2 : mn (scaleS (M + im) (sumM l)) (scaleS (E + ie) (sumE l)) = sc := hsc
            clear hsc
            obtain ⟨s1, hs1⟩ : ∃ z, scaleS (M + im) (sumM l) = z := ⟨_, rfl⟩
            obtain ⟨s2, hs2⟩ : ∃ z, scaleS (E + ie) (sumE l) = z := ⟨_, rfl⟩
            rw [hs1] at HS1 hsc2 q1
            rw [hs2] at HS2 hsc2 q2
            clear hs1 hs2
            have r0 : 0 ≤ sc ∧ sc ≤ 65536 := by rw [← hsc2]; unfold mn; split <;> omega
            have hsc3 : (if s2 < s1 then s2 else s1) = sc := hsc2
            have HE := Lib.hid h
            clear hsc2 h HH
            obtain ⟨sm, hsm⟩ : ∃ z, sumM l = z := ⟨_, rfl⟩
            obtain ⟨se, hse⟩ : ∃ z, sumE l = z := ⟨_, rfl⟩
            have ps := psum_range r0.1 r0.2 l AA.out
            rw [hsm, hse] at S0 gs ps
            rw [hsm] at HS1
            rw [hse] at HS2
            have SM := Lib.hid hsm
            have SE := Lib.hid hse
            have PS := Lib.hid ps
            clear hsm hse ps
            have m0 := blk_cell P0.out 0
            have m1 := blk_cell P0.out 1
            have m2 := blk_cell P0.out 2
            have m3 := blk_cell P0.out 3
            simp only [List.getElem?_toArray, List.getElem?_cons_succ, List.getElem?_cons_zero] at m0 m1 m2 m3
            have n0 := blk_cell P1.out 0
            have n1 := blk_cell P1.out 1
            simp only [List.getElem?_toArray, List.getElem?_cons_succ, List.getElem?_cons_zero] at n0 n1
            go_wp2_with fail
            go_quiet (fail)
            have S1 := Lib.hid (blk_drewN S0.out nq)
            have T0 := Lib.hid (blk_drewN P0.out nq)
            have T2 := Lib.hid (blk_drewN P2.out nq)
            have HB5 := Lib.hid (pw_below_drewN hb.out nq)
            clear P0 P1 P2 S0 hb m0 m1 m2 m3 n0 n1
            generalize wr.drewN nq = w5 at S1 T0 T2 HB5 ⊢
            have u0 := blk_cell S1.out 0
            have u1 := blk_cell S1.out 1
            simp only [List.getElem?_toArray, List.getElem?_cons_succ, List.getElem?_cons_zero] at u0 u1
            go_wp2_with fail
            refine (purse_Scale.calls 1 _ _ _ _ w5 HS1.out).mono ?_
            rintro e w6 ⟨rfl, hb6⟩
            have HB6 := Lib.hid (below_then HB5.out HB5.out.size hb6)
            have S2 := Lib.hid (blk_below S1.out hb6)
            have T3 := Lib.hid (blk_below T0.out hb6)
            have T4 := Lib.hid (blk_below T2.out hb6)
            clear S1 T0 T2 HB5 u0 u1 hb6 HS1
            have u0 := blk_cell S2.out 0
            have u1 := blk_cell S2.out 1
            simp only [List.getElem?_toArray, List.getElem?_cons_succ, List.getElem?_cons_zero] at u0 u1
            go_wp2_with fail
            refine (purse_Scale.calls 1 _ _ _ _ w6 HS2.out).mono ?_
            rintro e w7 ⟨rfl, hb7⟩
            have HB7 := Lib.hid (below_then HB6.out HB6.out.size hb7)
            have T5 := Lib.hid (blk_below T3.out hb7)
            have T6 := Lib.hid (blk_below T4.out hb7)
            clear S2 T3 T4 HB6 u0 u1 hb7 HS2
            go_wp2
            go_loopw [14, 15, 21, 84] (fun me en out i wq => ∃ j : Nat, i = .int .i64 j ∧ j ≤ l.length ∧ me = .int .i64 (M + im - sumM ((l.take j).map (partS sc))) ∧ en = .int .i64 (E + ie - sumE ((l.take j).map (partS sc))) ∧ Hid (Kd.R k23 23 wq w.heap.size (fun _ => True) out ((l.take j).map (partS sc))) ∧ Hid (wq.heap[w.heap.size]? = some (.cells #[.int .i64 M, .int .i64 E, .int .i64 CM, .int .i64 CE] 37 (0, 0))) ∧ Hid (wq.heap[w.heap.size + 2]? = some (.cells #[.int .i64 0, .int .i64 0, .int .i64 0, .int .i64 0] 37 (0, 0))) ∧ Hid (Below w.heap.size w wq)) (fun _ _ _ i _ => l.length - (intOf i).toNat)
            case atStart => exact ⟨0, rfl, Nat.zero_le _, by simp [sumM], by simp [sumE], Lib.hid (by simpa using Kd.R_nil _ _ _ _ _), T5, T6, HB7⟩
            case round =>
              obtain ⟨j, rfl, hj, rfl, rfl, ho, h0, h2, hb⟩ := hrel
              by_cases hlt : j < l.length
              · obtain ⟨ad, rfl, c0, c1⟩ := at_T23 HR.out (j : Int) (by omega) (by omega)
                have hW := all_rd AA.out hlt
                have hn := map_next sc l j hlt
                unfold wishB at hW
                obtain ⟨x0, hx0⟩ : ∃ z, (rd_T23 l (j : Int)).f0 = z := ⟨_, rfl⟩
                obtain ⟨x1, hx1⟩ : ∃ z, (rd_T23 l (j : Int)).f1 = z := ⟨_, rfl⟩
                unfold partS at hn
                rw [hx0, hx1] at hn
                rw [hx0, Int.toNat_natCast] at c0
                rw [hx1, Int.toNat_natCast] at c1
                rw [hx0, hx1] at hW
                have hWp := of_decide_eq_true hW
                replace c0 := (hb.out.cell (World.block_lt_of_cell? w _ c0)).trans c0
                replace c1 := (hb.out.cell (World.block_lt_of_cell? w _ c1)).trans c1
                have H3 := Lib.hid (part_f hWp r0.1 r0.2 0)
                unfold WishP at hWp
                have pa := part_range (a := x0) (by omega) (by omega) r0.1 r0.2
                have pb := part_range (a := x1) (by omega) (by omega) r0.1 r0.2
                obtain ⟨p0, hp0⟩ : ∃ z, x0 * sc / 65536 = z := ⟨_, rfl⟩
                obtain ⟨p1, hp1⟩ : ∃ z, x1 * sc / 65536 = z := ⟨_, rfl⟩
                rw [hp0, hp1] at H3 hn
                rw [hp0] at pa
                rw [hp1] at pb
                replace pa := pa.2.2
                replace pb := pb.2.2
                have pq := psum_range r0.1 r0.2 (l.take j) (all_take AA.out j)
                have pr := sum_range (l.take j) (all_take AA.out j)
                rw [List.length_take, Nat.min_eq_left hj] at pr
                obtain ⟨t0, ht0⟩ : ∃ z, sumM ((l.take j).map (partS sc)) = z := ⟨_, rfl⟩
                obtain ⟨t1, ht1⟩ : ∃ z, sumE ((l.take j).map (partS sc)) = z := ⟨_, rfl⟩
                have e0 : sumM ((l.take (j + 1)).map (partS sc)) = t0 + p0 := by rw [← ht0]; unfold partS; rw [hn, sumM_app]; simp [sumM]
                have e1 : sumE ((l.take (j + 1)).map (partS sc)) = t1 + p1 := by rw [← ht1]; unfold partS; rw [hn, sumE_app]; simp [sumE]
                have E0 := Lib.hid e0
                have E1 := Lib.hid e1
                have HN := Lib.hid hn
                rw [ht0, ht1] at pq
                rw [ht0, ht1]
                have u0 : 0 ≤ t0 ∧ t0 ≤ 67108864 ∧ 0 ≤ t1 ∧ t1 ≤ 67108864 := by omega
                clear hx0 hx1 hp0 hp1 ht0 ht1 e0 e1 hn hW pq pr
                have LW0 : w.heap.size ≤ wr.heap.size := hb.out.size
                have LW2 : w.heap.size + 2 < wr.heap.size := blk_lt h2.out
                go_wp2_with fail
                refine (purse_Part.calls 1 x0 x1 sc p0 p1 0 _ H3.out).mono ?_
                rintro e w8 ⟨rfl, hb8⟩
                have hbx : Below wr.heap.size wr w8 := below_then (below_alloc (Below.refl _ wr) (Obj.cells #[Value.int IntKind.i64 x0, Value.int IntKind.i64 x1] 23)) (below_alloc (Below.refl _ wr) (Obj.cells #[Value.int IntKind.i64 x0, Value.int IntKind.i64 x1] 23)).size hb8
                have HB8 := Lib.hid (below_then hb.out hb.out.size hbx)
                have R8 := Lib.hid (Kd.R_below ho.out hbx)
                have I0 := Lib.hid (blk_below h0.out hbx)
                have I2 := Lib.hid (blk_below h2.out hbx)
                clear hb8 hbx ho h0 h2 hb c0 c1 H3
                go_wp2_with fail
                obtain ⟨V8, hV8⟩ : ∃ V_, (w8.alloc (Obj.cells #[Value.int IntKind.i64 p0, Value.int IntKind.i64 p1] 23)) = V_ := ⟨_, rfl⟩
                have hBV8 : Below w8.heap.size w8 V8 := by rw [← hV8]; exact below_alloc (Below.refl _ _) _
                have o0 := blk_new w8 (Obj.cells #[Value.int IntKind.i64 p0, Value.int IntKind.i64 p1] 23)
                rw [hV8] at o0
                rw [hV8]
                clear hV8
                have v0 := blk_cell o0 0
                have v1 := blk_cell o0 1
                simp only [List.getElem?_toArray, List.getElem?_cons_succ, List.getElem?_cons_zero] at v0 v1
                have HB9 := Lib.hid (below_then HB8.out HB8.out.size hBV8)
                have R9 := Lib.hid (Kd.R_below R8.out hBV8)
                have J0 := Lib.hid (blk_below I0.out hBV8)
                have J2 := Lib.hid (blk_below I2.out hBV8)
                have LV8 : w8.heap.size < V8.heap.size := blk_lt o0
                clear I0 I2 R8 HB8 hBV8
                go_quiet (fail)
                have HBA := Lib.hid (pw_below_drewN HB9.out nq)
                have RA := Lib.hid (Kd.R_drewN R9.out nq)
                have Q0 := Lib.hid (blk_drewN J0.out nq)
                have Q2 := Lib.hid (blk_drewN J2.out nq)
                have OA := blk_drewN o0 nq
                clear HB9 R9 J0 J2 o0 v0 v1
                generalize V8.drewN nq = w9 at HBA RA Q0 Q2 OA ⊢
                have v0 := blk_cell OA 0
                have v1 := blk_cell OA 1
                simp only [List.getElem?_toArray, List.getElem?_cons_succ, List.getElem?_cons_zero] at v0 v1
                have L9 : w8.heap.size < w9.heap.size := blk_lt OA
                have L90 : w.heap.size ≤ w9.heap.size := HBA.out.size
                go_wp2_with ((with_reducible refine gate_builtin (b := .append) (xs := #[.tmp 102, .tmp 104]) rfl ?_); at_builtin; refine Kd.R_append k23 (w0 := w) w.heap.size rfl (.tmp 102) (.tmp 104) 38 23 (.agg #[(.int .i64 0), (.int .i64 0)]) 16 rfl Try.underlying38 info23 rfl (by decide) (by omega) u21 ((l.take j).map (partS sc)) (⟨p0, p1⟩ : S23) [.int .i64 p0, .int .i64 p1] (fun _ => True) (fun _ => False) rfl rfl ?aP (fun _ hk => hk.elim) ?aF ?aO ?aB ?aS ?aL ?_)
                case aP => exact k23_mkM _ _ _ (⟨p0, p1⟩ : S23)
                case aF => exact fun _ _ => trivial
                case aO => exact RA.out
                case aB => exact HBA.out
                case aS => exact HBA.out.size
                case aL => rw [List.length_map, List.length_take]; omega
                intro v1_ wA hR hbA hg hat
                have RB : Hid (Kd.R k23 23 wA w.heap.size (fun _ => True) v1_ ((l.take (j + 1)).map (partS sc))) := Lib.hid (by unfold partS; rw [HN.out]; unfold partS at hR; first | exact hR | (rw [← List.map_take] at hR; exact hR))
                have U0 := Lib.hid (blk_grown Q0.out hg (Kd.R_ne RA.out Q0.out (by decide)))
                have U2 := Lib.hid (blk_grown Q2.out hg (Kd.R_ne RA.out Q2.out (by decide)))
                have HBB := Lib.hid hbA
                clear hR hbA hg hat RA Q0 Q2 HBA OA v0 v1
                go_wp2
                go_roundw
                case rel => exact ⟨j + 1, by go_num, by omega, by rw [E0.out]; go_num, by rw [E1.out]; go_num, RB, U0, U2, HBB⟩
                case measure => simp [intOf]; omega
              · obtain rfl : j = l.length := by omega
                rw [List.take_length]
                have LW0 : w.heap.size ≤ wr.heap.size := hb.out.size
                have LW2 : w.heap.size + 2 < wr.heap.size := blk_lt h2.out
                have fz := blk_frozen h0.out
                have fy := blk_frozen h2.out
                have m0 := blk_cell h0.out 0
                have m1 := blk_cell h0.out 1
                have m2 := blk_cell h0.out 2
                have m3 := blk_cell h0.out 3
                simp only [List.getElem?_toArray, List.getElem?_cons_succ, List.getElem?_cons_zero] at m0 m1 m2 m3
                have n0 := blk_cell h2.out 0
                have n1 := blk_cell h2.out 1
                have n2 := blk_cell h2.out 2
                have n3 := blk_cell h2.out 3
                simp only [List.getElem?_toArray, List.getElem?_cons_succ, List.getElem?_cons_zero] at n0 n1 n2 n3
                go_wp2_with fail
                all_goals
                  have hE := HE.out
                  simp only [Option.some.injEq, Prod.mk.injEq] at hE
                  obtain ⟨q1', q2', q3', q4', q5', q6', q7'⟩ := hE
                  have ps' := PS.out
                  unfold mn at q1' q2'
                  rw [← q6']
                  first | rw [if_pos (by omega)] at q1' | rw [if_neg (by omega)] at q1'
                  first | rw [if_pos (by omega)] at q2' | rw [if_neg (by omega)] at q2'
                  obtain ⟨W, hW, eW, oW, bW⟩ := serve_end r1 r2 ho.out h0.out h2.out hb.out
                  rw [← q1', ← q2'] at hW
                  rw [hW]
                  rw [List.take_length] at oW
                  have v0 := blk_cell eW 0
                  have v1 := blk_cell eW 1
                  have v2 := blk_cell eW 2
                  have v3 := blk_cell eW 3
                  simp only [List.getElem?_toArray, List.getElem?_cons_succ, List.getElem?_cons_zero] at v0 v1 v2 v3
                  exact bodyPost_ret (v := .tuple #[.agg #[.int .i64 r1, .int .i64 r2, .int .i64 CM, .int .i64 CE], .int .i64 sc, u21, .int .i64 0]) (by simp [results, Try.results15, go_sem, v0, v1, v2, v3]) rfl ⟨u21, by rw [q3', q4', q5', q7'], oW, bW⟩
      · have h := HH.out
        obtain ⟨rfl, rfl, rfl, rfl, rfl, rfl, rfl⟩ : 0 = r1 ∧ 0 = r2 ∧ 0 = r3 ∧ 0 = r4 ∧ 0 = r5 ∧ [] = r6 ∧ 1 = r7 := by
          unfold purse_Serve.f at h
          rw [if_neg (fun q => g3 q.2.2.1)] at h
          simpa using h
        have g3' : 64 < l.length := by omega
        clear h HH
        go_enter Try.func15, Try.ntmps15
        go_wp2_with fail
        obtain ⟨V, hV⟩ : ∃ V_, (((w.alloc (Obj.cells #[Value.int IntKind.i64 M, Value.int IntKind.i64 E, Value.int IntKind.i64 CM, Value.int IntKind.i64 CE] 37)).alloc (Obj.cells #[Value.int IntKind.i64 im, Value.int IntKind.i64 ie] 23)).alloc (Obj.cells #[Value.int IntKind.i64 0, Value.int IntKind.i64 0, Value.int IntKind.i64 0, Value.int IntKind.i64 0] 37)) = V_ := ⟨_, rfl⟩
        have hB : Below w.heap.size w V := by rw [← hV]; exact below_alloc (below_alloc (below_alloc (Below.refl _ _) _) _) _
        have b0 := blk_alloc (blk_alloc (blk_new w (Obj.cells #[Value.int IntKind.i64 M, Value.int IntKind.i64 E, Value.int IntKind.i64 CM, Value.int IntKind.i64 CE] 37)) (Obj.cells #[Value.int IntKind.i64 im, Value.int IntKind.i64 ie] 23)) (Obj.cells #[Value.int IntKind.i64 0, Value.int IntKind.i64 0, Value.int IntKind.i64 0, Value.int IntKind.i64 0] 37)
        rw [hV] at b0
        have b1 := blk_alloc (blk_new (w.alloc (Obj.cells #[Value.int IntKind.i64 M, Value.int IntKind.i64 E, Value.int IntKind.i64 CM, Value.int IntKind.i64 CE] 37)) (Obj.cells #[Value.int IntKind.i64 im, Value.int IntKind.i64 ie] 23)) (Obj.cells #[Value.int IntKind.i64 0, Value.int IntKind.i64 0, Value.int IntKind.i64 0, Value.int IntKind.i64 0] 37)
        rw [hV] at b1
        have zb1 : (w.alloc (Obj.cells #[Value.int IntKind.i64 M, Value.int IntKind.i64 E, Value.int IntKind.i64 CM, Value.int IntKind.i64 CE] 37)).heap.size = w.heap.size + 1 := by simp
        rw [zb1] at b1
        clear zb1
        have b2 := blk_new ((w.alloc (Obj.cells #[Value.int IntKind.i64 M, Value.int IntKind.i64 E, Value.int IntKind.i64 CM, Value.int IntKind.i64 CE] 37)).alloc (Obj.cells #[Value.int IntKind.i64 im, Value.int IntKind.i64 ie] 23)) (Obj.cells #[Value.int IntKind.i64 0, Value.int IntKind.i64 0, Value.int IntKind.i64 0, Value.int IntKind.i64 0] 37)
        rw [hV] at b2
        have zb2 : ((w.alloc (Obj.cells #[Value.int IntKind.i64 M, Value.int IntKind.i64 E, Value.int IntKind.i64 CM, Value.int IntKind.i64 CE] 37)).alloc (Obj.cells #[Value.int IntKind.i64 im, Value.int IntKind.i64 ie] 23)).heap.size = w.heap.size + 2 := by simp
        rw [zb2] at b2
        clear zb2
        rw [hV]
        clear hV
        refine (purse_May.calls M E CM CE true V H1.out).mono ?_
        rintro e w1 ⟨rfl, hb1⟩
        have HB1 := Lib.hid (below_then hB hB.size hb1)
        have D1 := blk_below b1 hb1
        have D2 := Lib.hid (blk_below b2 hb1)
        clear b0 b1 b2 hB hb1
        have x0 := blk_cell D1 0
        have x1 := blk_cell D1 1
        simp only [List.getElem?_toArray, List.getElem?_cons_succ, List.getElem?_cons_zero] at x0 x1
        go_wp2_with fail
        refine (purse_wish.calls im ie true w1 H2.out).mono ?_
        rintro e w2 ⟨rfl, hb2⟩
        have HB2 := Lib.hid (below_then HB1.out HB1.out.size hb2)
        have L2 : w.heap.size ≤ w2.heap.size := HB2.out.size
        have D3 := Lib.hid (blk_below D2.out hb2)
        clear x0 x1 D1 D2 hb2 HB1
        have Z := D3.out
        have fz := blk_frozen Z
        have hBB := HB2.out
        have q0 := blk_cell Z 0
        have q1 := blk_cell Z 1
        have q2 := blk_cell Z 2
        have q3 := blk_cell Z 3
        simp only [List.getElem?_toArray, List.getElem?_cons_succ, List.getElem?_cons_zero] at q0 q1 q2 q3
        go_wp2
        have e := blk_set (blk_set (blk_set (blk_set (Z) 0 (.int .i64 0)) 1 (.int .i64 0)) 2 (.int .i64 0)) 3 (.int .i64 0)
        have hB3 := below_set (g := w.heap.size + 2) (j := 3) (v := .int .i64 0) (below_set (g := w.heap.size + 2) (j := 2) (v := .int .i64 0) (below_set (g := w.heap.size + 2) (j := 1) (v := .int .i64 0) (below_set (g := w.heap.size + 2) (j := 0) (v := .int .i64 0) (hBB) (by omega)) (by omega)) (by omega)) (by omega)
        generalize ((((w2.setCell ⟨w.heap.size + 2, 0, none⟩ (.int .i64 0)).setCell ⟨w.heap.size + 2, 1, none⟩ (.int .i64 0)).setCell ⟨w.heap.size + 2, 2, none⟩ (.int .i64 0)).setCell ⟨w.heap.size + 2, 3, none⟩ (.int .i64 0)) = V3 at e hB3 ⊢
        have e0 := blk_cell e 0
        have e1 := blk_cell e 1
        have e2 := blk_cell e 2
        have e3 := blk_cell e 3
        simp only [List.setIfInBounds_toArray, List.set_cons_zero, List.set_cons_succ, List.getElem?_toArray, List.getElem?_cons_succ, List.getElem?_cons_zero] at e0 e1 e2 e3
        exact bodyPost_ret (v := .tuple #[.agg #[.int .i64 0, .int .i64 0, .int .i64 0, .int .i64 0], .int .i64 0, .slice none 0 0, .int .i64 1]) (by simp [results, Try.results15, go_sem, e0, e1, e2, e3]) rfl ⟨.slice none 0 0, rfl, Kd.R_nil _ _ _ _ _, hB3⟩
    · rw [decide_eq_false g2] at H2
      have h := HH.out
      obtain ⟨rfl, rfl, rfl, rfl, rfl, rfl, rfl⟩ : 0 = r1 ∧ 0 = r2 ∧ 0 = r3 ∧ 0 = r4 ∧ 0 = r5 ∧ [] = r6 ∧ 1 = r7 := by
        unfold purse_Serve.f at h
        rw [if_neg (fun q => g2 q.2.1)] at h
        simpa using h
      clear h HH
      go_enter Try.func15, Try.ntmps15
      go_wp2_with fail
      obtain ⟨V, hV⟩ : ∃ V_, (((w.alloc (Obj.cells #[Value.int IntKind.i64 M, Value.int IntKind.i64 E, Value.int IntKind.i64 CM, Value.int IntKind.i64 CE] 37)).alloc (Obj.cells #[Value.int IntKind.i64 im, Value.int IntKind.i64 ie] 23)).alloc (Obj.cells #[Value.int IntKind.i64 0, Value.int IntKind.i64 0, Value.int IntKind.i64 0, Value.int IntKind.i64 0] 37)) = V_ := ⟨_, rfl⟩
      have hB : Below w.heap.size w V := by rw [← hV]; exact below_alloc (below_alloc (below_alloc (Below.refl _ _) _) _) _
      have b0 := blk_alloc (blk_alloc (blk_new w (Obj.cells #[Value.int IntKind.i64 M, Value.int IntKind.i64 E, Value.int IntKind.i64 CM, Value.int IntKind.i64 CE] 37)) (Obj.cells #[Value.int IntKind.i64 im, Value.int IntKind.i64 ie] 23)) (Obj.cells #[Value.int IntKind.i64 0, Value.int IntKind.i64 0, Value.int IntKind.i64 0, Value.int IntKind.i64 0] 37)
      rw [hV] at b0
      have b1 := blk_alloc (blk_new (w.alloc (Obj.cells #[Value.int IntKind.i64 M, Value.int IntKind.i64 E, Value.int IntKind.i64 CM, Value.int IntKind.i64 CE] 37)) (Obj.cells #[Value.int IntKind.i64 im, Value.int IntKind.i64 ie] 23)) (Obj.cells #[Value.int IntKind.i64 0, Value.int IntKind.i64 0, Value.int IntKind.i64 0, Value.int IntKind.i64 0] 37)
      rw [hV] at b1
      have zb1 : (w.alloc (Obj.cells #[Value.int IntKind.i64 M, Value.int IntKind.i64 E, Value.int IntKind.i64 CM, Value.int IntKind.i64 CE] 37)).heap.size = w.heap.size + 1 := by simp
      rw [zb1] at b1
      clear zb1
      have b2 := blk_new ((w.alloc (Obj.cells #[Value.int IntKind.i64 M, Value.int IntKind.i64 E, Value.int IntKind.i64 CM, Value.int IntKind.i64 CE] 37)).alloc (Obj.cells #[Value.int IntKind.i64 im, Value.int IntKind.i64 ie] 23)) (Obj.cells #[Value.int IntKind.i64 0, Value.int IntKind.i64 0, Value.int IntKind.i64 0, Value.int IntKind.i64 0] 37)
      rw [hV] at b2
      have zb2 : ((w.alloc (Obj.cells #[Value.int IntKind.i64 M, Value.int IntKind.i64 E, Value.int IntKind.i64 CM, Value.int IntKind.i64 CE] 37)).alloc (Obj.cells #[Value.int IntKind.i64 im, Value.int IntKind.i64 ie] 23)).heap.size = w.heap.size + 2 := by simp
      rw [zb2] at b2
      clear zb2
      rw [hV]
      clear hV
      refine (purse_May.calls M E CM CE true V H1.out).mono ?_
      rintro e w1 ⟨rfl, hb1⟩
      have HB1 := Lib.hid (below_then hB hB.size hb1)
      have D1 := blk_below b1 hb1
      have D2 := Lib.hid (blk_below b2 hb1)
      clear b0 b1 b2 hB hb1
      have x0 := blk_cell D1 0
      have x1 := blk_cell D1 1
      simp only [List.getElem?_toArray, List.getElem?_cons_succ, List.getElem?_cons_zero] at x0 x1
      go_wp2_with fail
      refine (purse_wish.calls im ie false w1 H2.out).mono ?_
      rintro e w2 ⟨rfl, hb2⟩
      have HB2 := Lib.hid (below_then HB1.out HB1.out.size hb2)
      have L2 : w.heap.size ≤ w2.heap.size := HB2.out.size
      have D3 := Lib.hid (blk_below D2.out hb2)
      clear x0 x1 D1 D2 hb2 HB1
      have Z := D3.out
      have fz := blk_frozen Z
      have hBB := HB2.out
      have q0 := blk_cell Z 0
      have q1 := blk_cell Z 1
      have q2 := blk_cell Z 2
      have q3 := blk_cell Z 3
      simp only [List.getElem?_toArray, List.getElem?_cons_succ, List.getElem?_cons_zero] at q0 q1 q2 q3
      go_wp2
      have e := blk_set (blk_set (blk_set (blk_set (Z) 0 (.int .i64 0)) 1 (.int .i64 0)) 2 (.int .i64 0)) 3 (.int .i64 0)
      have hB3 := below_set (g := w.heap.size + 2) (j := 3) (v := .int .i64 0) (below_set (g := w.heap.size + 2) (j := 2) (v := .int .i64 0) (below_set (g := w.heap.size + 2) (j := 1) (v := .int .i64 0) (below_set (g := w.heap.size + 2) (j := 0) (v := .int .i64 0) (hBB) (by omega)) (by omega)) (by omega)) (by omega)
      generalize ((((w2.setCell ⟨w.heap.size + 2, 0, none⟩ (.int .i64 0)).setCell ⟨w.heap.size + 2, 1, none⟩ (.int .i64 0)).setCell ⟨w.heap.size + 2, 2, none⟩ (.int .i64 0)).setCell ⟨w.heap.size + 2, 3, none⟩ (.int .i64 0)) = V3 at e hB3 ⊢
      have e0 := blk_cell e 0
      have e1 := blk_cell e 1
      have e2 := blk_cell e 2
      have e3 := blk_cell e 3
      simp only [List.setIfInBounds_toArray, List.set_cons_zero, List.set_cons_succ, List.getElem?_toArray, List.getElem?_cons_succ, List.getElem?_cons_zero] at e0 e1 e2 e3
      exact bodyPost_ret (v := .tuple #[.agg #[.int .i64 0, .int .i64 0, .int .i64 0, .int .i64 0], .int .i64 0, .slice none 0 0, .int .i64 1]) (by simp [results, Try.results15, go_sem, e0, e1, e2, e3]) rfl ⟨.slice none 0 0, rfl, Kd.R_nil _ _ _ _ _, hB3⟩
  · rw [decide_eq_false g1] at H1
    have h := HH.out
    obtain ⟨rfl, rfl, rfl, rfl, rfl, rfl, rfl⟩ : 0 = r1 ∧ 0 = r2 ∧ 0 = r3 ∧ 0 = r4 ∧ 0 = r5 ∧ [] = r6 ∧ 1 = r7 := by
      unfold purse_Serve.f at h
      rw [if_neg (fun q => g1 q.1)] at h
      simpa using h
    clear h HH
    go_enter Try.func15, Try.ntmps15
    go_wp2_with fail
    obtain ⟨V, hV⟩ : ∃ V_, (((w.alloc (Obj.cells #[Value.int IntKind.i64 M, Value.int IntKind.i64 E, Value.int IntKind.i64 CM, Value.int IntKind.i64 CE] 37)).alloc (Obj.cells #[Value.int IntKind.i64 im, Value.int IntKind.i64 ie] 23)).alloc (Obj.cells #[Value.int IntKind.i64 0, Value.int IntKind.i64 0, Value.int IntKind.i64 0, Value.int IntKind.i64 0] 37)) = V_ := ⟨_, rfl⟩
    have hB : Below w.heap.size w V := by rw [← hV]; exact below_alloc (below_alloc (below_alloc (Below.refl _ _) _) _) _
    have b0 := blk_alloc (blk_alloc (blk_new w (Obj.cells #[Value.int IntKind.i64 M, Value.int IntKind.i64 E, Value.int IntKind.i64 CM, Value.int IntKind.i64 CE] 37)) (Obj.cells #[Value.int IntKind.i64 im, Value.int IntKind.i64 ie] 23)) (Obj.cells #[Value.int IntKind.i64 0, Value.int IntKind.i64 0, Value.int IntKind.i64 0, Value.int IntKind.i64 0] 37)
    rw [hV] at b0
    have b1 := blk_alloc (blk_new (w.alloc (Obj.cells #[Value.int IntKind.i64 M, Value.int IntKind.i64 E, Value.int IntKind.i64 CM, Value.int IntKind.i64 CE] 37)) (Obj.cells #[Value.int IntKind.i64 im, Value.int IntKind.i64 ie] 23)) (Obj.cells #[Value.int IntKind.i64 0, Value.int IntKind.i64 0, Value.int IntKind.i64 0, Value.int IntKind.i64 0] 37)
    rw [hV] at b1
    have zb1 : (w.alloc (Obj.cells #[Value.int IntKind.i64 M, Value.int IntKind.i64 E, Value.int IntKind.i64 CM, Value.int IntKind.i64 CE] 37)).heap.size = w.heap.size + 1 := by simp
    rw [zb1] at b1
    clear zb1
    have b2 := blk_new ((w.alloc (Obj.cells #[Value.int IntKind.i64 M, Value.int IntKind.i64 E, Value.int IntKind.i64 CM, Value.int IntKind.i64 CE] 37)).alloc (Obj.cells #[Value.int IntKind.i64 im, Value.int IntKind.i64 ie] 23)) (Obj.cells #[Value.int IntKind.i64 0, Value.int IntKind.i64 0, Value.int IntKind.i64 0, Value.int IntKind.i64 0] 37)
    rw [hV] at b2
    have zb2 : ((w.alloc (Obj.cells #[Value.int IntKind.i64 M, Value.int IntKind.i64 E, Value.int IntKind.i64 CM, Value.int IntKind.i64 CE] 37)).alloc (Obj.cells #[Value.int IntKind.i64 im, Value.int IntKind.i64 ie] 23)).heap.size = w.heap.size + 2 := by simp
    rw [zb2] at b2
    clear zb2
    rw [hV]
    clear hV
    refine (purse_May.calls M E CM CE false V H1.out).mono ?_
    rintro e w1 ⟨rfl, hb1⟩
    have HB1 := Lib.hid (below_then hB hB.size hb1)
    have L2 : w.heap.size ≤ w1.heap.size := HB1.out.size
    have D3 := Lib.hid (blk_below b2 hb1)
    clear b0 b1 b2 hB hb1
    have Z := D3.out
    have fz := blk_frozen Z
    have hBB := HB1.out
    have q0 := blk_cell Z 0
    have q1 := blk_cell Z 1
    have q2 := blk_cell Z 2
    have q3 := blk_cell Z 3
    simp only [List.getElem?_toArray, List.getElem?_cons_succ, List.getElem?_cons_zero] at q0 q1 q2 q3
    go_wp2
    have e := blk_set (blk_set (blk_set (blk_set (Z) 0 (.int .i64 0)) 1 (.int .i64 0)) 2 (.int .i64 0)) 3 (.int .i64 0)
    have hB3 := below_set (g := w.heap.size + 2) (j := 3) (v := .int .i64 0) (below_set (g := w.heap.size + 2) (j := 2) (v := .int .i64 0) (below_set (g := w.heap.size + 2) (j := 1) (v := .int .i64 0) (below_set (g := w.heap.size + 2) (j := 0) (v := .int .i64 0) (hBB) (by omega)) (by omega)) (by omega)) (by omega)
    generalize ((((w1.setCell ⟨w.heap.size + 2, 0, none⟩ (.int .i64 0)).setCell ⟨w.heap.size + 2, 1, none⟩ (.int .i64 0)).setCell ⟨w.heap.size + 2, 2, none⟩ (.int .i64 0)).setCell ⟨w.heap.size + 2, 3, none⟩ (.int .i64 0)) = V3 at e hB3 ⊢
    have e0 := blk_cell e 0
    have e1 := blk_cell e 1
    have e2 := blk_cell e 2
    have e3 := blk_cell e 3
    simp only [List.setIfInBounds_toArray, List.set_cons_zero, List.set_cons_succ, List.getElem?_toArray, List.getElem?_cons_succ, List.getElem?_cons_zero] at e0 e1 e2 e3
    exact bodyPost_ret (v := .tuple #[.agg #[.int .i64 0, .int .i64 0, .int .i64 0, .int .i64 0], .int .i64 0, .slice none 0 0, .int .i64 1]) (by simp [results, Try.results15, go_sem, e0, e1, e2, e3]) rfl ⟨.slice none 0 0, rfl, Kd.R_nil _ _ _ _ _, hB3⟩
end Go.Proofs.Ytfhdibankkokoaa.MPu
namespace Go.Proofs.Ytfhdibankkokoaa.MPu
open Go.RowKit Go.Proofs.YtfhdibankkokoaaW.PrintWords Go.Proofs.YtfhdibankkokoaaW.PrintLast Go.Proofs.YtfhdibankkokoaaW.PrintMore
attribute [local go_sem] max2_int min2_int max_two min_two max_three min_three max_four min_four
set_option linter.unusedVariables false
set_option linter.unusedSimpArgs false
theorem k23_heap : Kd.Heap k23 := Kd.heap_iso _ (Kd.heap_pair (Kd.heap_int .i64) (Kd.heap_int .i64))
end Go.Proofs.Ytfhdibankkokoaa.MPu
namespace Go.Proofs.Ytfhdibankkokoaa.MPu
open Go.RowKit Go.Proofs.YtfhdibankkokoaaW.PrintWords Go.Proofs.YtfhdibankkokoaaW.PrintLast Go.Proofs.YtfhdibankkokoaaW.PrintMore
attribute [local go_sem] max2_int min2_int max_two min_two max_three min_three max_four min_four
set_option linter.unusedVariables false
set_option linter.unusedSimpArgs false
theorem eqA23 (d : Nat) (w : World) (x0 y0 : Int) (x1 y1 : Int) :
    (Op.equalIn (d + 2) 23 (.agg #[.int .i64 x0, .int .i64 x1]) (.agg #[.int .i64 y0, .int .i64 y1])).run Try.prog w = .ok (x0 == y0 && (x1 == y1)) w := by
  refine eqA_of Try.underlying23 (by kernel_rfl) ?_
  refine eqf_cons (by rfl) (by go_simp; rfl) (by go_simp; rfl) (by go_simp) ?_
  exact eqf_last (by rfl) (by go_simp; rfl) (by go_simp; rfl) (by go_simp)
end Go.Proofs.Ytfhdibankkokoaa.MPu
namespace Go.Proofs.Ytfhdibankkokoaa.MPu
open Go.RowKit Go.Proofs.YtfhdibankkokoaaW.PrintWords Go.Proofs.YtfhdibankkokoaaW.PrintLast Go.Proofs.YtfhdibankkokoaaW.PrintMore
attribute [local go_sem] max2_int min2_int max_two min_two max_three min_three max_four min_four
set_option linter.unusedVariables false
set_option linter.unusedSimpArgs false
theorem eqA37 (d : Nat) (w : World) (x0 y0 : Int) (x1 y1 : Int) (x2 y2 : Int) (x3 y3 : Int) :
    (Op.equalIn (d + 2) 37 (.agg #[.int .i64 x0, .int .i64 x1, .int .i64 x2, .int .i64 x3]) (.agg #[.int .i64 y0, .int .i64 y1, .int .i64 y2, .int .i64 y3])).run Try.prog w = .ok (x0 == y0 && (x1 == y1 && (x2 == y2 && (x3 == y3)))) w := by
  refine eqA_of Try.underlying37 (by kernel_rfl) ?_
  refine eqf_cons (by rfl) (by go_simp; rfl) (by go_simp; rfl) (by go_simp) ?_
  refine eqf_cons (by rfl) (by go_simp; rfl) (by go_simp; rfl) (by go_simp) ?_
  refine eqf_cons (by rfl) (by go_simp; rfl) (by go_simp; rfl) (by go_simp) ?_
  exact eqf_last (by rfl) (by go_simp; rfl) (by go_simp; rfl) (by go_simp)
end Go.Proofs.Ytfhdibankkokoaa.MPu
