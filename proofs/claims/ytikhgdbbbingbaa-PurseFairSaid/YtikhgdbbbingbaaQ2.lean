/- What the claim's proof leans on: texts of this claim, laid together. -/
import Derived.Test.YtikhgdbbbingbaaQ1
import Derived.Test.YtikhgdbbbingbaaProg
import Derived.ProofKit
import Derived.OpenShut
import Derived.ChangeSlices
import Derived.Shelf.Small.Bits
import Derived.Shelf.Strconv.Itoa0
import Derived.Shelf.Bits.Mul64
import Derived.Below
import Derived.WalkKit
import Derived.WalkSpells
import Derived.WalkLawsBesides
import Derived.Deep.QuietTactic
import Derived.BigQuiet
import Derived.Lib.Hide
import Derived.Laws.BitsLemmas
import Derived.Deep.DeepCutAuto
import Derived.Deep.CutBlock
import Derived.Lib.ItoaNum
import Derived.Deep.RegionWith
import Derived.Deep.RegionHeld3
import Derived.Deep.Draws
import Derived.Deep.AppendLies
import Derived.Maps.AppendAt
import Derived.OwnWalk
import Derived.Laws.BytesArg
import Derived.Laws.MakeOwn
import Derived.Laws.OwnMore
import Derived.Deep.OwnRows
import Derived.Tactics
import Derived.Lib.ConvBytes
import Derived.Laws.Slices
import Derived.KernelRfl
import Derived.RowKit3
import Derived.Deep.LoopGhost
import Derived.WideLaws
import Derived.Laws.Rows
import Derived.Lib.AppendStr
import Derived.ArgAppend
import Derived.Laws.IdiomCopy
import Derived.OrdersHeld
import Derived.RowKit
import Derived.BigRegion
namespace Go.Proofs.Ytikhgdbbbingbaa
open Go Go.RowKit Go.ChangeShapes Go.WideShapes Go.Proofs.YtikhgdbbbingbaaW.PrintWords
set_option linter.unusedVariables false
set_option linter.unusedSimpArgs false
inductive Leaf where
  | int (k : IntKind) | bool | other (t : TypeId)
def gleavesF (P : Program) (L : TypeId → Option (List Leaf)) : List Field → Nat → Option (List Leaf)
  | [], _ => some []
  | f :: r, o => if f.offset = o then (match L f.type, gleavesF P L r (o + P.cellsOf f.type) with
    | some a, some b => if a.length = P.cellsOf f.type then some (a ++ b) else none
    | _, _ => none) else none
def gleaves (P : Program) : Nat → TypeId → Option (List Leaf)
  | 0, _ => none
  | n + 1, t => match P.underlying t with
    | some (.int k) => some [.int k]
    | some .bool => some [.bool]
    | some (.struct fs) => (match gleavesF P (gleaves P n) fs.toList 0 with
      | some ks => if ks.length = P.cellsOf t then some ks else none
      | none => none)
    | some (.slice _) => if P.cellsOf t = 1 then some [.other t] else none
    | some .string => if P.cellsOf t = 1 then some [.other t] else none
    | _ => none
section
variable {H : Type} {enc : TypeId × Value → H} {P : Program} {w : World} {base : Nat} {spare : Nat → Bool} {held : Bool}
def gokLeaf (enc : TypeId × Value → H) (P : Program) (w : World) (base : Nat) (spare : Nat → Bool) (held : Bool) : Leaf → Value → Prop
  | .int k, v => ∃ z, v = .int k z ∧ (Lit.int k z).wf = true
  | .bool, v => ∃ b, v = .bool b
  | .other t, v => ∃ m x, DataW.trod enc P w base spare held m t [v] = some x
def gflatOk (enc : TypeId × Value → H) (P : Program) (w : World) (base : Nat) (spare : Nat → Bool) (held : Bool) : List Leaf → List Value → Prop
  | [], [] => True
  | k :: ks, v :: vs => gokLeaf enc P w base spare held k v ∧ gflatOk enc P w base spare held ks vs
  | _, _ => False
theorem gflatOk_append : ∀ (a b : List Leaf) (x y : List Value), gflatOk enc P w base spare held a x → gflatOk enc P w base spare held b y → gflatOk enc P w base spare held (a ++ b) (x ++ y)
  | [], b, [], y, _, h => h
  | _ :: a, b, _ :: x, y, h, h' => ⟨h.1, gflatOk_append a b x y h.2 h'⟩
  | [], _, _ :: _, _, h, _ => h.elim
  | _ :: _, _, [], _, h, _ => h.elim
theorem gflat_fields {n : Nat} (ih : ∀ t ks, gleaves P n t = some ks → ∀ fuel cs x, cs.length = P.cellsOf t → DataW.trod enc P w base spare held fuel t cs = some x → gflatOk enc P w base spare held ks cs)
    (m : Nat) (cs : List Value) : ∀ (fl : List Field) (o : Nat) (ks : List Leaf) (ys : List (DataW H × List MemPlace)), gleavesF P (gleaves P n) fl o = some ks → ys.length = fl.length → o + ks.length ≤ cs.length →
      (∀ (i : Nat) (f : Field), fl[i]? = some f → DataW.trod enc P w base spare held m f.type ((cs.drop f.offset).take (P.cellsOf f.type)) = ys[i]?) →
      gflatOk enc P w base spare held ks ((cs.drop o).take ks.length)
  | [], o, ks, ys, hk, hl, hle, _ => by
    obtain rfl := Option.some.inj (show some [] = some ks from hk)
    exact trivial
  | f :: r, o, ks, [], hk, hl, hle, hf => by simp at hl
  | f :: r, o, ks, y :: ys, hk, hl, hle, hf => by
    unfold gleavesF at hk
    split at hk
    · rename_i ho
      split at hk
      · rename_i a b ha hb
        split at hk
        · rename_i hc
          obtain rfl := Option.some.inj hk
          have h0 := hf 0 f rfl
          rw [List.getElem?_cons_zero] at h0
          rw [List.length_append] at hle
          have h1 := ih _ _ ha _ _ _ (by rw [List.length_take, List.length_drop]; omega) h0
          have g1 := gflat_fields ih m cs r _ b ys hb (by simpa using hl) (by omega) (fun i f' hi => by simpa using hf (i + 1) f' (by simpa using hi))
          subst ho
          rw [List.length_append, List.take_add, List.drop_drop, hc]
          exact gflatOk_append _ _ _ _ h1 g1
        · cases hk
      · cases hk
    · cases hk
theorem gflat_open : ∀ (n : Nat) (t : TypeId) (ks : List Leaf), gleaves P n t = some ks → ∀ (fuel : Nat) (cs : List Value) (x : DataW H × List MemPlace), cs.length = P.cellsOf t → DataW.trod enc P w base spare held fuel t cs = some x →
    gflatOk enc P w base spare held ks cs
  | 0, _, _, hk, _, _, _, _, _ => by cases hk
  | n + 1, t, ks, hk, fuel, cs, x, hlc, h => by
    unfold gleaves at hk
    split at hk
    · rename_i k ht
      obtain rfl := Option.some.inj hk
      obtain ⟨z, rfl, rfl, hw⟩ := DataW.trod_int ht h
      exact ⟨⟨z, rfl, hw⟩, trivial⟩
    · rename_i ht
      obtain rfl := Option.some.inj hk
      obtain ⟨b, rfl, rfl⟩ := DataW.trod_bool ht h
      exact ⟨⟨b, rfl⟩, trivial⟩
    · rename_i fs ht
      split at hk
      · rename_i ks' hks
        split at hk
        · rename_i hlen
          obtain rfl := Option.some.inj hk
          obtain ⟨xs, m, rfl, rfl, hl, hxl, hf⟩ := DataW.trod_struct ht h
          have g1 := gflat_fields (gflat_open n) m cs fs.toList 0 ks' xs hks (by simpa using hxl) (by omega) (fun i f hi => hf i f (by simpa using hi))
          rw [List.drop_zero, List.take_of_length_le (by omega)] at g1
          exact g1
        · cases hk
      · cases hk
    · split at hk
      · rename_i e ht hc
        obtain rfl := Option.some.inj hk
        rw [hc] at hlc
        match cs, hlc with
        | [v], _ => exact ⟨⟨fuel, x, h⟩, trivial⟩
      · cases hk
    · split at hk
      · rename_i ht hc
        obtain rfl := Option.some.inj hk
        rw [hc] at hlc
        match cs, hlc with
        | [v], _ => exact ⟨⟨fuel, x, h⟩, trivial⟩
      · cases hk
    · cases hk
theorem gopen_flat {n : Nat} {ks : List Leaf} {fs : Array Field} {r : Reach} {b0 : Nat} {t : TypeId} {v : Value} {d : DataW H} {p : List MemPlace} (hk : gleaves P n t = some ks) (hs : P.underlying t = some (.struct fs))
    (hv : Value.okWide P w r b0 t v) (h : DataW.Trod enc P w base spare held t v d p) :
    ∃ cs, v = .agg cs ∧ gflatOk enc P w base spare held ks cs.toList := by
  obtain ⟨cs, rfl, hsz⟩ := okWide_struct hs hv
  obtain ⟨fuel, hf⟩ := h
  exact ⟨cs, rfl, gflat_open n t ks hk _ _ _ (by simpa [Value.cells] using hsz) hf⟩
end
end Go.Proofs.Ytikhgdbbbingbaa
namespace Go.Proofs
open Go.Shelf
def Try.lays134_ren : Go.Shelf.Ren := ⟨fun | 134 => 85 | 129 => 78 | n => n, fun | 53 => 41 | 3 => 3 | 4 => 4 | 46 => 86 | 5 => 5 | 9 => 9 | n => n, fun | n => n⟩
theorem Try.lays134 : Go.Proofs.Lays.n134 Try.prog Try.lays134_ren := {
  mixed := by kernel_rfl
  f129 := Try.func78.trans (congrArg some (by kernel_rfl))
  f134 := Try.func85.trans (congrArg some (by kernel_rfl))
  t3 := Try.underlying3
  a3 := Try.isAgg3
  z3 := Try.sizeOf3
  v3 := Try.zeroValue3
  t4 := Try.underlying4
  a4 := Try.isAgg4
  z4 := Try.sizeOf4
  v4 := Try.zeroValue4
  t5 := Try.underlying5
  a5 := Try.isAgg5
  z5 := Try.sizeOf5
  v5 := Try.zeroValue5
  t9 := Try.underlying9
  a9 := Try.isAgg9
  z9 := Try.sizeOf9
  v9 := Try.zeroValue9
  t46 := Try.underlying86
  a46 := Try.isAgg86
  z46 := Try.sizeOf86
  v46 := Try.zeroValue86
  t53 := Try.underlying41
  a53 := Try.isAgg41
  z53 := Try.sizeOf41
  v53 := Try.zeroValue41 }
theorem Try.bits_LeadingZeros64 (x : Int) (w : World) (h0 : 0 ≤ x) (h1 : x ≤ 18446744073709551615) :
    Calls Try.prog 85 #[.int .u64 x] w fun e w' => e = .returned (.int .i64 (64 - (Lib.bitLen x.toNat : Int))) ∧ w' = w := Any.bits_LeadingZeros64 Try.lays134 x w h0 h1
def Try.lays264_ren : Go.Shelf.Ren := ⟨fun | 264 => 71 | n => n, fun | 53 => 41 | 46 => 86 | n => n, fun | n => n⟩
theorem Try.lays264 : Go.Proofs.Lays.n264 Try.prog Try.lays264_ren := {
  mixed := by kernel_rfl
  f264 := Try.func71.trans (congrArg some (by kernel_rfl))
  t46 := Try.underlying86
  a46 := Try.isAgg86
  z46 := Try.sizeOf86
  v46 := Try.zeroValue86
  t53 := Try.underlying41
  a53 := Try.isAgg41
  z53 := Try.sizeOf41
  v53 := Try.zeroValue41 }
open Go.RowKit Go.Lib in
theorem Try.bits_Mul64 (x y : Nat) (hx : x < 18446744073709551616) (hy : y < 18446744073709551616) (w : World) :
    Calls Try.prog 71 #[.int .u64 x, .int .u64 y] w fun e w' => e = .returned (.tuple #[.int .u64 ((x * y / 18446744073709551616 : Nat) : Int), .int .u64 ((x * y % 18446744073709551616 : Nat) : Int)]) ∧ w' = w := Any.bits_Mul64 Try.lays264 x y hx hy w
end Go.Proofs
namespace Go.Proofs.Ytikhgdbbbingbaa.Dv
open Go Go.RowKit
set_option linter.unusedVariables false
structure Guess (U u y yh yl q rh : Int) : Prop where
  sum : q * yh + rh = U
  q0 : 0 ≤ q
  q1 : q ≤ 4294967297
  rh0 : 0 ≤ rh
  rh1 : rh < 4294967296
  high : (U * 4294967296 + u) / y ≤ q
theorem quo_lt {U u y : Int} (hU0 : 0 ≤ U) (hU : U < y) (hu0 : 0 ≤ u) (hu : u < 4294967296) : (U * 4294967296 + u) / y < 4294967296 := by
  apply Int.ediv_lt_of_lt_mul (by omega)
  omega
theorem quo_nonneg {U u y : Int} (hU0 : 0 ≤ U) (hU : U < y) (hu0 : 0 ≤ u) : 0 ≤ (U * 4294967296 + u) / y := Int.ediv_nonneg (by omega) (by omega)
theorem guess_start {U u y yh yl : Int} (e : y = yh * 4294967296 + yl) (p1 : 2147483648 ≤ yh) (p2 : yh < 4294967296) (p3 : 0 ≤ yl) (p4 : yl < 4294967296) (hU0 : 0 ≤ U) (hU : U < y) (hu0 : 0 ≤ u) (hu : u < 4294967296) :
    Guess U u y yh yl (U / yh) (U - U / yh * yh) := by
  have d1 : U / yh * yh + U % yh = U := by rw [Int.mul_comm]; exact Int.mul_ediv_add_emod U yh
  have d2 : 0 ≤ U % yh := Int.emod_nonneg _ (by omega)
  have d3 : U % yh < yh := Int.emod_lt_of_pos _ (by omega)
  have d4 : 0 ≤ U / yh := Int.ediv_nonneg hU0 (by omega)
  generalize U / yh = q at *
  generalize U % yh = r at *
  refine ⟨by omega, d4, ?_, by omega, by omega, ?_⟩
  · by_cases h : q ≤ 4294967297
    · exact h
    · have h2 : 4294967298 * yh ≤ q * yh := Int.mul_le_mul_of_nonneg_right (by omega) (by omega)
      omega
  · have h3 : (U * 4294967296 + u) / y < q + 1 := by
      apply Int.ediv_lt_of_lt_mul (by omega)
      have h4 : (q + 1) * y = (q + 1) * yh * 4294967296 + (q + 1) * yl := by rw [e, Int.mul_add, Int.mul_assoc]
      have h5 : (q + 1) * yh = q * yh + yh := by rw [Int.add_mul, Int.one_mul]
      have h6 : 0 ≤ (q + 1) * yl := Int.mul_nonneg (by omega) p3
      rw [h4, h5]; omega
    omega
theorem guess_high {U u y yh yl q rh : Int} (hy : 0 < y) (e : y = yh * 4294967296 + yl) (hlt : (U * 4294967296 + u) / y < 4294967296) (g : Guess U u y yh yl q rh) (h : 4294967296 ≤ q ∨ 4294967296 * rh + u < q * yl) : (U * 4294967296 + u) / y ≤ q - 1 := by
  rcases h with h | h
  · omega
  · have h2 : (U * 4294967296 + u) / y < q := by
      apply Int.ediv_lt_of_lt_mul hy
      have h4 : q * y = q * yh * 4294967296 + q * yl := by rw [e, Int.mul_add, Int.mul_assoc]
      have := g.sum
      rw [h4]; omega
    omega
theorem guess_right {U u y yh yl q rh : Int} (hy : 0 < y) (e : y = yh * 4294967296 + yl) (g : Guess U u y yh yl q rh) (h : q * yl ≤ 4294967296 * rh + u) : q = (U * 4294967296 + u) / y := by
  have h1 := g.high
  have h2 : q ≤ (U * 4294967296 + u) / y := by
    apply (Int.le_ediv_iff_mul_le hy).2
    have h4 : q * y = q * yh * 4294967296 + q * yl := by rw [e, Int.mul_add, Int.mul_assoc]
    have := g.sum
    rw [h4]; omega
  omega
theorem guess_next {U u y yh yl q rh : Int} (hyh : 0 < yh) (g : Guess U u y yh yl q rh) (hlow : (U * 4294967296 + u) / y ≤ q - 1) (h0 : 0 ≤ (U * 4294967296 + u) / y) (hr : rh + yh < 4294967296) : Guess U u y yh yl (q - 1) (rh + yh) := by
  obtain ⟨s, a, b, c, d, f⟩ := g
  refine ⟨by rw [Int.sub_mul, Int.one_mul]; omega, by omega, by omega, by omega, by omega, hlow⟩
theorem guess_stop {U u y yh yl q rh : Int} (hy : 0 < y) (e : y = yh * 4294967296 + yl) (hyh : 0 < yh) (hyl0 : 0 ≤ yl) (hyl : yl < 4294967296) (hu0 : 0 ≤ u) (g : Guess U u y yh yl q rh) (hlow : (U * 4294967296 + u) / y ≤ q - 1) (h0 : 0 ≤ (U * 4294967296 + u) / y) (hr : 4294967296 ≤ rh + yh) : q - 1 = (U * 4294967296 + u) / y := by
  obtain ⟨s, a, b, c, d, f⟩ := g
  have h2 : q - 1 ≤ (U * 4294967296 + u) / y := by
    apply (Int.le_ediv_iff_mul_le hy).2
    have h4 : (q - 1) * y = (q - 1) * yh * 4294967296 + (q - 1) * yl := by rw [e, Int.mul_add, Int.mul_assoc]
    have h5 : (q - 1) * yh = q * yh - yh := by rw [Int.sub_mul, Int.one_mul]
    have h6 : (q - 1) * yl ≤ 4294967296 * yl := Int.mul_le_mul_of_nonneg_right (by omega) hyl0
    rw [h4, h5]; omega
  omega
theorem left_over {U u y q : Int} (hy0 : 0 < y) (hy : y < 18446744073709551616) (hq : q = (U * 4294967296 + u) / y) :
    0 ≤ U * 4294967296 + u - q * y ∧ U * 4294967296 + u - q * y < y := by
  have h1 := Int.mul_ediv_add_emod (U * 4294967296 + u) y
  have h2 := Int.emod_nonneg (U * 4294967296 + u) (show y ≠ 0 by omega)
  have h3 := Int.emod_lt_of_pos (U * 4294967296 + u) hy0
  have h4 : y * ((U * 4294967296 + u) / y) = q * y := by rw [hq, Int.mul_comm]
  omega
theorem whole {N y p Q1 Q0 r1 r2 U u1 u0 : Int} (hp : 0 < p) (hy0 : 0 < y) (hN : N * p = U * 18446744073709551616 + u1 * 4294967296 + u0) (h1 : U * 4294967296 + u1 = Q1 * (y * p) + r1) (h2 : r1 * 4294967296 + u0 = Q0 * (y * p) + r2)
    (h3 : 0 ≤ r2) (h4 : r2 < y * p) : Q1 * 4294967296 + Q0 = N / y ∧ r2 / p = N % y := by
  have e : N * p = (Q1 * 4294967296 + Q0) * y * p + r2 := by
    have e1 : (Q1 * 4294967296 + Q0) * y * p = Q1 * (y * p) * 4294967296 + Q0 * (y * p) := by
      rw [Int.mul_assoc, Int.add_mul, Int.mul_assoc, Int.mul_assoc, Int.mul_comm 4294967296]
    rw [hN, e1]; omega
  obtain ⟨Q, hQ⟩ : ∃ z, Q1 * 4294967296 + Q0 = z := ⟨_, rfl⟩
  rw [hQ] at e ⊢
  have e2 : r2 = (N - Q * y) * p := by rw [Int.sub_mul]; omega
  have e3 : 0 ≤ N - Q * y := by
    by_cases h : 0 ≤ N - Q * y
    · exact h
    · have := Int.mul_neg_of_neg_of_pos (show N - Q * y < 0 by omega) hp
      omega
  have e4 : N - Q * y < y := by
    by_cases h : N - Q * y < y
    · exact h
    · have : y * p ≤ (N - Q * y) * p := Int.mul_le_mul_of_nonneg_right (by omega) (by omega)
      omega
  constructor
  · have h5 : N = (N - Q * y) + Q * y := by omega
    rw [h5, Int.add_mul_ediv_right _ _ (by omega), Int.ediv_eq_zero_of_lt e3 e4]; omega
  · rw [e2, Int.mul_ediv_cancel _ (by omega)]
    have h5 : N % y = ((N - Q * y) + Q * y) % y := by congr 1; omega
    rw [h5, Int.add_mul_emod_self_right, Int.emod_eq_of_lt e3 e4]
end Go.Proofs.Ytikhgdbbbingbaa.Dv
namespace Go.Proofs.Ytikhgdbbbingbaa
open Go Go.RowKit
set_option linter.unusedVariables false
theorem div64_low (lo y : Int) (w : World) (h0 : 0 ≤ lo) (h1 : lo ≤ 18446744073709551615) (hy0 : 0 < y) (hy1 : y ≤ 18446744073709551615) :
    Calls Try.prog 74 #[.int .u64 0, .int .u64 lo, .int .u64 y] w fun e w' => e = .returned (.tuple #[.int .u64 (lo / y), .int .u64 (lo % y)]) ∧ ∃ n, w' = w.drewN n := by
  have hne : ((y : Int) == 0) = false := by simp; omega
  go_enter Try.func74, Try.ntmps74
  go_wp2
  go_quiet (fail)
  go_wp2
  go_ret2
  exact ⟨rfl, _, rfl⟩
theorem wrap_u64 (n : Int) : IntKind.u64.wrap n = n % 18446744073709551616 := by simp [IntKind.wrap, IntKind.bits, IntKind.signed]
theorem u64_eq {a b : Int} (h : a = b) : Value.int .u64 a = .int .u64 b := by rw [h]
theorem lz_any (y : Int) (s : Nat) (w : World) (h0 : 0 < y) (h1 : y ≤ 18446744073709551615) (hs : (64 - (Lib.bitLen y.toNat : Int)) = s) :
    Calls Try.prog 85 #[.int .u64 y] w fun e w' => e = .returned (.int .i64 s) ∧ w = w' :=
  (Try.bits_LeadingZeros64 y w (by omega) h1).mono fun _ _ q => ⟨by rw [← hs]; exact q.1, q.2.symm⟩
theorem start_wrap (U m r : Int) (hm0 : 0 ≤ m) (hm1 : m ≤ 18446744073709551615) (h : r = U - m) (h0 : 0 ≤ r) (h1 : r < 4294967296) : IntKind.u64.wrap (U - IntKind.u64.wrap m) = r := by
  rw [wrap_u64, wrap_u64]; omega
theorem left_wrap (U u P r : Int) (h : U * 4294967296 + u - P = r) (h0 : 0 ≤ r) (h1 : r < 18446744073709551616) : IntKind.u64.wrap (IntKind.u64.wrap (IntKind.u64.wrap (U * 4294967296) + u) - IntKind.u64.wrap P) = r := by
  rw [wrap_u64, wrap_u64, wrap_u64, wrap_u64]; omega
set_option maxHeartbeats 2000000 in
set_option maxRecDepth 100000 in
theorem div64_high (hi lo y : Int) (s : Nat) (w : World) (h0 : 0 ≤ lo) (h1 : lo ≤ 18446744073709551615) (hh0 : 0 < hi) (hh1 : hi < y) (hy1 : y ≤ 18446744073709551615)
    (hs : (64 - (Lib.bitLen y.toNat : Int)) = s) (hs1 : s ≤ 63) (Y : Int) (hY : y * 2 ^ s = Y) (hY0 : 9223372036854775808 ≤ Y) (hY1 : Y ≤ 18446744073709551615)
    (H L U X yh yl u1 u0 : Int) (eH : IntKind.u64.wrap (hi * 2 ^ s) = H) (eL : lo / 2 ^ (64 - s) = L) (eU : bits .or .u64 H L = U) (eX : IntKind.u64.wrap (lo * 2 ^ s) = X)
    (eyh : Y / 4294967296 = yh) (eyl : bits .and .u64 Y 4294967295 = yl) (eu1 : X / 4294967296 = u1) (eu0 : bits .and .u64 X 4294967295 = u0)
    (hU0 : 0 ≤ U) (hU : U < Y) (bh0 : 2147483648 ≤ yh) (bh1 : yh < 4294967296) (bl0 : 0 ≤ yl) (bl1 : yl < 4294967296) (b10 : 0 ≤ u1) (b11 : u1 < 4294967296) (b00 : 0 ≤ u0) (b01 : u0 < 4294967296)
    (hYY : Hid (Y = yh * 4294967296 + yl)) :
    Calls Try.prog 74 #[.int .u64 hi, .int .u64 lo, .int .u64 y] w fun e w' => ∃ Q1 Q0 r1 r2, e = .returned (.tuple #[.int .u64 (Q1 * 4294967296 + Q0), .int .u64 (r2 / 2 ^ s)]) ∧ w = w' ∧
      U * 4294967296 + u1 = Q1 * Y + r1 ∧ r1 * 4294967296 + u0 = Q0 * Y + r2 ∧ 0 ≤ r2 ∧ r2 < Y := by
  have HL := Lib.hid (lz_any y s w (by omega) hy1 hs)
  clear hs
  have hne : ((y : Int) == 0) = false := by simp; omega
  have hne2 : ((hi : Int) == 0) = false := by simp; omega
  have HG := Lib.hid (Dv.guess_start (u := u1) hYY.out bh0 bh1 bl0 bl1 hU0 hU b10 b11)
  have HQL := Lib.hid (Dv.quo_lt hU0 hU b10 b11)
  have HQ0 := Lib.hid (Dv.quo_nonneg (u := u1) hU0 hU b10)
  obtain ⟨Q1, hQ1⟩ : ∃ q, (U * 4294967296 + u1) / Y = q := ⟨_, rfl⟩
  have HQ1 := Lib.hid hQ1
  rw [hQ1] at HQL HQ0
  obtain ⟨q, hq⟩ : ∃ q, U / yh = q := ⟨_, rfl⟩
  have hg := HG.out
  rw [hq] at hg
  have hq0 := hg.q0
  have hq1 := hg.q1
  obtain ⟨m, hm⟩ : ∃ m, q * yh = m := ⟨_, rfl⟩
  have hsum := hg.sum
  have hrh0 := hg.rh0
  have hrh1 := hg.rh1
  rw [hm] at hg hsum hrh0 hrh1
  have HG1 := Lib.hid hg
  have hm0 : 0 ≤ m := by rw [← hm]; exact Int.mul_nonneg hq0 (by omega)
  clear hg HG hQ1
  go_enter Try.func74, Try.ntmps74
  go_upto_block 0 with (first | (go_at_call 85; refine HL.out.mono ?_; rintro e w' ⟨rfl, rfl⟩))
  go_cut [15, 16] (fun a b wc => a = .int .u64 Q1 ∧ wc = w)
  case first =>
    go_wp2_with fail
    go_loop [15, 16] (fun a b => ∃ q r : Int, a = .int .u64 q ∧ b = .int .u64 r ∧ Hid (Dv.Guess U u1 Y yh yl q r)) (fun a _ => (intOf a).toNat)
    case atStart => exact ⟨q, U - m, u64_eq hq, (by first | rfl | exact u64_eq (start_wrap U m _ (by omega) (by omega) rfl hrh0 hrh1)), HG1.out⟩
    case round =>
      clear hq hm HG1 hsum hrh0 hrh1 hq0 hq1 hm0
      obtain ⟨q, r, rfl, rfl, G⟩ := hrel
      have b1 := G.out.q0
      have b2 := G.out.q1
      have b3 := G.out.rh0
      have b4 := G.out.rh1
      have HH := Lib.hid (Dv.guess_high (show 0 < Y by omega) hYY.out (by rw [HQ1.out]; exact HQL.out) G.out)
      rw [HQ1.out] at HH
      by_cases hA : 4294967296 ≤ q
      · have hlow := HH.out (Or.inl hA)
        by_cases hr : r + yh < 4294967296
        · have HN := Lib.hid (Dv.guess_next (show 0 < yh by omega) G.out (by rw [HQ1.out]; exact hlow) (by rw [HQ1.out]; exact HQ0.out) hr)
          go_wp2
          go_round
          case rel => exact ⟨q - 1, r + yh, rfl, rfl, HN.out⟩
          case measure => simp [intOf]; omega
        · have HS := Lib.hid (Dv.guess_stop (show 0 < Y by omega) hYY.out (show 0 < yh by omega) bl0 bl1 b10 G.out (by rw [HQ1.out]; exact hlow) (by rw [HQ1.out]; exact HQ0.out) (by omega))
          rw [HQ1.out] at HS
          go_wp2
          go_meet
          exact ⟨u64_eq HS.out, rfl⟩
      · obtain ⟨m2, hm2⟩ : ∃ m2, q * yl = m2 := ⟨_, rfl⟩
        have hm20 : 0 ≤ m2 := by rw [← hm2]; exact Int.mul_nonneg b1 bl0
        have hm21 : m2 ≤ 18446744065119617025 := by
          rw [← hm2]
          have a1 : q * yl ≤ 4294967295 * yl := Int.mul_le_mul_of_nonneg_right (by omega) bl0
          omega
        by_cases hB : 4294967296 * r + u1 < m2
        · have hlow := HH.out (Or.inr (by rw [hm2]; exact hB))
          have hqpos : 1 ≤ q := by have := HQ0.out; omega
          by_cases hr : r + yh < 4294967296
          · have HN := Lib.hid (Dv.guess_next (show 0 < yh by omega) G.out (by rw [HQ1.out]; exact hlow) (by rw [HQ1.out]; exact HQ0.out) hr)
            go_wp2
            go_round
            case rel => exact ⟨q - 1, r + yh, rfl, rfl, HN.out⟩
            case measure => simp [intOf]; omega
          · have HS := Lib.hid (Dv.guess_stop (show 0 < Y by omega) hYY.out (show 0 < yh by omega) bl0 bl1 b10 G.out (by rw [HQ1.out]; exact hlow) (by rw [HQ1.out]; exact HQ0.out) (by omega))
            rw [HQ1.out] at HS
            go_wp2
            go_meet
            exact ⟨u64_eq HS.out, rfl⟩
        · have HR := Lib.hid (Dv.guess_right (show 0 < Y by omega) hYY.out G.out (by rw [hm2]; omega))
          rw [HQ1.out] at HR
          go_wp2
          go_meet
          exact ⟨u64_eq HR.out, rfl⟩
  case rest =>
    obtain ⟨rfl, rfl⟩ := hcut
    clear hq hm HG1 hsum hrh0 hrh1 hq0 hq1 hm0
    have hlo := Dv.left_over (u := u1) (show 0 < Y by omega) (show Y < 18446744073709551616 by omega) HQ1.out.symm
    obtain ⟨P, hP⟩ : ∃ P, Q1 * Y = P := ⟨_, rfl⟩
    rw [hP] at hlo
    obtain ⟨r1, hr1⟩ : ∃ r, U * 4294967296 + u1 - P = r := ⟨_, rfl⟩
    rw [hr1] at hlo
    have e9 := left_wrap U u1 P r1 hr1 hlo.1 (by omega)
    have HR1 := Lib.hid hr1
    clear hr1
    have HG := Lib.hid (Dv.guess_start (u := u0) hYY.out bh0 bh1 bl0 bl1 hlo.1 hlo.2 b00 b01)
    have HKL := Lib.hid (Dv.quo_lt hlo.1 hlo.2 b00 b01)
    have HK0 := Lib.hid (Dv.quo_nonneg (u := u0) hlo.1 hlo.2 b00)
    have hQ1a := HQL.out
    have hQ1b := HQ0.out
    obtain ⟨Q0, hK1⟩ : ∃ q, (r1 * 4294967296 + u0) / Y = q := ⟨_, rfl⟩
    have HK1 := Lib.hid hK1
    rw [hK1] at HKL HK0
    obtain ⟨q, hq⟩ : ∃ q, r1 / yh = q := ⟨_, rfl⟩
    have hg := HG.out
    rw [hq] at hg
    have hq0 := hg.q0
    have hq1 := hg.q1
    obtain ⟨m, hm⟩ : ∃ m, q * yh = m := ⟨_, rfl⟩
    have hsum := hg.sum
    have hrh0 := hg.rh0
    have hrh1 := hg.rh1
    rw [hm] at hg hsum hrh0 hrh1
    have HG1 := Lib.hid hg
    have hm0 : 0 ≤ m := by rw [← hm]; exact Int.mul_nonneg hq0 (by omega)
    clear hg HG hK1
    go_upto_block 2 with fail
    go_cut [18, 16] (fun a b wx => a = .int .u64 Q0 ∧ wx = wc)
    case first =>
      go_wp2_with fail
      go_loop [18, 16] (fun a b => ∃ q r : Int, a = .int .u64 q ∧ b = .int .u64 r ∧ Hid (Dv.Guess r1 u0 Y yh yl q r)) (fun a _ => (intOf a).toNat)
      case atStart => exact ⟨q, r1 - m, u64_eq hq, (by first | rfl | exact u64_eq (start_wrap r1 m _ (by omega) (by omega) rfl hrh0 hrh1)), HG1.out⟩
      case round =>
        clear hq hm HG1 hsum hrh0 hrh1 hq0 hq1 hm0
        obtain ⟨q, r, rfl, rfl, G⟩ := hrel
        have b1 := G.out.q0
        have b2 := G.out.q1
        have b3 := G.out.rh0
        have b4 := G.out.rh1
        have HH := Lib.hid (Dv.guess_high (show 0 < Y by omega) hYY.out (by rw [HK1.out]; exact HKL.out) G.out)
        rw [HK1.out] at HH
        by_cases hA : 4294967296 ≤ q
        · have hlow := HH.out (Or.inl hA)
          by_cases hr : r + yh < 4294967296
          · have HN := Lib.hid (Dv.guess_next (show 0 < yh by omega) G.out (by rw [HK1.out]; exact hlow) (by rw [HK1.out]; exact HK0.out) hr)
            go_wp2
            go_round
            case rel => exact ⟨q - 1, r + yh, rfl, rfl, HN.out⟩
            case measure => simp [intOf]; omega
          · have HS := Lib.hid (Dv.guess_stop (show 0 < Y by omega) hYY.out (show 0 < yh by omega) bl0 bl1 b00 G.out (by rw [HK1.out]; exact hlow) (by rw [HK1.out]; exact HK0.out) (by omega))
            rw [HK1.out] at HS
            go_wp2
            go_meet
            exact ⟨u64_eq HS.out, rfl⟩
        · obtain ⟨m2, hm2⟩ : ∃ m2, q * yl = m2 := ⟨_, rfl⟩
          have hm20 : 0 ≤ m2 := by rw [← hm2]; exact Int.mul_nonneg b1 bl0
          have hm21 : m2 ≤ 18446744065119617025 := by
            rw [← hm2]
            have a1 : q * yl ≤ 4294967295 * yl := Int.mul_le_mul_of_nonneg_right (by omega) bl0
            omega
          by_cases hB : 4294967296 * r + u0 < m2
          · have hlow := HH.out (Or.inr (by rw [hm2]; exact hB))
            have hqpos : 1 ≤ q := by have := HK0.out; omega
            by_cases hr : r + yh < 4294967296
            · have HN := Lib.hid (Dv.guess_next (show 0 < yh by omega) G.out (by rw [HK1.out]; exact hlow) (by rw [HK1.out]; exact HK0.out) hr)
              go_wp2
              go_round
              case rel => exact ⟨q - 1, r + yh, rfl, rfl, HN.out⟩
              case measure => simp [intOf]; omega
            · have HS := Lib.hid (Dv.guess_stop (show 0 < Y by omega) hYY.out (show 0 < yh by omega) bl0 bl1 b00 G.out (by rw [HK1.out]; exact hlow) (by rw [HK1.out]; exact HK0.out) (by omega))
              rw [HK1.out] at HS
              go_wp2
              go_meet
              exact ⟨u64_eq HS.out, rfl⟩
          · have HR := Lib.hid (Dv.guess_right (show 0 < Y by omega) hYY.out G.out (by rw [hm2]; omega))
            rw [HK1.out] at HR
            go_wp2
            go_meet
            exact ⟨u64_eq HR.out, rfl⟩
    case rest =>
      obtain ⟨rfl, rfl⟩ := hcut
      clear hq hm HG1 hsum hrh0 hrh1 hq0 hq1 hm0
      have hlo2 := Dv.left_over (u := u0) (show 0 < Y by omega) (show Y < 18446744073709551616 by omega) HK1.out.symm
      have hK1a := HKL.out
      have hK1b := HK0.out
      obtain ⟨P0, hP0⟩ : ∃ P, Q0 * Y = P := ⟨_, rfl⟩
      rw [hP0] at hlo2
      obtain ⟨r2, hr2⟩ : ∃ r, r1 * 4294967296 + u0 - P0 = r := ⟨_, rfl⟩
      rw [hr2] at hlo2
      have e10 := left_wrap r1 u0 P0 r2 hr2 hlo2.1 (by omega)
      have HR2 := Lib.hid hr2
      have HP := Lib.hid hP
      have HP0 := Lib.hid hP0
      clear hr2
      go_wp2
      go_ret2
      refine ⟨Q1, Q0, r1, r2, rfl, rfl, ?_, ?_, hlo2.1, hlo2.2⟩
      · rw [HP.out]; have := HR1.out; omega
      · rw [HP0.out]; have := HR2.out; omega
end Go.Proofs.Ytikhgdbbbingbaa
namespace Go.Proofs.Ytikhgdbbbingbaa
open Go Go.RowKit
set_option linter.unusedVariables false
theorem pow_int (s : Nat) : ((2 : Int) ^ s) = ((2 ^ s : Nat) : Int) := by simp
theorem pow_pos' (s : Nat) : (0 : Int) < 2 ^ s := by rw [pow_int]; have := Nat.two_pow_pos s; omega
theorem pow_split (s : Nat) (hs : s ≤ 64) : (2 : Int) ^ (64 - s) * 2 ^ s = 18446744073709551616 := by
  rw [← Int.pow_add, show 64 - s + s = 64 by omega]; rfl
theorem shift_split (lo : Int) (s : Nat) (h0 : 0 ≤ lo) (h1 : lo ≤ 18446744073709551615) (hs : s ≤ 64) :
    lo * 2 ^ s = lo / 2 ^ (64 - s) * 18446744073709551616 + (lo * 2 ^ s) % 18446744073709551616 ∧ 0 ≤ lo / 2 ^ (64 - s) ∧ lo / 2 ^ (64 - s) < 2 ^ s := by
  have e : (lo * 2 ^ s) / 18446744073709551616 = lo / 2 ^ (64 - s) := by
    rw [← pow_split s hs]; exact Int.mul_ediv_mul_of_pos_left _ _ (pow_pos' s)
  refine ⟨?_, Int.ediv_nonneg h0 (Int.le_of_lt (pow_pos' _)), ?_⟩
  · rw [← e]; have := Int.mul_ediv_add_emod (lo * 2 ^ s) 18446744073709551616; omega
  · apply Int.ediv_lt_of_lt_mul (pow_pos' _)
    rw [Int.mul_comm, pow_split s hs]; omega
theorem len_facts (y : Int) (h0 : 0 < y) (h1 : y ≤ 18446744073709551615) : ∃ s : Nat, (64 - (Lib.bitLen y.toNat : Int)) = s ∧ s ≤ 63 ∧ 9223372036854775808 ≤ y * 2 ^ s ∧ y * 2 ^ s ≤ 18446744073709551615 := by
  obtain ⟨n, rfl⟩ : ∃ n : Nat, y = n := ⟨y.toNat, by omega⟩
  have hb := Lib.bitLenAux_bounds 64 n (by omega) (by omega)
  change 1 ≤ Lib.bitLen n ∧ 2 ^ (Lib.bitLen n - 1) ≤ n ∧ n < 2 ^ Lib.bitLen n at hb
  have hl := Lib.bitLen_le n 64 (by omega) (by omega)
  rw [Int.toNat_natCast]
  obtain ⟨L, hL⟩ : ∃ L, Lib.bitLen n = L := ⟨_, rfl⟩
  rw [hL] at hb hl ⊢
  refine ⟨64 - L, by omega, by omega, ?_, ?_⟩
  · have a1 : 2 ^ (L - 1) * 2 ^ (64 - L) ≤ n * 2 ^ (64 - L) := Nat.mul_le_mul_right _ hb.2.1
    rw [← Nat.pow_add, show L - 1 + (64 - L) = 63 by omega] at a1
    have a4 := Int.ofNat_le.2 a1
    rw [Int.natCast_mul] at a4
    rw [pow_int]; omega
  · have a1 : (n + 1) * 2 ^ (64 - L) ≤ 2 ^ L * 2 ^ (64 - L) := Nat.mul_le_mul_right _ hb.2.2
    rw [← Nat.pow_add, show L + (64 - L) = 64 by omega, Nat.add_mul] at a1
    have a2 := Nat.two_pow_pos (64 - L)
    have a3 : n * 2 ^ (64 - L) ≤ 18446744073709551615 := by omega
    have a4 := Int.ofNat_le.2 a3
    rw [Int.natCast_mul] at a4
    rw [pow_int]; omega
theorem wraps_u64 (n : Int) (h₀ : 0 ≤ n) (h₁ : n < 2 ^ 64) : IntKind.u64.wrap n = n := by rw [wrap_u64]; omega
theorem u64_mask32 (x : Int) (h0 : 0 ≤ x) (h1 : x ≤ 18446744073709551615) : bits .and .u64 x 4294967295 = x % 4294967296 := by
  have := bits_mask .u64 64 (by decide) wraps_u64 32 (by decide) x h0 (by omega)
  simpa using this
theorem div64_any (hi lo y : Int) (w : World) (hh0 : 0 ≤ hi) (hh1 : hi < y) (h0 : 0 ≤ lo) (h1 : lo ≤ 18446744073709551615) (hy1 : y ≤ 18446744073709551615) :
    Calls Try.prog 74 #[.int .u64 hi, .int .u64 lo, .int .u64 y] w fun e w' => e = .returned (.tuple #[.int .u64 ((hi * 18446744073709551616 + lo) / y), .int .u64 ((hi * 18446744073709551616 + lo) % y)]) ∧ ∃ n, w' = w.drewN n := by
  by_cases hz : hi = 0
  · subst hz
    rw [Int.zero_mul, Int.zero_add]
    exact div64_low lo y w h0 h1 hh1 hy1
  · obtain ⟨s, e1, e2, e3, e4⟩ := len_facts y (by omega) hy1
    have hp := pow_pos' s
    have hsp := shift_split lo s h0 h1 (by omega)
    have hH1 : hi * 2 ^ s ≤ (y - 1) * 2 ^ s := Int.mul_le_mul_of_nonneg_right (by omega) (Int.le_of_lt hp)
    rw [Int.sub_mul, Int.one_mul] at hH1
    have hH0 : 0 ≤ hi * 2 ^ s := Int.mul_nonneg hh0 (Int.le_of_lt hp)
    have eH : IntKind.u64.wrap (hi * 2 ^ s) = hi * 2 ^ s := by rw [wrap_u64]; omega
    have hL64 : (2 : Int) ^ s ≤ 2 ^ 63 := by rw [pow_int, pow_int]; exact_mod_cast Nat.pow_le_pow_right (by omega) e2
    have eU : bits .or .u64 (hi * 2 ^ s) (lo / 2 ^ (64 - s)) = hi * 2 ^ s + lo / 2 ^ (64 - s) :=
      bits_join .u64 64 (by decide) wraps_u64 s _ _ hH0 (Int.mul_emod_left _ _) (by omega) hsp.2.1 hsp.2.2 (by omega)
    have eX : IntKind.u64.wrap (lo * 2 ^ s) = (lo * 2 ^ s) % 18446744073709551616 := wrap_u64 _
    obtain ⟨X, hX⟩ : ∃ X, (lo * 2 ^ s) % 18446744073709551616 = X := ⟨_, rfl⟩
    have hX0 : 0 ≤ X ∧ X ≤ 18446744073709551615 := by omega
    rw [hX] at eX hsp
    have hN : (hi * 18446744073709551616 + lo) * 2 ^ s = (hi * 2 ^ s + lo / 2 ^ (64 - s)) * 18446744073709551616 + X := by
      rw [Int.add_mul, Int.add_mul, hsp.1, Int.mul_assoc, Int.mul_comm 18446744073709551616, ← Int.mul_assoc]; omega
    refine (div64_high hi lo y s w h0 h1 (by omega) hh1 hy1 e1 e2 (y * 2 ^ s) rfl e3 e4 (hi * 2 ^ s) (lo / 2 ^ (64 - s)) (hi * 2 ^ s + lo / 2 ^ (64 - s)) X (y * 2 ^ s / 4294967296) (y * 2 ^ s % 4294967296) (X / 4294967296) (X % 4294967296)
      eH rfl eU eX rfl (u64_mask32 _ (by omega) e4) rfl (u64_mask32 _ hX0.1 hX0.2) (by omega) (by omega) (by omega) (by omega) (by omega) (by omega) (by omega) (by omega) (by omega) (by omega) (by show _ = _; omega)).mono ?_
    rintro e w' ⟨Q1, Q0, r1, r2, rfl, rfl, h2, h3, h4, h5⟩
    have hw := Dv.whole (N := hi * 18446744073709551616 + lo) (y := y) (p := 2 ^ s) (Q1 := Q1) (Q0 := Q0) (r1 := r1) (r2 := r2) (U := hi * 2 ^ s + lo / 2 ^ (64 - s)) (u1 := X / 4294967296) (u0 := X % 4294967296) hp (by omega) (by rw [hN]; omega) h2 h3 h4 h5
    exact ⟨by rw [hw.1, hw.2], 0, rfl⟩
end Go.Proofs.Ytikhgdbbbingbaa
namespace Go.Proofs.Ytikhgdbbbingbaa
open Go Go.RowKit
set_option linter.unusedVariables false
def absI (a : Int) : Int := if a < 0 then -a else a
theorem absI_pos (a : Int) : 0 ≤ absI a := by unfold absI; split <;> omega
theorem ret_u64 {a b : Int} (h : a = b) : Ending.returned (.int .u64 a) = .returned (.int .u64 b) := by rw [h]
theorem ret_bool {a b : Bool} (h : a = b) : Ending.returned (.bool a) = .returned (.bool b) := by rw [h]
theorem size_any (a : Int) (w : World) (h0 : -9223372036854775808 ≤ a) (h1 : a ≤ 9223372036854775807) : Calls Try.prog 72 #[.int .i64 a] w fun e w' => e = .returned (.int .u64 (absI a)) ∧ w = w' := by
  have HA := Lib.hid (show (a < 0 → IntKind.u64.wrap (-IntKind.u64.wrap a) = absI a) ∧ (0 ≤ a → IntKind.u64.wrap a = absI a) by
    unfold absI; rw [wrap_u64, wrap_u64]; split <;> omega)
  by_cases h : a < 0
  · have e := HA.out.1 h
    go_enter Try.func72, Try.ntmps72
    go_wp2
    go_ret
    exact ⟨rfl, rfl⟩
  · have e := HA.out.2 (by omega)
    have HE := Lib.hid (show a = absI a by unfold absI; rw [if_neg h])
    go_enter Try.func72, Try.ntmps72
    go_wp2
    go_ret
    exact ⟨ret_u64 (by first | rfl | exact e | exact HE.out), rfl⟩
theorem mul64_any (a b : Int) (w : World) (ha0 : 0 ≤ a) (ha1 : a ≤ 18446744073709551615) (hb0 : 0 ≤ b) (hb1 : b ≤ 18446744073709551615) :
    Calls Try.prog 71 #[.int .u64 a, .int .u64 b] w fun e w' => e = .returned (.tuple #[.int .u64 (a * b / 18446744073709551616), .int .u64 (a * b % 18446744073709551616)]) ∧ w = w' := by
  obtain ⟨n, rfl⟩ : ∃ n : Nat, a = n := ⟨a.toNat, by omega⟩
  obtain ⟨m, rfl⟩ : ∃ n : Nat, b = n := ⟨b.toNat, by omega⟩
  refine (Try.bits_Mul64 n m (by omega) (by omega) w).mono ?_
  rintro e w' ⟨rfl, rfl⟩
  exact ⟨by simp, rfl⟩
def belowB (a b c : Int) : Bool := (((decide (a < 0) != decide (b < 0)) != decide (c < 0)) && a != 0) && b != 0
set_option maxHeartbeats 1000000 in
theorem below_any (a b c : Int) (B : Nat) (w : World) (ca : w.cell? ⟨B, 0, none⟩ = some (.int .i64 a)) (cb : w.cell? ⟨B + 1, 0, none⟩ = some (.int .i64 b)) (cc : w.cell? ⟨B + 2, 0, none⟩ = some (.int .i64 c)) :
    Calls Try.prog 73 #[.pointer (some ⟨B, 0, none⟩), .pointer (some ⟨B + 1, 0, none⟩), .pointer (some ⟨B + 2, 0, none⟩)] w fun e w' => e = .returned (.bool (belowB a b c)) ∧ w = w' := by
  by_cases ha : a < 0 <;> by_cases hb : b < 0 <;> by_cases hc : c < 0
  all_goals
    first
    | have dA := Lib.hid (show decide (a < 0) = true from decide_eq_true ha)
    | have dA := Lib.hid (show decide (a < 0) = false from decide_eq_false ha)
    first
    | have dB := Lib.hid (show decide (b < 0) = true from decide_eq_true hb)
    | have dB := Lib.hid (show decide (b < 0) = false from decide_eq_false hb)
    first
    | have dC := Lib.hid (show decide (c < 0) = true from decide_eq_true hc)
    | have dC := Lib.hid (show decide (c < 0) = false from decide_eq_false hc)
    go_enter Try.func73, Try.ntmps73
    go_wp2
    all_goals go_ret
    all_goals exact ⟨ret_bool (by first | rfl | (unfold belowB; rw [dA.out, dB.out, dC.out]; first | rfl | (simp; done)) | (unfold belowB; simp; done)), rfl⟩
end Go.Proofs.Ytikhgdbbbingbaa
namespace Go.Proofs.Ytikhgdbbbingbaa
open Go Go.RowKit
set_option linter.unusedVariables false
def mdv (a b c : Int) : Int × Int :=
  if absI c ≤ absI a * absI b / 18446744073709551616 then (0, 8)
  else if belowB a b c = false then
    if 9223372036854775807 < absI a * absI b / absI c then (0, 8) else (absI a * absI b / absI c, 0)
  else if absI a * absI b % absI c = 0 then
    if absI a * absI b / absI c = 0 ∨ 9223372036854775808 < absI a * absI b / absI c then (0, 8) else (-(absI a * absI b / absI c), 0)
  else if 9223372036854775808 < absI a * absI b / absI c + 1 then (0, 8) else (-(absI a * absI b / absI c + 1), 0)
theorem mdv_eq (a b c : Int) : mdv a b c =
  (if absI c ≤ absI a * absI b / 18446744073709551616 then (0, 8)
    else if belowB a b c = false then
      if 9223372036854775807 < absI a * absI b / absI c then (0, 8) else (absI a * absI b / absI c, 0)
    else if absI a * absI b % absI c = 0 then
      if absI a * absI b / absI c = 0 ∨ 9223372036854775808 < absI a * absI b / absI c then (0, 8) else (-(absI a * absI b / absI c), 0)
    else if 9223372036854775808 < absI a * absI b / absI c + 1 then (0, 8) else (-(absI a * absI b / absI c + 1), 0)) := rfl
def own4 (w : World) (a b c p q : Int) : World := (((w.alloc (.cells #[.int .i64 a] 2)).alloc (.cells #[.int .i64 b] 2)).alloc (.cells #[.int .i64 c] 2)).alloc (.cells #[.int .u64 p, .int .u64 q] 79)
theorem own4_cells (w : World) (a b c p q : Int) : (own4 w a b c p q).cell? ⟨w.heap.size, 0, none⟩ = some (.int .i64 a) ∧ (own4 w a b c p q).cell? ⟨w.heap.size + 1, 0, none⟩ = some (.int .i64 b) ∧
    (own4 w a b c p q).cell? ⟨w.heap.size + 2, 0, none⟩ = some (.int .i64 c) ∧ (own4 w a b c p q).cell? ⟨w.heap.size + 3, 0, none⟩ = some (.int .u64 p) ∧ (own4 w a b c p q).cell? ⟨w.heap.size + 3, 1, none⟩ = some (.int .u64 q) := by
  unfold own4
  refine ⟨?_, ?_, ?_, ?_, ?_⟩
  · rw [World.cell?_alloc_past _ _ _ (by simp <;> omega), World.cell?_alloc_past _ _ _ (by simp <;> omega), World.cell?_alloc_past _ _ _ (by simp), World.cell?_alloc_at _ _ _ _ rfl]; rfl
  · rw [World.cell?_alloc_past _ _ _ (by simp <;> omega), World.cell?_alloc_past _ _ _ (by simp), World.cell?_alloc_at _ _ _ _ (by simp)]; rfl
  · rw [World.cell?_alloc_past _ _ _ (by simp), World.cell?_alloc_at _ _ _ _ (by simp)]; rfl
  · rw [World.cell?_alloc_at _ _ _ _ (by simp)]; rfl
  · rw [World.cell?_alloc_at _ _ _ _ (by simp)]; rfl
theorem own4_below (w : World) (a b c p q : Int) : Below w.heap.size w (own4 w a b c p q) :=
  ((((Below.refl _ _).alloc (Nat.le_refl _) _).alloc (by simp) _).alloc (by simp; omega) _).alloc (by simp; omega) _
theorem below_drewN {B : Nat} {a w : World} (h : Below B a w) (n : Nat) : Below B a (w.drewN n) := ⟨h.os, h.tape, h.output, h.size, h.block⟩
theorem neg_conv (q : Int) (h0 : 0 < q) (h1 : q ≤ 9223372036854775808) : wrap64 (IntKind.u64.wrap (-q)) = -q := by
  rw [wrap_u64]; unfold wrap64; omega
theorem muldiv_zero (a b : Int) (w : World) : Calls Try.prog 30 #[.int .i64 a, .int .i64 b, .int .i64 0] w fun e w' => e = .returned (.tuple #[.int .i64 0, .int .i64 9]) ∧ Below w.heap.size w w' := by
  go_enter Try.func30, Try.ntmps30
  go_wp2
  go_ret2
  exact ⟨rfl, (((Below.refl _ _).alloc (Nat.le_refl _) _).alloc (by simp) _).alloc (by simp; omega) _⟩
set_option maxHeartbeats 4000000 in
theorem muldiv_walk (a b c : Int) (w : World) (hc : c ≠ 0) (ha0 : -9223372036854775808 ≤ a) (ha1 : a ≤ 9223372036854775807) (hb0 : -9223372036854775808 ≤ b) (hb1 : b ≤ 9223372036854775807) (hc0 : -9223372036854775808 ≤ c) (hc1 : c ≤ 9223372036854775807) :
    Calls Try.prog 30 #[.int .i64 a, .int .i64 b, .int .i64 c] w fun e w' => e = .returned (.tuple #[.int .i64 (mdv a b c).1, .int .i64 (mdv a b c).2]) ∧ Below w.heap.size w w' := by
  have hne : ((c : Int) == 0) = false := by simpa using hc
  have HA := Lib.hid (fun w => size_any a w ha0 ha1)
  have HB := Lib.hid (fun w => size_any b w hb0 hb1)
  have HC := Lib.hid (fun w => size_any c w hc0 hc1)
  have A0 := absI_pos a
  have B0 := absI_pos b
  have C0 : 0 < absI c := by unfold absI; split <;> omega
  have A1 : absI a ≤ 9223372036854775808 := by unfold absI; split <;> omega
  have B1 : absI b ≤ 9223372036854775808 := by unfold absI; split <;> omega
  have C1 : absI c ≤ 9223372036854775808 := by unfold absI; split <;> omega
  have HM := Lib.hid (fun w => mul64_any (absI a) (absI b) w A0 (by omega) B0 (by omega))
  have HR := Lib.hid (mdv_eq a b c)
  have N0 : 0 ≤ absI a * absI b := Int.mul_nonneg A0 B0
  have HBB := Lib.hid (fun w => below_any a b c w)
  clear A0 B0 A1 B1
  obtain ⟨x, hx⟩ : ∃ x, absI a = x := ⟨_, rfl⟩
  obtain ⟨y, hy⟩ : ∃ x, absI b = x := ⟨_, rfl⟩
  obtain ⟨d, hd⟩ : ∃ x, absI c = x := ⟨_, rfl⟩
  obtain ⟨bb, hbb⟩ : ∃ x, belowB a b c = x := ⟨_, rfl⟩
  rw [hx, hy, hd, hbb] at HR
  rw [hbb] at HBB
  rw [hx, hy] at N0
  rw [hx] at HA HM
  rw [hy] at HB HM
  rw [hd] at HC C0 C1
  obtain ⟨N, hN⟩ : ∃ z, x * y = z := ⟨_, rfl⟩
  rw [hN] at HR HM N0
  have HDV := Lib.hid (fun (h : N / 18446744073709551616 < d) w => div64_any (N / 18446744073709551616) (N % 18446744073709551616) d w (by omega) h (by omega) (by omega) (by omega))
  rw [show N / 18446744073709551616 * 18446744073709551616 + N % 18446744073709551616 = N by omega] at HDV
  have hQ0 : 0 ≤ N / d := Int.ediv_nonneg N0 (by omega)
  have HQR := Lib.hid (show (N / 18446744073709551616 < d → N / d < 18446744073709551616) ∧ 0 ≤ N % d ∧ N % d < d from
    ⟨fun h => Int.ediv_lt_of_lt_mul C0 (by omega), Int.emod_nonneg _ (by omega), Int.emod_lt_of_pos _ C0⟩)
  obtain ⟨Q, hQ⟩ : ∃ z, N / d = z := ⟨_, rfl⟩
  obtain ⟨R, hR⟩ : ∃ z, N % d = z := ⟨_, rfl⟩
  rw [hQ, hR] at HR HDV HQR
  rw [hQ] at hQ0
  have hp0 : 0 ≤ N / 18446744073709551616 := by omega
  have hq0 : 0 ≤ N % 18446744073709551616 ∧ N % 18446744073709551616 ≤ 18446744073709551615 := by omega
  obtain ⟨p, hp⟩ : ∃ z, N / 18446744073709551616 = z := ⟨_, rfl⟩
  obtain ⟨q, hq⟩ : ∃ z, N % 18446744073709551616 = z := ⟨_, rfl⟩
  rw [hp, hq] at HM
  rw [hp] at HR HDV HQR hp0
  rw [hq] at HDV hq0
  have OC := Lib.hid (own4_cells w a b c p q)
  have OB := Lib.hid (own4_below w a b c p q)
  clear hx hy hp hq hQ hR hN hd hbb hc N0
  have hmf : ∀ (fn : Fn) (first cap : Array Value) (w : World), (Instr.makeFunc fn first cap).run Try.prog w = .ok (.func fn first cap) w := fun _ _ _ _ => rfl
  go_enter Try.func30, Try.ntmps30
  go_upto_region 4 with fail
  go_cut [8] (fun s wx => s = .pointer (some ⟨w.heap.size + 3, 0, none⟩) ∧ ∃ n, wx = (own4 w a b c p q).drewN n)
  case first =>
    go_region_with (first
      | (go_at_call 72; (first | (with_reducible refine (HA.out _).mono ?_) | (with_reducible refine (HB.out _).mono ?_)); rintro e w' ⟨rfl, rfl⟩)
      | (go_at_call 71; refine (HM.out _).mono ?_; rintro e w' ⟨rfl, rfl⟩))
    all_goals (go_wp2_with fail; go_meet; exact ⟨rfl, _, rfl⟩)
  case rest =>
    obtain ⟨rfl, n, rfl⟩ := hcut
    obtain ⟨ca, cb, cc, cp, cq⟩ := OC.out
    have OCC := Lib.hid (fun m => HBB.out w.heap.size ((own4 w a b c p q).drewN m) ca cb cc)
    by_cases h1 : d ≤ p
    · have hr := HR.out
      rw [if_pos h1] at hr
      have HF := Lib.hid hr
      clear hr
      go_wp2_with (first | (go_at_call 72; refine (HC.out _).mono ?_; rintro e w' ⟨rfl, rfl⟩))
      go_ret2
      exact ⟨by rw [HF.out]; rfl, below_drewN OB.out _⟩
    · have hlt : p < d := by omega
      have hQ1 := HQR.out.1 hlt
      have hR0 := HQR.out.2.1
      have hR1 := HQR.out.2.2
      have HD := Lib.hid (HDV.out hlt)
      have hr := HR.out
      rw [if_neg h1] at hr
      clear HDV HR h1
      cases bb with
      | false =>
        rw [if_pos rfl] at hr
        by_cases h2 : 9223372036854775807 < Q
        · rw [if_pos h2] at hr
          have HF := Lib.hid hr
          clear hr
          go_wp2_with (first | (go_at_call 72; refine (HC.out _).mono ?_; rintro e w' ⟨rfl, rfl⟩) | (go_at_call 74; refine (HD.out _).mono ?_; rintro e w' ⟨rfl, k, rfl⟩) | (go_at_call 73; refine (OCC.out _).mono ?_; rintro e w' ⟨rfl, rfl⟩))
          go_ret2
          exact ⟨by rw [HF.out]; rfl, below_drewN OB.out _⟩
        · rw [if_neg h2] at hr
          have HF := Lib.hid hr
          clear hr
          go_wp2_with (first | (go_at_call 72; refine (HC.out _).mono ?_; rintro e w' ⟨rfl, rfl⟩) | (go_at_call 74; refine (HD.out _).mono ?_; rintro e w' ⟨rfl, k, rfl⟩) | (go_at_call 73; refine (OCC.out _).mono ?_; rintro e w' ⟨rfl, rfl⟩))
          go_ret2
          exact ⟨by rw [HF.out]; rfl, below_drewN OB.out _⟩
      | true =>
        rw [if_neg (by decide)] at hr
        by_cases hz : R = 0
        · rw [if_pos hz] at hr
          have hz1 : ((R : Int) != 0) = false := by simp [hz]
          clear hz
          by_cases hq1 : Q = 0
          · have hq2 : ((Q : Int) == 0) = true := by simp [hq1]
            rw [if_pos (Or.inl hq1)] at hr
            have HF := Lib.hid hr
            clear hr
            clear hq1
            go_wp2_with (first | (go_at_call 72; refine (HC.out _).mono ?_; rintro e w' ⟨rfl, rfl⟩) | (go_at_call 74; refine (HD.out _).mono ?_; rintro e w' ⟨rfl, k, rfl⟩) | (go_at_call 73; refine (OCC.out _).mono ?_; rintro e w' ⟨rfl, rfl⟩))
            go_ret2
            exact ⟨by rw [HF.out]; rfl, below_drewN OB.out _⟩
          · have hq2 : ((Q : Int) == 0) = false := by simpa using hq1
            by_cases hq3 : 9223372036854775808 < Q
            · rw [if_pos (Or.inr hq3)] at hr
              have HF := Lib.hid hr
              clear hr
              clear hq1
              go_wp2_with (first | (go_at_call 72; refine (HC.out _).mono ?_; rintro e w' ⟨rfl, rfl⟩) | (go_at_call 74; refine (HD.out _).mono ?_; rintro e w' ⟨rfl, k, rfl⟩) | (go_at_call 73; refine (OCC.out _).mono ?_; rintro e w' ⟨rfl, rfl⟩))
              go_ret2
              exact ⟨by rw [HF.out]; rfl, below_drewN OB.out _⟩
            · rw [if_neg (by omega)] at hr
              have HF := Lib.hid hr
              have hng := neg_conv Q (by omega) (by omega)
              clear hr hq1
              go_wp2_with (first | (go_at_call 72; refine (HC.out _).mono ?_; rintro e w' ⟨rfl, rfl⟩) | (go_at_call 74; refine (HD.out _).mono ?_; rintro e w' ⟨rfl, k, rfl⟩) | (go_at_call 73; refine (OCC.out _).mono ?_; rintro e w' ⟨rfl, rfl⟩))
              go_ret2
              exact ⟨by rw [HF.out]; first | rfl | (rw [hng]; rfl), below_drewN OB.out _⟩
        · rw [if_neg hz] at hr
          have hz1 : ((R : Int) != 0) = true := by simpa using hz
          clear hz
          by_cases hq3 : 9223372036854775808 < Q + 1
          · rw [if_pos hq3] at hr
            have HF := Lib.hid hr
            clear hr
            have hw : IntKind.u64.wrap (Q + 1) = 0 ∨ 9223372036854775808 < IntKind.u64.wrap (Q + 1) := by rw [wrap_u64]; omega
            obtain ⟨z, hz⟩ : ∃ z, IntKind.u64.wrap (Q + 1) = z := ⟨_, rfl⟩
            rw [hz] at hw
            have hz0 : 0 ≤ z := by rw [← hz, wrap_u64]; omega
            rcases hw with rfl | hw
            all_goals
              go_wp2_with (first | (go_at_call 72; refine (HC.out _).mono ?_; rintro e w' ⟨rfl, rfl⟩) | (go_at_call 74; refine (HD.out _).mono ?_; rintro e w' ⟨rfl, k, rfl⟩) | (go_at_call 73; refine (OCC.out _).mono ?_; rintro e w' ⟨rfl, rfl⟩))
              go_ret2
              exact ⟨by rw [HF.out]; rfl, below_drewN OB.out _⟩
          · rw [if_neg hq3] at hr
            have HF := Lib.hid hr
            have hng := neg_conv (Q + 1) (by omega) (by omega)
            have hq4 : (((Q + 1 : Int)) == 0) = false := by simp; omega
            clear hr
            go_wp2_with (first | (go_at_call 72; refine (HC.out _).mono ?_; rintro e w' ⟨rfl, rfl⟩) | (go_at_call 74; refine (HD.out _).mono ?_; rintro e w' ⟨rfl, k, rfl⟩) | (go_at_call 73; refine (OCC.out _).mono ?_; rintro e w' ⟨rfl, rfl⟩))
            go_ret2
            exact ⟨by rw [HF.out]; first | rfl | (rw [hng]; rfl), below_drewN OB.out _⟩
end Go.Proofs.Ytikhgdbbbingbaa
namespace Go.Proofs.Ytikhgdbbbingbaa
open Go Go.RowKit
set_option linter.unusedVariables false
def flr (n c : Int) : Int := if 0 < c then n / c else (-n) / (-c)
def fits (z : Int) : Prop := -9223372036854775808 ≤ z ∧ z ≤ 9223372036854775807
instance (z : Int) : Decidable (fits z) := by unfold fits; infer_instance
def fitted (z : Int) : Int × Int := if fits z then (z, 0) else (0, 8)
theorem fitted_in {z : Int} (h : fits z) : fitted z = (z, 0) := if_pos h
theorem fitted_out {z : Int} (h : ¬ fits z) : fitted z = (0, 8) := if_neg h
def mulDiv (a b c : Int) : Int × Int := if c = 0 then (0, 9) else fitted (flr (a * b) c)
theorem neg_quo (N d : Int) (hd : 0 < d) (h0 : 0 ≤ N) : (-N) / d = if N % d = 0 then -(N / d) else -(N / d + 1) := by
  have e := Int.mul_ediv_add_emod N d
  have r0 := Int.emod_nonneg N (show d ≠ 0 by omega)
  have r1 := Int.emod_lt_of_pos N hd
  generalize N / d = Q at *
  generalize N % d = R at *
  by_cases hR : R = 0
  · rw [if_pos hR]
    exact ((Int.ediv_emod_unique hd).2 ⟨show 0 + d * -Q = -N by rw [Int.mul_neg]; omega, by omega, by omega⟩).1
  · rw [if_neg hR]
    exact ((Int.ediv_emod_unique hd).2 ⟨show d - R + d * -(Q + 1) = -N by rw [Int.mul_neg, Int.mul_add, Int.mul_one]; omega, by omega, by omega⟩).1
theorem absI_mul (a b : Int) : absI a * absI b = absI (a * b) := by
  unfold absI
  by_cases ha : a < 0
  · by_cases hb : b < 0
    · have := Int.mul_pos_of_neg_of_neg ha hb
      rw [if_pos ha, if_pos hb, if_neg (by omega), Int.neg_mul_neg]
    · rw [if_pos ha, if_neg hb, Int.neg_mul]
      by_cases hz : b = 0
      · subst hz; simp
      · have := Int.mul_neg_of_neg_of_pos ha (show 0 < b by omega)
        rw [if_pos this]
  · by_cases hb : b < 0
    · rw [if_neg ha, if_pos hb, Int.mul_neg]
      by_cases hz : a = 0
      · subst hz; simp
      · have := Int.mul_neg_of_pos_of_neg (show 0 < a by omega) hb
        rw [if_pos this]
    · have := Int.mul_nonneg (show 0 ≤ a by omega) (show 0 ≤ b by omega)
      rw [if_neg ha, if_neg hb, if_neg (by omega)]
def signed (P c : Int) : Int := if 0 < c then P else -P
theorem below_signed (a b c : Int) (hc : c ≠ 0) : belowB a b c = decide (signed (a * b) c < 0) := by
  unfold belowB signed
  by_cases ha0 : a = 0
  · subst ha0; simp
  · by_cases hb0 : b = 0
    · subst hb0; simp
    · have e1 : (a != 0) = true := by simpa using ha0
      have e2 : (b != 0) = true := by simpa using hb0
      rw [e1, e2, Bool.and_true, Bool.and_true]
      rcases Int.lt_or_gt_of_ne ha0 with ha | ha <;> rcases Int.lt_or_gt_of_ne hb0 with hb | hb
      · have p := Int.mul_pos_of_neg_of_neg ha hb
        by_cases h : 0 < c
        · rw [if_pos h, decide_eq_true ha, decide_eq_true hb, decide_eq_false (show ¬ c < 0 by omega), decide_eq_false (show ¬ a * b < 0 by omega)]; rfl
        · rw [if_neg h, decide_eq_true ha, decide_eq_true hb, decide_eq_true (show c < 0 by omega), decide_eq_true (show -(a * b) < 0 by omega)]; rfl
      · have p := Int.mul_neg_of_neg_of_pos ha hb
        by_cases h : 0 < c
        · rw [if_pos h, decide_eq_true ha, decide_eq_false (show ¬ b < 0 by omega), decide_eq_false (show ¬ c < 0 by omega), decide_eq_true (show a * b < 0 by omega)]; rfl
        · rw [if_neg h, decide_eq_true ha, decide_eq_false (show ¬ b < 0 by omega), decide_eq_true (show c < 0 by omega), decide_eq_false (show ¬ -(a * b) < 0 by omega)]; rfl
      · have p := Int.mul_neg_of_pos_of_neg ha hb
        by_cases h : 0 < c
        · rw [if_pos h, decide_eq_false (show ¬ a < 0 by omega), decide_eq_true hb, decide_eq_false (show ¬ c < 0 by omega), decide_eq_true (show a * b < 0 by omega)]; rfl
        · rw [if_neg h, decide_eq_false (show ¬ a < 0 by omega), decide_eq_true hb, decide_eq_true (show c < 0 by omega), decide_eq_false (show ¬ -(a * b) < 0 by omega)]; rfl
      · have p := Int.mul_pos ha hb
        by_cases h : 0 < c
        · rw [if_pos h, decide_eq_false (show ¬ a < 0 by omega), decide_eq_false (show ¬ b < 0 by omega), decide_eq_false (show ¬ c < 0 by omega), decide_eq_false (show ¬ a * b < 0 by omega)]; rfl
        · rw [if_neg h, decide_eq_false (show ¬ a < 0 by omega), decide_eq_false (show ¬ b < 0 by omega), decide_eq_true (show c < 0 by omega), decide_eq_true (show -(a * b) < 0 by omega)]; rfl
theorem mdv_core (M d : Int) (hd : 0 < d) (N : Int) (hN : N = absI M) :
    (if d ≤ N / 18446744073709551616 then ((0 : Int), (8 : Int))
      else if decide (M < 0) = false then if 9223372036854775807 < N / d then (0, 8) else (N / d, 0)
      else if N % d = 0 then if N / d = 0 ∨ 9223372036854775808 < N / d then (0, 8) else (-(N / d), 0)
      else if 9223372036854775808 < N / d + 1 then (0, 8) else (-(N / d + 1), 0)) = fitted (M / d) := by
  have hN0 : 0 ≤ N := by rw [hN]; exact absI_pos M
  have hQ0 : 0 ≤ N / d := Int.ediv_nonneg hN0 (by omega)
  have hbig : d ≤ N / 18446744073709551616 → 18446744073709551616 ≤ N / d := fun h => by
    apply (Int.le_ediv_iff_mul_le hd).2; omega
  by_cases hM : M < 0
  · have hM' : M = -N := by rw [hN]; unfold absI; rw [if_pos hM]; omega
    rw [hM', neg_quo N d hd hN0, ← hM', decide_eq_true hM, if_neg (show ¬ (true = false) by decide)]
    have hpos : N % d = 0 → N / d ≠ 0 := fun h1 h2 => by
      have e := Int.mul_ediv_add_emod N d
      rw [h1, h2, Int.mul_zero] at e; omega
    generalize N / d = Q at *
    generalize N % d = R at *
    by_cases h1 : d ≤ N / 18446744073709551616
    · have := hbig h1
      rw [if_pos h1]
      split <;> rw [fitted_out (by unfold fits; omega)]
    · rw [if_neg h1]
      by_cases h2 : R = 0
      · have := hpos h2
        rw [if_pos h2, if_pos h2]
        by_cases h3 : 9223372036854775808 < Q
        · rw [if_pos (Or.inr h3), fitted_out (by unfold fits; omega)]
        · rw [if_neg (by omega), fitted_in (by unfold fits; omega)]
      · rw [if_neg h2, if_neg h2]
        by_cases h3 : 9223372036854775808 < Q + 1
        · rw [if_pos h3, fitted_out (by unfold fits; omega)]
        · rw [if_neg h3, fitted_in (by unfold fits; omega)]
  · have hM' : M = N := by rw [hN]; unfold absI; rw [if_neg hM]
    rw [hM'] at hM ⊢
    rw [decide_eq_false hM, if_pos rfl]
    generalize N / d = Q at *
    by_cases h1 : d ≤ N / 18446744073709551616
    · have := hbig h1
      rw [if_pos h1, fitted_out (by unfold fits; omega)]
    · rw [if_neg h1]
      by_cases h3 : 9223372036854775807 < Q
      · rw [if_pos h3, fitted_out (by unfold fits; omega)]
      · rw [if_neg h3, fitted_in (by unfold fits; omega)]
theorem mdv_mulDiv (a b c : Int) (hc : c ≠ 0) : mdv a b c = mulDiv a b c := by
  unfold mulDiv
  rw [if_neg hc]
  have hd : 0 < absI c := by unfold absI; split <;> omega
  have e : flr (a * b) c = signed (a * b) c / absI c := by
    unfold flr signed absI
    by_cases h : 0 < c
    · rw [if_pos h, if_pos h, if_neg (by omega)]
    · rw [if_neg h, if_neg h, if_pos (by omega)]
  have eN : absI a * absI b = absI (signed (a * b) c) := by
    rw [absI_mul]; unfold signed; split
    · rfl
    · unfold absI; split <;> split <;> omega
  rw [e, mdv_eq, below_signed a b c hc]
  exact mdv_core _ _ hd _ eN
theorem mulDiv_any (a b c : Int) (w : World) (ha : fits a) (hb : fits b) (hc : fits c) :
    Calls Try.prog 30 #[.int .i64 a, .int .i64 b, .int .i64 c] w fun e w' => e = .returned (.tuple #[.int .i64 (mulDiv a b c).1, .int .i64 (mulDiv a b c).2]) ∧ Below w.heap.size w w' := by
  by_cases h : c = 0
  · subst h
    exact muldiv_zero a b w
  · rw [← mdv_mulDiv a b c h]
    exact muldiv_walk a b c w h ha.1 ha.2 hb.1 hb.2 hc.1 hc.2
end Go.Proofs.Ytikhgdbbbingbaa
namespace Go.Proofs.Ytikhgdbbbingbaa.MPu
open Go.RowKit Go.Proofs.YtikhgdbbbingbaaW.PrintWords Go.Proofs.YtikhgdbbbingbaaW.PrintLast Go.Proofs.YtikhgdbbbingbaaW.PrintMore
attribute [local go_sem] max2_int min2_int max_two min_two max_three min_three max_four min_four
set_option linter.unusedVariables false
set_option linter.unusedSimpArgs false
def errW : Option Int → Value
  | none => .nilIface
  | some c => .iface 0 (.int .i64 c)
theorem errW_none : errW none = .nilIface := rfl
theorem errW_some (c : Int) : errW (some c) = .iface 0 (.int .i64 c) := rfl
theorem info48 : (Try.prog.info? 48).map (fun i => (i.zero, i.size, i.bytes)) = some (some (.agg #[(.int .i64 0), (.int .i64 0)]), 2, 16) := by kernel_rfl
structure S48 where
  f0 : Int
  f1 : Int
def z48 : S48 := ⟨(0 : Int), (0 : Int)⟩
def k48 : Kd S48 := Kd.iso (Kd.pair (Kd.int .i64) (Kd.int .i64)) (fun x : S48 => (x.f0, x.f1))
theorem k48_open {w : World} {x : S48} {cs : List Value} (h : k48.K w x cs) : cs = [.int .i64 x.f0, .int .i64 x.f1] := by
  obtain ⟨_, _, rfl, rfl, rfl⟩ := h
  exact rfl
theorem k48_mk (w : World) (x : S48)  : k48.K w x [.int .i64 x.f0, .int .i64 x.f1] := ⟨[.int .i64 x.f0], [.int .i64 x.f1], rfl, rfl, rfl⟩
theorem k48_mkM (w : World) (base : Nat) (ok : Nat → Prop) (x : S48)  : k48.M w base ok x [.int .i64 x.f0, .int .i64 x.f1] := ⟨[.int .i64 x.f0], [.int .i64 x.f1], rfl, rfl, rfl⟩
def rd_T48 (xs : List S48) (i : Int) : S48 := xs.getD i.toNat z48
theorem at_T48 {w : World} {A : Option Addr} {n : Nat} {xs : List S48} (h : Kd.C k48 w A n xs) (i : Int) (h0 : 0 ≤ i) (h1 : i < n) : ∃ ad , A = some ad ∧ w.cell? (ad.add (i.toNat * 2)) = some (.int .i64 (rd_T48 xs i).f0) ∧ w.cell? ⟨(ad.add (i.toNat * 2)).block, (ad.add (i.toNat * 2)).off + 1, none⟩ = some (.int .i64 (rd_T48 xs i).f1) := by
  obtain ⟨ad, c, e, _, hK, hc0⟩ := Kd.C_get h z48 i h0 h1
  have hc : ∀ j u, c[j]? = some u → w.cell? (ad.add (i.toNat * 2 + j)) = some u := hc0
  obtain rfl := k48_open hK
  exact ⟨ad, e, hc 0 _ rfl, by rw [← add_field _ _ 1 (by omega)]; exact hc 1 _ rfl⟩
end Go.Proofs.Ytikhgdbbbingbaa.MPu
namespace Go.Proofs.Ytikhgdbbbingbaa.MPu
open Go.RowKit Go.Proofs.YtikhgdbbbingbaaW.PrintWords Go.Proofs.YtikhgdbbbingbaaW.PrintLast Go.Proofs.YtikhgdbbbingbaaW.PrintMore
attribute [local go_sem] max2_int min2_int max_two min_two max_three min_three max_four min_four
set_option linter.unusedVariables false
set_option linter.unusedSimpArgs false
noncomputable def num_MulDiv.f (a b c : Int) : Option (Int × Int) := if fits a then (if fits b then (if fits c then some (mulDiv a b c) else none) else none) else none
theorem num_MulDiv.calls (a0 a1 a2 : Int) (r1 r2 : Int) (w : World) (h : num_MulDiv.f a0 a1 a2 = some (r1, r2)) :
    Calls Try.prog 30 #[.int .i64 a0, .int .i64 a1, .int .i64 a2] w fun e w' => e = .returned (.tuple #[.int .i64 r1, .int .i64 r2]) ∧ Below w.heap.size w w' := by
  unfold num_MulDiv.f at h
  split at h
  · split at h
    · split at h
      · rename_i h1 h2 h3
        have e := Option.some.inj h
        have c := mulDiv_any a0 a1 a2 w h1 h2 h3
        rw [e] at c
        exact c
      · cases h
    · cases h
  · cases h
noncomputable def purse_within.f (a0 : Int) (a1 : Int) : Option (Bool) := if a0 ≥ 0 then (some (decide (a0 ≤ a1))) else (some false)
set_option maxHeartbeats 8000000 in
set_option maxRecDepth 100000 in
theorem purse_within.calls (a0 : Int) (a1 : Int) (r : Bool) (w : World) (h : purse_within.f a0 a1 = some r) :
    Calls Try.prog 80 #[.int .i64 a0, .int .i64 a1] w fun e w' => e = .returned (.bool r) ∧ Drawn0 w w' := by
  have H : (if a0 ≥ 0 then (some (decide (a0 ≤ a1))) else (some false)) = some r := h
  clear h
  by_cases c3 : a0 ≥ 0
  · rw [if_pos c3] at H
    have c3b0 : decide (0 ≤ a0) = true := decide_eq_true c3
    clear c3
    obtain rfl := Option.some.inj H
    go_enter Try.func80, Try.ntmps80
    go_wp2
    go_ret
    exact ⟨by first | rfl | (simp; done) | (simp [*]; done), by repeat (first | exact Drawn0.refl _ | apply Drawn0.step)⟩
  · rw [if_neg c3] at H
    have c3b0 : decide (0 ≤ a0) = false := decide_eq_false c3
    clear c3
    obtain rfl := Option.some.inj H
    go_enter Try.func80, Try.ntmps80
    go_wp2
    go_ret
    exact ⟨by first | rfl | (simp; done) | (simp [*]; done), by repeat (first | exact Drawn0.refl _ | apply Drawn0.step)⟩
noncomputable def purse_Scale.j0 : Nat → Int → Int → Bool → Option (Int × Int)
  | 0, _, _, _ => none
  | k + 1, x0, x1, x13 => if x13 = true then (some (0, 1)) else (if x0 ≥ x1 then (some (65536, 0)) else ((num_MulDiv.f x0 65536 x1).bind fun bt103 => (some (bt103.1, bt103.2))))
noncomputable def purse_Scale.f (k : Nat) (a0 : Int) (a1 : Int) : Option (Int × Int) := (purse_within.f a0 1099511627776).bind fun t101 => (if t101 = true then ((purse_within.f a1 1099511627776).bind fun t102 => (purse_Scale.j0 k a0 a1 (!t102))) else (purse_Scale.j0 k a0 a1 true))
theorem purse_Scale.mono_l : ∀ k, (∀ y0 y1 y2, LeO (purse_Scale.j0 k y0 y1 y2) (purse_Scale.j0 (k + 1) y0 y1 y2))
  | 0 => fun _ _ _ r h => by simp [purse_Scale.j0] at h
  | k + 1 => by
    have ih0 := purse_Scale.mono_l k
    · intro y0 y1 y2
      unfold purse_Scale.j0
      repeat' first
      | (with_reducible exact ih0 _ _ _)
      | (with_reducible exact LeO.refl _)
      | (with_reducible exact LeO.none _)
      | (with_reducible refine LeO.ite ?_ ?_)
      | (with_reducible refine LeO.bind ?_ (fun _ => ?_))
      | exact ih0 _ _ _
      | exact LeO.none _
      | refine LeO.ite ?_ ?_
      | refine LeO.bind ?_ (fun _ => ?_)
theorem purse_Scale.mono : ∀ a0 a1 k, LeO (purse_Scale.f k a0 a1) (purse_Scale.f (k + 1) a0 a1) := by
  intro a0 a1 k
  have ih0 := purse_Scale.mono_l k
  unfold purse_Scale.f
  repeat' first
      | (with_reducible exact ih0 _ _ _)
      | (with_reducible exact LeO.refl _)
      | (with_reducible exact LeO.none _)
      | (with_reducible refine LeO.ite ?_ ?_)
      | (with_reducible refine LeO.bind ?_ (fun _ => ?_))
      | exact ih0 _ _ _
      | exact LeO.none _
      | refine LeO.ite ?_ ?_
      | refine LeO.bind ?_ (fun _ => ?_)
set_option maxHeartbeats 8000000 in
set_option maxRecDepth 100000 in
theorem purse_Scale.calls (k : Nat) (a0 : Int) (a1 : Int) (r1 : Int) (r2 : Int) (w : World) (h : purse_Scale.f k a0 a1 = some (r1, r2)) :
    Calls Try.prog 52 #[.int .i64 a0, .int .i64 a1] w fun e w' => e = .returned (.tuple #[.int .i64 r1, .int .i64 r2]) ∧ Below w.heap.size w w' := by
  have HB := Aside0.mk (Below.refl w.heap.size w)
  have H : ((purse_within.f a0 1099511627776).bind fun t101 => (if t101 = true then ((purse_within.f a1 1099511627776).bind fun t102 => (purse_Scale.j0 k a0 a1 (!t102))) else (purse_Scale.j0 k a0 a1 true))) = some (r1, r2) := h
  clear h
  have HC3 := Aside0.mk H
  clear H
  go_enter Try.func52, Try.ntmps52
  go_upto_region 1 with (fail)
  go_cut [13] (fun v13 wc => ∃ (kq : Nat) (x13_2 : Bool), v13 = .bool x13_2 ∧ Aside0 (purse_Scale.j0 kq a0 a1 x13_2 = some (r1, r2)) ∧ Aside0 (kq ≤ k) ∧ Aside0 (Below w.heap.size w wc))
  case first =>
    have H := HC3.out
    clear HC3
    replace H := Option.bind_eq_some_iff.mp H
    obtain ⟨t101, A40, H⟩ := H
    replace H : (if t101 = true then ((purse_within.f a1 1099511627776).bind fun t102 => (purse_Scale.j0 k a0 a1 (!t102))) else (purse_Scale.j0 k a0 a1 true)) = some (r1, r2) := H
    have A4 := Aside0.mk A40
    clear A40
    by_cases c5 : t101 = true
    · subst c5
      have H1 : ((purse_within.f a1 1099511627776).bind fun t102 => (purse_Scale.j0 k a0 a1 (!t102))) = some (r1, r2) := by rw [if_pos rfl] at H; exact H
      clear H
      have H := H1
      clear H1
      replace H := Option.bind_eq_some_iff.mp H
      obtain ⟨t102, A60, H⟩ := H
      replace H : (purse_Scale.j0 k a0 a1 (!t102)) = some (r1, r2) := H
      have A6 := Aside0.mk A60
      clear A60
      have H' := Aside0.mk H
      clear H
      go_wp2_with (first | ((with_reducible refine gate_callee (f := 80) rfl ?_); refine goesL_ (some 7) rfl rfl Try.func80 (by kernel_rfl) rfl #[.int .i64 a0, .int .i64 1099511627776] rfl (by (try simp only [List.map_toArray, List.map_cons, List.map_nil]); first | done | rfl | (simp only [List.length_drop, List.length_take]; rfl)) ?_; (with_reducible refine (purse_within.calls a0 1099511627776 true _ A4.out).mono ?_); rintro e w' ⟨rfl, ⟨nd, rfl⟩⟩; refine ⟨_, rfl, ?_⟩) | (go_at_call 80; (with_reducible refine (purse_within.calls a1 1099511627776 t102 _ A6.out).mono ?_); rintro e w' ⟨rfl, ⟨nd, rfl⟩⟩))
      go_meet
      case rel => exact ⟨_, (!t102), (by first | rfl | (simp; done) | (simp [*]; done)), H', ⟨by first | omega | exact Nat.le_refl _⟩, ⟨by repeat (first | (with_reducible first | exact HB.out | apply below_alloc | apply pw_below_drewN | apply below_drew1) | exact HB.out)⟩⟩
    · replace c5 := Bool.eq_false_iff.mpr c5
      subst c5
      have H1 : (purse_Scale.j0 k a0 a1 true) = some (r1, r2) := by rw [if_neg (show ¬ (false = true) by decide)] at H; exact H
      clear H
      have H := H1
      clear H1
      have H' := Aside0.mk H
      clear H
      go_wp2_with (first | ((with_reducible refine gate_callee (f := 80) rfl ?_); refine goesL_ (some 7) rfl rfl Try.func80 (by kernel_rfl) rfl #[.int .i64 a0, .int .i64 1099511627776] rfl (by (try simp only [List.map_toArray, List.map_cons, List.map_nil]); first | done | rfl | (simp only [List.length_drop, List.length_take]; rfl)) ?_; (with_reducible refine (purse_within.calls a0 1099511627776 false _ A4.out).mono ?_); rintro e w' ⟨rfl, ⟨nd, rfl⟩⟩; refine ⟨_, rfl, ?_⟩))
      go_meet
      case rel => exact ⟨_, (true), (by first | rfl | (simp; done) | (simp [*]; done)), H', ⟨by first | omega | exact Nat.le_refl _⟩, ⟨by repeat (first | (with_reducible first | exact HB.out | apply below_alloc | apply pw_below_drewN | apply below_drew1) | exact HB.out)⟩⟩
  case rest =>
    clear HC3
    try clear p2
    try clear c5
    obtain ⟨kq, x13_2, rfl, HA, HJ2, HB⟩ := hcut
    cases kq with
    | zero => exact absurd HA.out (by simp [purse_Scale.j0])
    | succ kj2 =>
      have H := HA.out
      clear HA
      simp only [purse_Scale.j0] at H
      by_cases c7 : x13_2 = true
      · subst c7
        have H1 : (some (0, 1)) = some (r1, r2) := by rw [if_pos rfl] at H; exact H
        clear H
        have H := H1
        clear H1
        simp only [Option.some.injEq, Prod.mk.injEq] at H
        obtain ⟨rfl, rfl⟩ := H
        go_wp2
        go_ret2
        exact ⟨by first | rfl | (simp [errW_none, errW_some] <;> rfl) | (simp [*, errW_none, errW_some] <;> rfl), by repeat (first | (with_reducible first | exact HB.out | apply below_alloc | apply pw_below_drewN | apply below_drew1) | exact HB.out)⟩
      · replace c7 := Bool.eq_false_iff.mpr c7
        subst c7
        have H1 : (if a0 ≥ a1 then (some (65536, 0)) else ((num_MulDiv.f a0 65536 a1).bind fun bt103 => (some (bt103.1, bt103.2)))) = some (r1, r2) := by rw [if_neg (show ¬ (false = true) by decide)] at H; exact H
        clear H
        have H := H1
        clear H1
        by_cases c8 : a0 ≥ a1
        · rw [if_pos c8] at H
          have c8b0 : decide (a1 ≤ a0) = true := decide_eq_true c8
          clear c8
          simp only [Option.some.injEq, Prod.mk.injEq] at H
          obtain ⟨rfl, rfl⟩ := H
          go_wp2
          go_ret2
          exact ⟨by first | rfl | (simp [errW_none, errW_some] <;> rfl) | (simp [*, errW_none, errW_some] <;> rfl), by repeat (first | (with_reducible first | exact HB.out | apply below_alloc | apply pw_below_drewN | apply below_drew1) | exact HB.out)⟩
        · rw [if_neg c8] at H
          have c8b0 : decide (a1 ≤ a0) = false := decide_eq_false c8
          clear c8
          replace H := Option.bind_eq_some_iff.mp H
          obtain ⟨⟨t103, t104⟩, A90, H⟩ := H
          replace H : (some (t103, t104)) = some (r1, r2) := H
          have A9 := Aside0.mk A90
          clear A90
          simp only [Option.some.injEq, Prod.mk.injEq] at H
          obtain ⟨rfl, rfl⟩ := H
          go_wp2_with (first | ((with_reducible refine gate_callee (f := 30) rfl ?_); refine goesL_ (some 19) rfl rfl Try.func30 (by kernel_rfl) rfl #[.int .i64 a0, .int .i64 65536, .int .i64 a1] rfl (by (try simp only [List.map_toArray, List.map_cons, List.map_nil]); first | done | rfl | (simp only [List.length_drop, List.length_take]; rfl)) ?_; (with_reducible refine (num_MulDiv.calls a0 65536 a1 t103 t104 _ A9.out).mono ?_); rintro e w10 ⟨rfl, hb⟩; refine ⟨_, rfl, ?_⟩; have n0_ := Aside0.mk (below_step (by repeat (first | (with_reducible first | exact HB.out | apply below_alloc | apply pw_below_drewN | apply below_drew1) | exact HB.out)) hb); clear HB; have HB := n0_; clear n0_; (try clear hb); (try clear hb2); (try clear hk); (try clear hi)))
          go_ret2
          exact ⟨by first | rfl | (simp [errW_none, errW_some] <;> rfl) | (simp [*, errW_none, errW_some] <;> rfl), by repeat (first | (with_reducible first | exact HB.out | apply below_alloc | apply pw_below_drewN | apply below_drew1) | exact HB.out)⟩
noncomputable def bivouacref19_Scale.f (a0 : Int) (a1 : Int) : Option (Int) := if a0 ≥ a1 then (some 65536) else (if a1 = 0 then (none) else (some (wrap64 (Int.tdiv (wrap64 (a0 * 65536)) a1))))
set_option maxHeartbeats 8000000 in
set_option maxRecDepth 100000 in
theorem bivouacref19_Scale.calls (a0 : Int) (a1 : Int) (r : Int) (w : World) (h : bivouacref19_Scale.f a0 a1 = some r) :
    Calls Try.prog 53 #[.int .i64 a0, .int .i64 a1] w fun e w' => e = .returned (.int .i64 r) ∧ Drawn0 w w' := by
  have H : (if a0 ≥ a1 then (some 65536) else (if a1 = 0 then (none) else (some (wrap64 (Int.tdiv (wrap64 (a0 * 65536)) a1))))) = some r := h
  clear h
  by_cases c3 : a0 ≥ a1
  · rw [if_pos c3] at H
    have c3b0 : decide (a1 ≤ a0) = true := decide_eq_true c3
    clear c3
    obtain rfl := Option.some.inj H
    go_enter Try.func53, Try.ntmps53
    go_wp2
    go_ret
    exact ⟨by first | rfl | (simp; done) | (simp [*]; done), by repeat (first | exact Drawn0.refl _ | apply Drawn0.step)⟩
  · rw [if_neg c3] at H
    have c3b0 : decide (a1 ≤ a0) = false := decide_eq_false c3
    clear c3
    by_cases c4 : a1 = 0
    · rw [if_pos c4] at H
      exact absurd H (by simp)
    · rw [if_neg c4] at H
      have c4b0 : (a1 == 0) = false := beq_eq_false_iff_ne.mpr c4
      have c4b1 : (a1 != 0) = true := bne_iff_ne.mpr c4
      obtain rfl := Option.some.inj H
      go_enter Try.func53, Try.ntmps53
      go_wp2
      go_ret
      exact ⟨by first | rfl | (simp; done) | (simp [*]; done), by repeat (first | exact Drawn0.refl _ | apply Drawn0.step)⟩
noncomputable def purse_wish.f (a0_0 : Int) (a0_1 : Int) : Option (Bool) := (purse_within.f a0_0 1048576).bind fun t106 => (if t106 = true then ((purse_within.f a0_1 1048576).bind fun t107 => (some t107)) else (some false))
set_option maxHeartbeats 8000000 in
set_option maxRecDepth 100000 in
theorem purse_wish.calls (a0_0 : Int) (a0_1 : Int) (r : Bool) (w : World) (h : purse_wish.f a0_0 a0_1 = some r) :
    Calls Try.prog 81 #[.agg #[.int .i64 a0_0, .int .i64 a0_1]] w fun e w' => e = .returned (.bool r) ∧ Below w.heap.size w w' := by
  have hu48 := Try.underlying48
  have HB := Aside0.mk (Below.refl w.heap.size w)
  have H : ((purse_within.f a0_0 1048576).bind fun t106 => (if t106 = true then ((purse_within.f a0_1 1048576).bind fun t107 => (some t107)) else (some false))) = some r := h
  clear h
  replace H := Option.bind_eq_some_iff.mp H
  obtain ⟨t106, A20, H⟩ := H
  replace H : (if t106 = true then ((purse_within.f a0_1 1048576).bind fun t107 => (some t107)) else (some false)) = some r := H
  have A2 := Aside0.mk A20
  clear A20
  by_cases c3 : t106 = true
  · subst c3
    have H1 : ((purse_within.f a0_1 1048576).bind fun t107 => (some t107)) = some r := by rw [if_pos rfl] at H; exact H
    clear H
    have H := H1
    clear H1
    replace H := Option.bind_eq_some_iff.mp H
    obtain ⟨t107, A40, H⟩ := H
    replace H : (some t107) = some r := H
    have A4 := Aside0.mk A40
    clear A40
    obtain rfl := Option.some.inj H
    go_enter Try.func81, Try.ntmps81
    go_wp2_with (first | ((with_reducible refine gate_dst (N := 1) rfl ?_); refine box_event ?hg (N := 1) ?hd (cs := #[.int .i64 a0_0, .int .i64 a0_1]) (t := 48) ?hr ?_; (case hd => rfl); (case hg => rfl); (case hr => first | (go_simp; done) | (go_simp; rfl)); intro gb105 hg w5 hbox hb; have n0_ := Aside0.mk (below_step (by repeat (first | (with_reducible first | exact HB.out | apply below_alloc | apply pw_below_drewN | apply below_drew1) | exact HB.out)) hb); have n1_ := Aside0.mk (hbox); have n2_ := Aside0.mk ((by rw [hg]; exact (below_size (by repeat (first | (with_reducible first | exact HB.out | apply below_alloc | apply pw_below_drewN | apply below_drew1) | exact HB.out))) : w.heap.size ≤ gb105)); have n3_ := Aside0.mk ((by rw [hg]; exact (below_size (by repeat (first | (with_reducible first | exact HB.out | apply below_alloc | apply pw_below_drewN | apply below_drew1) | exact HB.out))) : w.heap.size ≤ gb105)); clear HB; have HB := n0_; have BK105 := n1_; have GW105 := n2_; have GE105 := n3_; clear n0_ n1_ n2_ n3_; clear hb hbox hg; have hcz6_0 : w5.cell? ⟨gb105, 0, none⟩ = some (.int .i64 a0_0) := (blk_cell BK105.out 0).trans rfl; have hcz6_1 : w5.cell? ⟨gb105, 1, none⟩ = some (.int .i64 a0_1) := (blk_cell BK105.out 1).trans rfl; have hfz6_0 := blk_frozen BK105.out 0; have hfz6_1 := blk_frozen BK105.out 1) | ((with_reducible refine gate_callee (f := 80) rfl ?_); refine goesL_ (some 5) rfl rfl Try.func80 (by kernel_rfl) rfl #[.int .i64 a0_0, .int .i64 1048576] rfl (by (try simp only [List.map_toArray, List.map_cons, List.map_nil]); first | done | rfl | (simp only [List.length_drop, List.length_take]; rfl)) ?_; (with_reducible refine (purse_within.calls a0_0 1048576 true _ A2.out).mono ?_); rintro e w' ⟨rfl, ⟨nd, rfl⟩⟩; refine ⟨_, rfl, ?_⟩) | (go_at_call 80; (with_reducible refine (purse_within.calls a0_1 1048576 t107 _ A4.out).mono ?_); rintro e w' ⟨rfl, ⟨nd, rfl⟩⟩))
    go_ret
    exact ⟨by first | rfl | (simp [errW_none, errW_some] <;> rfl) | (simp [*, errW_none, errW_some] <;> rfl), by repeat (first | (with_reducible first | exact HB.out | apply below_alloc | apply pw_below_drewN | apply below_drew1 | refine below_set ?_ GE105.out) | exact HB.out)⟩
  · replace c3 := Bool.eq_false_iff.mpr c3
    subst c3
    have H1 : (some false) = some r := by rw [if_neg (show ¬ (false = true) by decide)] at H; exact H
    clear H
    have H := H1
    clear H1
    obtain rfl := Option.some.inj H
    go_enter Try.func81, Try.ntmps81
    go_wp2_with (first | ((with_reducible refine gate_dst (N := 1) rfl ?_); refine box_event ?hg (N := 1) ?hd (cs := #[.int .i64 a0_0, .int .i64 a0_1]) (t := 48) ?hr ?_; (case hd => rfl); (case hg => rfl); (case hr => first | (go_simp; done) | (go_simp; rfl)); intro gb105 hg w7 hbox hb; have n0_ := Aside0.mk (below_step (by repeat (first | (with_reducible first | exact HB.out | apply below_alloc | apply pw_below_drewN | apply below_drew1) | exact HB.out)) hb); have n1_ := Aside0.mk (hbox); have n2_ := Aside0.mk ((by rw [hg]; exact (below_size (by repeat (first | (with_reducible first | exact HB.out | apply below_alloc | apply pw_below_drewN | apply below_drew1) | exact HB.out))) : w.heap.size ≤ gb105)); have n3_ := Aside0.mk ((by rw [hg]; exact (below_size (by repeat (first | (with_reducible first | exact HB.out | apply below_alloc | apply pw_below_drewN | apply below_drew1) | exact HB.out))) : w.heap.size ≤ gb105)); clear HB; have HB := n0_; have BK105 := n1_; have GW105 := n2_; have GE105 := n3_; clear n0_ n1_ n2_ n3_; clear hb hbox hg; have hcz8_0 : w7.cell? ⟨gb105, 0, none⟩ = some (.int .i64 a0_0) := (blk_cell BK105.out 0).trans rfl; have hcz8_1 : w7.cell? ⟨gb105, 1, none⟩ = some (.int .i64 a0_1) := (blk_cell BK105.out 1).trans rfl; have hfz8_0 := blk_frozen BK105.out 0; have hfz8_1 := blk_frozen BK105.out 1) | ((with_reducible refine gate_callee (f := 80) rfl ?_); refine goesL_ (some 5) rfl rfl Try.func80 (by kernel_rfl) rfl #[.int .i64 a0_0, .int .i64 1048576] rfl (by (try simp only [List.map_toArray, List.map_cons, List.map_nil]); first | done | rfl | (simp only [List.length_drop, List.length_take]; rfl)) ?_; (with_reducible refine (purse_within.calls a0_0 1048576 false _ A2.out).mono ?_); rintro e w' ⟨rfl, ⟨nd, rfl⟩⟩; refine ⟨_, rfl, ?_⟩))
    go_ret
    exact ⟨by first | rfl | (simp [errW_none, errW_some] <;> rfl) | (simp [*, errW_none, errW_some] <;> rfl), by repeat (first | (with_reducible first | exact HB.out | apply below_alloc | apply pw_below_drewN | apply below_drew1 | refine below_set ?_ GE105.out) | exact HB.out)⟩
noncomputable def purse_Part.j0 : Nat → Int → Bool → Int → Int → Option (Int × Int × Int)
  | 0, _, _, _, _ => none
  | k + 1, x1, x16, x109000, x109001 => if x16 = true then (some (0, 0, 1)) else (some ((wrap64 (x109000 * x1)) / 65536, (wrap64 (x109001 * x1)) / 65536, 0))
noncomputable def purse_Part.f (k : Nat) (a0_0 : Int) (a0_1 : Int) (a1 : Int) : Option (Int × Int × Int) := (purse_wish.f a0_0 a0_1).bind fun t110 => (if t110 = true then (if a1 < 0 then (purse_Part.j0 k a1 true a0_0 a0_1) else (purse_Part.j0 k a1 (decide (a1 > 65536)) a0_0 a0_1)) else (purse_Part.j0 k a1 true a0_0 a0_1))
theorem purse_Part.mono_l : ∀ k, (∀ y0 y1 y2 y3, LeO (purse_Part.j0 k y0 y1 y2 y3) (purse_Part.j0 (k + 1) y0 y1 y2 y3))
  | 0 => fun _ _ _ _ r h => by simp [purse_Part.j0] at h
  | k + 1 => by
    have ih0 := purse_Part.mono_l k
    · intro y0 y1 y2 y3
      unfold purse_Part.j0
      repeat' first
      | (with_reducible exact ih0 _ _ _ _)
      | (with_reducible exact LeO.refl _)
      | (with_reducible exact LeO.none _)
      | (with_reducible refine LeO.ite ?_ ?_)
      | (with_reducible refine LeO.bind ?_ (fun _ => ?_))
      | exact ih0 _ _ _ _
      | exact LeO.none _
      | refine LeO.ite ?_ ?_
      | refine LeO.bind ?_ (fun _ => ?_)
theorem purse_Part.mono : ∀ a0 a1 a2 k, LeO (purse_Part.f k a0 a1 a2) (purse_Part.f (k + 1) a0 a1 a2) := by
  intro a0 a1 a2 k
  have ih0 := purse_Part.mono_l k
  unfold purse_Part.f
  repeat' first
      | (with_reducible exact ih0 _ _ _ _)
      | (with_reducible exact LeO.refl _)
      | (with_reducible exact LeO.none _)
      | (with_reducible refine LeO.ite ?_ ?_)
      | (with_reducible refine LeO.bind ?_ (fun _ => ?_))
      | exact ih0 _ _ _ _
      | exact LeO.none _
      | refine LeO.ite ?_ ?_
      | refine LeO.bind ?_ (fun _ => ?_)
set_option maxHeartbeats 8000000 in
set_option maxRecDepth 100000 in
theorem purse_Part.calls (k : Nat) (a0_0 : Int) (a0_1 : Int) (a1 : Int) (r1 : Int) (r2 : Int) (r3 : Int) (w : World) (h : purse_Part.f k a0_0 a0_1 a1 = some (r1, r2, r3)) :
    Calls Try.prog 54 #[.agg #[.int .i64 a0_0, .int .i64 a0_1], .int .i64 a1] w fun e w' => e = .returned (.tuple #[.agg #[.int .i64 r1, .int .i64 r2], .int .i64 r3]) ∧ Below w.heap.size w w' := by
  have hu48 := Try.underlying48
  have HB := Aside0.mk (Below.refl w.heap.size w)
  have H : ((purse_wish.f a0_0 a0_1).bind fun t110 => (if t110 = true then (if a1 < 0 then (purse_Part.j0 k a1 true a0_0 a0_1) else (purse_Part.j0 k a1 (decide (a1 > 65536)) a0_0 a0_1)) else (purse_Part.j0 k a1 true a0_0 a0_1))) = some (r1, r2, r3) := h
  clear h
  have HC3 := Aside0.mk H
  clear H
  go_enter Try.func54, Try.ntmps54
  go_upto_region 1 with (first | ((with_reducible refine gate_dst (N := 2) rfl ?_); refine box_event ?hg (N := 2) ?hd (cs := #[.int .i64 a0_0, .int .i64 a0_1]) (t := 48) ?hr ?_; (case hd => rfl); (case hg => rfl); (case hr => first | (go_simp; done) | (go_simp; rfl)); intro gb108 hg w4 hbox hb; have n0_ := Aside0.mk (below_step (by repeat (first | (with_reducible first | exact HB.out | apply below_alloc | apply pw_below_drewN | apply below_drew1) | exact HB.out)) hb); have n1_ := Aside0.mk (hbox); have n2_ := Aside0.mk ((by rw [hg]; exact (below_size (by repeat (first | (with_reducible first | exact HB.out | apply below_alloc | apply pw_below_drewN | apply below_drew1) | exact HB.out))) : w.heap.size ≤ gb108)); have n3_ := Aside0.mk ((by rw [hg]; exact (below_size (by repeat (first | (with_reducible first | exact HB.out | apply below_alloc | apply pw_below_drewN | apply below_drew1) | exact HB.out))) : w.heap.size ≤ gb108)); clear HB; have HB := n0_; have BK108 := n1_; have GW108 := n2_; have GE108 := n3_; clear n0_ n1_ n2_ n3_; clear hb hbox hg) | ((with_reducible refine gate_dst (N := 4) rfl ?_); refine box_event ?hg (N := 4) ?hd (cs := #[.int .i64 0, .int .i64 0]) (t := 48) ?hr ?_; (case hd => rfl); (case hg => rfl); (case hr => first | (go_simp; done) | (go_simp; rfl)); intro gb109 hg w5 hbox hb; have n0_ := Aside0.mk (blk_below (g := gb108) (o := .cells #[.int .i64 a0_0, .int .i64 a0_1] 48 (0, 0)) (by (with_reducible repeat (first | refine blk_drewN ?_ _ | refine blk_drew ?_ | refine blk_alloc ?_ _)); exact BK108.out) hb); have n1_ := Aside0.mk (below_step (by repeat (first | (with_reducible first | exact HB.out | apply below_alloc | apply pw_below_drewN | apply below_drew1 | refine below_set ?_ GE108.out) | exact HB.out)) hb); have n2_ := Aside0.mk (hbox); have n3_ := Aside0.mk ((by rw [hg]; exact (below_size (by repeat (first | (with_reducible first | exact HB.out | apply below_alloc | apply pw_below_drewN | apply below_drew1 | refine below_set ?_ GE108.out) | exact HB.out))) : w.heap.size ≤ gb109)); have n4_ := Aside0.mk ((by rw [hg]; exact (below_size (by repeat (first | (with_reducible first | exact HB.out | apply below_alloc | apply pw_below_drewN | apply below_drew1 | refine below_set ?_ GE108.out) | exact HB.out))) : w.heap.size ≤ gb109)); have n5_ := Aside0.mk ((by rw [hg]; exact Nat.ne_of_lt (blk_lt (g := gb108) (o := .cells #[.int .i64 a0_0, .int .i64 a0_1] 48 (0, 0)) (by (with_reducible repeat (first | refine blk_drewN ?_ _ | refine blk_drew ?_ | refine blk_alloc ?_ _)); exact BK108.out)) : gb108 ≠ gb109)); have n6_ := Aside0.mk ((by rw [hg]; exact Nat.ne_of_gt (blk_lt (g := gb108) (o := .cells #[.int .i64 a0_0, .int .i64 a0_1] 48 (0, 0)) (by (with_reducible repeat (first | refine blk_drewN ?_ _ | refine blk_drew ?_ | refine blk_alloc ?_ _)); exact BK108.out)) : gb109 ≠ gb108)); clear BK108; clear HB; have BK108 := n0_; have HB := n1_; have BK109 := n2_; have GW109 := n3_; have GE109 := n4_; have NB108_109 := n5_; have NB109_108 := n6_; clear n0_ n1_ n2_ n3_ n4_ n5_ n6_; clear hb hbox hg))
  (try simp only [Act.put, List.setIfInBounds_toArray, List.set_cons_zero, List.set_cons_succ])
  go_cut [16] (fun v16 wc => ∃ (kq : Nat) (x16_2 : Bool), v16 = .bool x16_2 ∧ Aside0 (purse_Part.j0 kq a1 x16_2 a0_0 a0_1 = some (r1, r2, r3)) ∧ Aside0 (kq ≤ k) ∧ Aside0 (wc.heap[gb108]? = some (.cells #[.int .i64 a0_0, .int .i64 a0_1] 48 (0, 0))) ∧ Aside0 (wc.heap[gb109]? = some (.cells #[.int .i64 0, .int .i64 0] 48 (0, 0))) ∧ Aside0 (Below w.heap.size w wc))
  case first =>
    have H := HC3.out
    clear HC3
    replace H := Option.bind_eq_some_iff.mp H
    obtain ⟨t110, A60, H⟩ := H
    replace H : (if t110 = true then (if a1 < 0 then (purse_Part.j0 k a1 true a0_0 a0_1) else (purse_Part.j0 k a1 (decide (a1 > 65536)) a0_0 a0_1)) else (purse_Part.j0 k a1 true a0_0 a0_1)) = some (r1, r2, r3) := H
    have A6 := Aside0.mk A60
    clear A60
    by_cases c7 : t110 = true
    · subst c7
      have H1 : (if a1 < 0 then (purse_Part.j0 k a1 true a0_0 a0_1) else (purse_Part.j0 k a1 (decide (a1 > 65536)) a0_0 a0_1)) = some (r1, r2, r3) := by rw [if_pos rfl] at H; exact H
      clear H
      have H := H1
      clear H1
      by_cases c8 : a1 < 0
      · rw [if_pos c8] at H
        have c8b0 : decide (a1 < 0) = true := decide_eq_true c8
        clear c8
        (first | rw [c8b0] | (simp only [i64_w, i32_w]; rw [c8b0]) | skip)
        have H' := Aside0.mk H
        clear H
        have hnb9 := NB108_109.out
        have hnc9 := NB109_108.out
        have hcz10_0 : w5.cell? ⟨gb108, 0, none⟩ = some (.int .i64 a0_0) := (blk_cell BK108.out 0).trans rfl
        have hcz10_1 : w5.cell? ⟨gb108, 1, none⟩ = some (.int .i64 a0_1) := (blk_cell BK108.out 1).trans rfl
        have hfz10_0 := blk_frozen BK108.out 0
        have hfz10_1 := blk_frozen BK108.out 1
        go_wp2_with (first | ((with_reducible refine gate_callee (f := 81) rfl ?_); refine goesL_ (some 7) rfl rfl Try.func81 (by kernel_rfl) rfl #[.agg #[.int .i64 a0_0, .int .i64 a0_1]] rfl (by (try simp only [List.map_toArray, List.map_cons, List.map_nil]); first | done | rfl | (simp only [List.length_drop, List.length_take]; rfl)) ?_; (with_reducible refine (purse_wish.calls a0_0 a0_1 true _ A6.out).mono ?_); rintro e w11 ⟨rfl, hb⟩; refine ⟨_, rfl, ?_⟩; have n0_ := Aside0.mk (blk_below (g := gb108) (o := .cells #[.int .i64 a0_0, .int .i64 a0_1] 48 (0, 0)) (by (with_reducible repeat (first | refine blk_drewN ?_ _ | refine blk_drew ?_ | refine blk_alloc ?_ _)); exact BK108.out) hb); have n1_ := Aside0.mk (blk_below (g := gb109) (o := .cells #[.int .i64 0, .int .i64 0] 48 (0, 0)) (by (with_reducible repeat (first | refine blk_drewN ?_ _ | refine blk_drew ?_ | refine blk_alloc ?_ _)); exact BK109.out) hb); have n2_ := Aside0.mk (below_step (by repeat (first | (with_reducible first | exact HB.out | apply below_alloc | apply pw_below_drewN | apply below_drew1 | refine below_set ?_ GE108.out | refine below_set ?_ GE109.out) | exact HB.out)) hb); clear BK108; clear BK109; clear HB; have BK108 := n0_; have BK109 := n1_; have HB := n2_; clear n0_ n1_ n2_; (try clear hb); (try clear hb2); (try clear hk); (try clear hi)))
        go_meet
        case rel => exact ⟨_, (true), (by first | rfl | (simp; done) | (simp [*]; done)), H', ⟨by first | omega | exact Nat.le_refl _⟩, ⟨by (with_reducible repeat (first | refine blk_drewN ?_ _ | refine blk_drew ?_ | refine blk_alloc ?_ _)); exact BK108.out⟩, ⟨by (with_reducible repeat (first | refine blk_drewN ?_ _ | refine blk_drew ?_ | refine blk_alloc ?_ _)); exact BK109.out⟩, ⟨by repeat (first | (with_reducible first | exact HB.out | apply below_alloc | apply pw_below_drewN | apply below_drew1 | refine below_set ?_ GE108.out | refine below_set ?_ GE109.out) | exact HB.out)⟩⟩
      · rw [if_neg c8] at H
        have c8b0 : decide (a1 < 0) = false := decide_eq_false c8
        clear c8
        (first | rw [c8b0] | (simp only [i64_w, i32_w]; rw [c8b0]) | skip)
        have H' := Aside0.mk H
        clear H
        have hnb12 := NB108_109.out
        have hnc12 := NB109_108.out
        have hcz13_0 : w5.cell? ⟨gb108, 0, none⟩ = some (.int .i64 a0_0) := (blk_cell BK108.out 0).trans rfl
        have hcz13_1 : w5.cell? ⟨gb108, 1, none⟩ = some (.int .i64 a0_1) := (blk_cell BK108.out 1).trans rfl
        have hfz13_0 := blk_frozen BK108.out 0
        have hfz13_1 := blk_frozen BK108.out 1
        go_wp2_with (first | ((with_reducible refine gate_callee (f := 81) rfl ?_); refine goesL_ (some 7) rfl rfl Try.func81 (by kernel_rfl) rfl #[.agg #[.int .i64 a0_0, .int .i64 a0_1]] rfl (by (try simp only [List.map_toArray, List.map_cons, List.map_nil]); first | done | rfl | (simp only [List.length_drop, List.length_take]; rfl)) ?_; (with_reducible refine (purse_wish.calls a0_0 a0_1 true _ A6.out).mono ?_); rintro e w14 ⟨rfl, hb⟩; refine ⟨_, rfl, ?_⟩; have n0_ := Aside0.mk (blk_below (g := gb108) (o := .cells #[.int .i64 a0_0, .int .i64 a0_1] 48 (0, 0)) (by (with_reducible repeat (first | refine blk_drewN ?_ _ | refine blk_drew ?_ | refine blk_alloc ?_ _)); exact BK108.out) hb); have n1_ := Aside0.mk (blk_below (g := gb109) (o := .cells #[.int .i64 0, .int .i64 0] 48 (0, 0)) (by (with_reducible repeat (first | refine blk_drewN ?_ _ | refine blk_drew ?_ | refine blk_alloc ?_ _)); exact BK109.out) hb); have n2_ := Aside0.mk (below_step (by repeat (first | (with_reducible first | exact HB.out | apply below_alloc | apply pw_below_drewN | apply below_drew1 | refine below_set ?_ GE108.out | refine below_set ?_ GE109.out) | exact HB.out)) hb); clear BK108; clear BK109; clear HB; have BK108 := n0_; have BK109 := n1_; have HB := n2_; clear n0_ n1_ n2_; (try clear hb); (try clear hb2); (try clear hk); (try clear hi)))
        go_meet
        case rel => exact ⟨_, (decide (a1 > 65536)), (by first | rfl | (simp; done) | (simp [*]; done)), H', ⟨by first | omega | exact Nat.le_refl _⟩, ⟨by (with_reducible repeat (first | refine blk_drewN ?_ _ | refine blk_drew ?_ | refine blk_alloc ?_ _)); exact BK108.out⟩, ⟨by (with_reducible repeat (first | refine blk_drewN ?_ _ | refine blk_drew ?_ | refine blk_alloc ?_ _)); exact BK109.out⟩, ⟨by repeat (first | (with_reducible first | exact HB.out | apply below_alloc | apply pw_below_drewN | apply below_drew1 | refine below_set ?_ GE108.out | refine below_set ?_ GE109.out) | exact HB.out)⟩⟩
    · replace c7 := Bool.eq_false_iff.mpr c7
      subst c7
      have H1 : (purse_Part.j0 k a1 true a0_0 a0_1) = some (r1, r2, r3) := by rw [if_neg (show ¬ (false = true) by decide)] at H; exact H
      clear H
      have H := H1
      clear H1
      have H' := Aside0.mk H
      clear H
      have hnb15 := NB108_109.out
      have hnc15 := NB109_108.out
      have hcz16_0 : w5.cell? ⟨gb108, 0, none⟩ = some (.int .i64 a0_0) := (blk_cell BK108.out 0).trans rfl
      have hcz16_1 : w5.cell? ⟨gb108, 1, none⟩ = some (.int .i64 a0_1) := (blk_cell BK108.out 1).trans rfl
      have hfz16_0 := blk_frozen BK108.out 0
      have hfz16_1 := blk_frozen BK108.out 1
      go_wp2_with (first | ((with_reducible refine gate_callee (f := 81) rfl ?_); refine goesL_ (some 7) rfl rfl Try.func81 (by kernel_rfl) rfl #[.agg #[.int .i64 a0_0, .int .i64 a0_1]] rfl (by (try simp only [List.map_toArray, List.map_cons, List.map_nil]); first | done | rfl | (simp only [List.length_drop, List.length_take]; rfl)) ?_; (with_reducible refine (purse_wish.calls a0_0 a0_1 false _ A6.out).mono ?_); rintro e w17 ⟨rfl, hb⟩; refine ⟨_, rfl, ?_⟩; have n0_ := Aside0.mk (blk_below (g := gb108) (o := .cells #[.int .i64 a0_0, .int .i64 a0_1] 48 (0, 0)) (by (with_reducible repeat (first | refine blk_drewN ?_ _ | refine blk_drew ?_ | refine blk_alloc ?_ _)); exact BK108.out) hb); have n1_ := Aside0.mk (blk_below (g := gb109) (o := .cells #[.int .i64 0, .int .i64 0] 48 (0, 0)) (by (with_reducible repeat (first | refine blk_drewN ?_ _ | refine blk_drew ?_ | refine blk_alloc ?_ _)); exact BK109.out) hb); have n2_ := Aside0.mk (below_step (by repeat (first | (with_reducible first | exact HB.out | apply below_alloc | apply pw_below_drewN | apply below_drew1 | refine below_set ?_ GE108.out | refine below_set ?_ GE109.out) | exact HB.out)) hb); clear BK108; clear BK109; clear HB; have BK108 := n0_; have BK109 := n1_; have HB := n2_; clear n0_ n1_ n2_; (try clear hb); (try clear hb2); (try clear hk); (try clear hi)))
      go_meet
      case rel => exact ⟨_, (true), (by first | rfl | (simp; done) | (simp [*]; done)), H', ⟨by first | omega | exact Nat.le_refl _⟩, ⟨by (with_reducible repeat (first | refine blk_drewN ?_ _ | refine blk_drew ?_ | refine blk_alloc ?_ _)); exact BK108.out⟩, ⟨by (with_reducible repeat (first | refine blk_drewN ?_ _ | refine blk_drew ?_ | refine blk_alloc ?_ _)); exact BK109.out⟩, ⟨by repeat (first | (with_reducible first | exact HB.out | apply below_alloc | apply pw_below_drewN | apply below_drew1 | refine below_set ?_ GE108.out | refine below_set ?_ GE109.out) | exact HB.out)⟩⟩
  case rest =>
    clear HC3
    try clear c1
    try clear p2
    try clear c5
    try clear c7
    try clear c8
    try clear c8b0
    try clear c9
    try clear c12
    try clear c15
    try clear hcz10_0
    try clear hcz10_1
    try clear hcz13_0
    try clear hcz13_1
    try clear hcz16_0
    try clear hcz16_1
    try clear hfz10_0
    try clear hfz10_1
    try clear hfz13_0
    try clear hfz13_1
    try clear hfz16_0
    try clear hfz16_1
    obtain ⟨kq, x16_2, rfl, HA, HJ2, BK108, BK109, HB⟩ := hcut
    cases kq with
    | zero => exact absurd HA.out (by simp [purse_Part.j0])
    | succ kj2 =>
      have H := HA.out
      clear HA
      simp only [purse_Part.j0] at H
      by_cases c18 : x16_2 = true
      · subst c18
        have H1 : (some (0, 0, 1)) = some (r1, r2, r3) := by rw [if_pos rfl] at H; exact H
        clear H
        have H := H1
        clear H1
        simp only [Option.some.injEq, Prod.mk.injEq] at H
        obtain ⟨rfl, rfl, rfl⟩ := H
        have hnb19 := NB109_108.out
        have hnc19 := NB108_109.out
        have hcz20_0 : wc.cell? ⟨gb109, 0, none⟩ = some (.int .i64 0) := (blk_cell BK109.out 0).trans rfl
        have hcz20_1 : wc.cell? ⟨gb109, 1, none⟩ = some (.int .i64 0) := (blk_cell BK109.out 1).trans rfl
        have hfz20_0 := blk_frozen BK109.out 0
        have hfz20_1 := blk_frozen BK109.out 1
        go_wp2
        refine bodyPost_ret (results_ct rfl _ _ gb109 48 #[.int .i64 0, .int .i64 0] (0, 0) _ rfl (by (with_reducible repeat (first | refine blk_drewN ?_ _ | refine blk_drew ?_ | refine blk_alloc ?_ _)); refine blk_put (cs := #[.int .i64 0, .int .i64 0]) ?_ 1 _ rfl; (with_reducible repeat (first | refine blk_drewN ?_ _ | refine blk_drew ?_ | refine blk_alloc ?_ _)); refine blk_put (cs := #[.int .i64 0, .int .i64 0]) ?_ 0 _ rfl; (with_reducible repeat (first | refine blk_drewN ?_ _ | refine blk_drew ?_ | refine blk_alloc ?_ _)); exact BK109.out) Try.underlying48 rfl (by kernel_rfl)) rfl ?_
        exact ⟨by first | rfl | (simp [errW_none, errW_some] <;> rfl) | (simp [*, errW_none, errW_some] <;> rfl), by repeat (first | (with_reducible first | exact HB.out | apply below_alloc | apply pw_below_drewN | apply below_drew1 | refine below_set ?_ GE108.out | refine below_set ?_ GE109.out) | exact HB.out)⟩
      · replace c18 := Bool.eq_false_iff.mpr c18
        subst c18
        have H1 : (some ((wrap64 (a0_0 * a1)) / 65536, (wrap64 (a0_1 * a1)) / 65536, 0)) = some (r1, r2, r3) := by rw [if_neg (show ¬ (false = true) by decide)] at H; exact H
        clear H
        have H := H1
        clear H1
        simp only [Option.some.injEq, Prod.mk.injEq] at H
        obtain ⟨rfl, rfl, rfl⟩ := H
        have hnb21 := NB108_109.out
        have hnc21 := NB109_108.out
        have hcz22_0 : wc.cell? ⟨gb108, 0, none⟩ = some (.int .i64 a0_0) := (blk_cell BK108.out 0).trans rfl
        have hcz22_1 : wc.cell? ⟨gb108, 1, none⟩ = some (.int .i64 a0_1) := (blk_cell BK108.out 1).trans rfl
        have hfz22_0 := blk_frozen BK108.out 0
        have hfz22_1 := blk_frozen BK108.out 1
        have hcz23_0 : wc.cell? ⟨gb109, 0, none⟩ = some (.int .i64 0) := (blk_cell BK109.out 0).trans rfl
        have hcz23_1 : wc.cell? ⟨gb109, 1, none⟩ = some (.int .i64 0) := (blk_cell BK109.out 1).trans rfl
        have hfz23_0 := blk_frozen BK109.out 0
        have hfz23_1 := blk_frozen BK109.out 1
        go_wp2
        refine bodyPost_ret (results_ct rfl _ _ gb109 48 #[.int .i64 ((wrap64 (a0_0 * a1)) / 65536), .int .i64 ((wrap64 (a0_1 * a1)) / 65536)] (0, 0) _ rfl (by (with_reducible repeat (first | refine blk_drewN ?_ _ | refine blk_drew ?_ | refine blk_alloc ?_ _)); refine blk_put (cs := #[.int .i64 ((wrap64 (a0_0 * a1)) / 65536), .int .i64 0]) ?_ 1 _ rfl; (with_reducible repeat (first | refine blk_drewN ?_ _ | refine blk_drew ?_ | refine blk_alloc ?_ _)); refine blk_put (cs := #[.int .i64 0, .int .i64 0]) ?_ 0 _ rfl; (with_reducible repeat (first | refine blk_drewN ?_ _ | refine blk_drew ?_ | refine blk_alloc ?_ _)); exact BK109.out) Try.underlying48 rfl (by kernel_rfl)) rfl ?_
        exact ⟨by first | rfl | (simp [errW_none, errW_some] <;> rfl) | (simp [*, errW_none, errW_some] <;> rfl), by repeat (first | (with_reducible first | exact HB.out | apply below_alloc | apply pw_below_drewN | apply below_drew1 | refine below_set ?_ GE108.out | refine below_set ?_ GE109.out) | exact HB.out)⟩
noncomputable def bivouacref19_in.f (a0 : Int) (a1 : Int) : Option (Bool) := if 0 ≤ a0 then (some (decide (a0 ≤ a1))) else (some false)
set_option maxHeartbeats 8000000 in
set_option maxRecDepth 100000 in
theorem bivouacref19_in.calls (a0 : Int) (a1 : Int) (r : Bool) (w : World) (h : bivouacref19_in.f a0 a1 = some r) :
    Calls Try.prog 82 #[.int .i64 a0, .int .i64 a1] w fun e w' => e = .returned (.bool r) ∧ Drawn0 w w' := by
  have H : (if 0 ≤ a0 then (some (decide (a0 ≤ a1))) else (some false)) = some r := h
  clear h
  by_cases c3 : 0 ≤ a0
  · rw [if_pos c3] at H
    have c3b0 : decide (0 ≤ a0) = true := decide_eq_true c3
    clear c3
    obtain rfl := Option.some.inj H
    go_enter Try.func82, Try.ntmps82
    go_wp2
    go_ret
    exact ⟨by first | rfl | (simp; done) | (simp [*]; done), by repeat (first | exact Drawn0.refl _ | apply Drawn0.step)⟩
  · rw [if_neg c3] at H
    have c3b0 : decide (0 ≤ a0) = false := decide_eq_false c3
    clear c3
    obtain rfl := Option.some.inj H
    go_enter Try.func82, Try.ntmps82
    go_wp2
    go_ret
    exact ⟨by first | rfl | (simp; done) | (simp [*]; done), by repeat (first | exact Drawn0.refl _ | apply Drawn0.step)⟩
noncomputable def bivouacref19_Wish.f (a0_0 : Int) (a0_1 : Int) : Option (Bool) := (bivouacref19_in.f a0_0 1048576).bind fun t112 => (if t112 = true then ((bivouacref19_in.f a0_1 1048576).bind fun t113 => (some t113)) else (some false))
set_option maxHeartbeats 8000000 in
set_option maxRecDepth 100000 in
theorem bivouacref19_Wish.calls (a0_0 : Int) (a0_1 : Int) (r : Bool) (w : World) (h : bivouacref19_Wish.f a0_0 a0_1 = some r) :
    Calls Try.prog 55 #[.agg #[.int .i64 a0_0, .int .i64 a0_1]] w fun e w' => e = .returned (.bool r) ∧ Below w.heap.size w w' := by
  have hu48 := Try.underlying48
  have HB := Aside0.mk (Below.refl w.heap.size w)
  have H : ((bivouacref19_in.f a0_0 1048576).bind fun t112 => (if t112 = true then ((bivouacref19_in.f a0_1 1048576).bind fun t113 => (some t113)) else (some false))) = some r := h
  clear h
  replace H := Option.bind_eq_some_iff.mp H
  obtain ⟨t112, A20, H⟩ := H
  replace H : (if t112 = true then ((bivouacref19_in.f a0_1 1048576).bind fun t113 => (some t113)) else (some false)) = some r := H
  have A2 := Aside0.mk A20
  clear A20
  by_cases c3 : t112 = true
  · subst c3
    have H1 : ((bivouacref19_in.f a0_1 1048576).bind fun t113 => (some t113)) = some r := by rw [if_pos rfl] at H; exact H
    clear H
    have H := H1
    clear H1
    replace H := Option.bind_eq_some_iff.mp H
    obtain ⟨t113, A40, H⟩ := H
    replace H : (some t113) = some r := H
    have A4 := Aside0.mk A40
    clear A40
    obtain rfl := Option.some.inj H
    go_enter Try.func55, Try.ntmps55
    go_wp2_with (first | ((with_reducible refine gate_dst (N := 1) rfl ?_); refine box_event ?hg (N := 1) ?hd (cs := #[.int .i64 a0_0, .int .i64 a0_1]) (t := 48) ?hr ?_; (case hd => rfl); (case hg => rfl); (case hr => first | (go_simp; done) | (go_simp; rfl)); intro gb111 hg w5 hbox hb; have n0_ := Aside0.mk (below_step (by repeat (first | (with_reducible first | exact HB.out | apply below_alloc | apply pw_below_drewN | apply below_drew1) | exact HB.out)) hb); have n1_ := Aside0.mk (hbox); have n2_ := Aside0.mk ((by rw [hg]; exact (below_size (by repeat (first | (with_reducible first | exact HB.out | apply below_alloc | apply pw_below_drewN | apply below_drew1) | exact HB.out))) : w.heap.size ≤ gb111)); have n3_ := Aside0.mk ((by rw [hg]; exact (below_size (by repeat (first | (with_reducible first | exact HB.out | apply below_alloc | apply pw_below_drewN | apply below_drew1) | exact HB.out))) : w.heap.size ≤ gb111)); clear HB; have HB := n0_; have BK111 := n1_; have GW111 := n2_; have GE111 := n3_; clear n0_ n1_ n2_ n3_; clear hb hbox hg; have hcz6_0 : w5.cell? ⟨gb111, 0, none⟩ = some (.int .i64 a0_0) := (blk_cell BK111.out 0).trans rfl; have hcz6_1 : w5.cell? ⟨gb111, 1, none⟩ = some (.int .i64 a0_1) := (blk_cell BK111.out 1).trans rfl; have hfz6_0 := blk_frozen BK111.out 0; have hfz6_1 := blk_frozen BK111.out 1) | ((with_reducible refine gate_callee (f := 82) rfl ?_); refine goesL_ (some 5) rfl rfl Try.func82 (by kernel_rfl) rfl #[.int .i64 a0_0, .int .i64 1048576] rfl (by (try simp only [List.map_toArray, List.map_cons, List.map_nil]); first | done | rfl | (simp only [List.length_drop, List.length_take]; rfl)) ?_; (with_reducible refine (bivouacref19_in.calls a0_0 1048576 true _ A2.out).mono ?_); rintro e w' ⟨rfl, ⟨nd, rfl⟩⟩; refine ⟨_, rfl, ?_⟩) | (go_at_call 82; (with_reducible refine (bivouacref19_in.calls a0_1 1048576 t113 _ A4.out).mono ?_); rintro e w' ⟨rfl, ⟨nd, rfl⟩⟩))
    go_ret
    exact ⟨by first | rfl | (simp [errW_none, errW_some] <;> rfl) | (simp [*, errW_none, errW_some] <;> rfl), by repeat (first | (with_reducible first | exact HB.out | apply below_alloc | apply pw_below_drewN | apply below_drew1 | refine below_set ?_ GE111.out) | exact HB.out)⟩
  · replace c3 := Bool.eq_false_iff.mpr c3
    subst c3
    have H1 : (some false) = some r := by rw [if_neg (show ¬ (false = true) by decide)] at H; exact H
    clear H
    have H := H1
    clear H1
    obtain rfl := Option.some.inj H
    go_enter Try.func55, Try.ntmps55
    go_wp2_with (first | ((with_reducible refine gate_dst (N := 1) rfl ?_); refine box_event ?hg (N := 1) ?hd (cs := #[.int .i64 a0_0, .int .i64 a0_1]) (t := 48) ?hr ?_; (case hd => rfl); (case hg => rfl); (case hr => first | (go_simp; done) | (go_simp; rfl)); intro gb111 hg w7 hbox hb; have n0_ := Aside0.mk (below_step (by repeat (first | (with_reducible first | exact HB.out | apply below_alloc | apply pw_below_drewN | apply below_drew1) | exact HB.out)) hb); have n1_ := Aside0.mk (hbox); have n2_ := Aside0.mk ((by rw [hg]; exact (below_size (by repeat (first | (with_reducible first | exact HB.out | apply below_alloc | apply pw_below_drewN | apply below_drew1) | exact HB.out))) : w.heap.size ≤ gb111)); have n3_ := Aside0.mk ((by rw [hg]; exact (below_size (by repeat (first | (with_reducible first | exact HB.out | apply below_alloc | apply pw_below_drewN | apply below_drew1) | exact HB.out))) : w.heap.size ≤ gb111)); clear HB; have HB := n0_; have BK111 := n1_; have GW111 := n2_; have GE111 := n3_; clear n0_ n1_ n2_ n3_; clear hb hbox hg; have hcz8_0 : w7.cell? ⟨gb111, 0, none⟩ = some (.int .i64 a0_0) := (blk_cell BK111.out 0).trans rfl; have hcz8_1 : w7.cell? ⟨gb111, 1, none⟩ = some (.int .i64 a0_1) := (blk_cell BK111.out 1).trans rfl; have hfz8_0 := blk_frozen BK111.out 0; have hfz8_1 := blk_frozen BK111.out 1) | ((with_reducible refine gate_callee (f := 82) rfl ?_); refine goesL_ (some 5) rfl rfl Try.func82 (by kernel_rfl) rfl #[.int .i64 a0_0, .int .i64 1048576] rfl (by (try simp only [List.map_toArray, List.map_cons, List.map_nil]); first | done | rfl | (simp only [List.length_drop, List.length_take]; rfl)) ?_; (with_reducible refine (bivouacref19_in.calls a0_0 1048576 false _ A2.out).mono ?_); rintro e w' ⟨rfl, ⟨nd, rfl⟩⟩; refine ⟨_, rfl, ?_⟩))
    go_ret
    exact ⟨by first | rfl | (simp [errW_none, errW_some] <;> rfl) | (simp [*, errW_none, errW_some] <;> rfl), by repeat (first | (with_reducible first | exact HB.out | apply below_alloc | apply pw_below_drewN | apply below_drew1 | refine below_set ?_ GE111.out) | exact HB.out)⟩
noncomputable def purse_May.f (a0_0 : Int) (a0_1 : Int) (a0_2 : Int) (a0_3 : Int) : Option (Bool) := (purse_within.f a0_2 1073741824).bind fun t115 => (if t115 = true then ((purse_within.f a0_3 1073741824).bind fun t116 => (if t116 = true then ((purse_within.f a0_0 a0_2).bind fun t117 => (if t117 = true then ((purse_within.f a0_1 a0_3).bind fun t118 => (some t118)) else (some false))) else (some false))) else (some false))
set_option maxHeartbeats 8000000 in
set_option maxRecDepth 100000 in
theorem purse_May.calls (a0_0 : Int) (a0_1 : Int) (a0_2 : Int) (a0_3 : Int) (r : Bool) (w : World) (h : purse_May.f a0_0 a0_1 a0_2 a0_3 = some r) :
    Calls Try.prog 60 #[.agg #[.int .i64 a0_0, .int .i64 a0_1, .int .i64 a0_2, .int .i64 a0_3]] w fun e w' => e = .returned (.bool r) ∧ Below w.heap.size w w' := by
  have hu59 := Try.underlying59
  have HB := Aside0.mk (Below.refl w.heap.size w)
  have H : ((purse_within.f a0_2 1073741824).bind fun t115 => (if t115 = true then ((purse_within.f a0_3 1073741824).bind fun t116 => (if t116 = true then ((purse_within.f a0_0 a0_2).bind fun t117 => (if t117 = true then ((purse_within.f a0_1 a0_3).bind fun t118 => (some t118)) else (some false))) else (some false))) else (some false))) = some r := h
  clear h
  replace H := Option.bind_eq_some_iff.mp H
  obtain ⟨t115, A20, H⟩ := H
  replace H : (if t115 = true then ((purse_within.f a0_3 1073741824).bind fun t116 => (if t116 = true then ((purse_within.f a0_0 a0_2).bind fun t117 => (if t117 = true then ((purse_within.f a0_1 a0_3).bind fun t118 => (some t118)) else (some false))) else (some false))) else (some false)) = some r := H
  have A2 := Aside0.mk A20
  clear A20
  by_cases c3 : t115 = true
  · subst c3
    have H1 : ((purse_within.f a0_3 1073741824).bind fun t116 => (if t116 = true then ((purse_within.f a0_0 a0_2).bind fun t117 => (if t117 = true then ((purse_within.f a0_1 a0_3).bind fun t118 => (some t118)) else (some false))) else (some false))) = some r := by rw [if_pos rfl] at H; exact H
    clear H
    have H := H1
    clear H1
    replace H := Option.bind_eq_some_iff.mp H
    obtain ⟨t116, A40, H⟩ := H
    replace H : (if t116 = true then ((purse_within.f a0_0 a0_2).bind fun t117 => (if t117 = true then ((purse_within.f a0_1 a0_3).bind fun t118 => (some t118)) else (some false))) else (some false)) = some r := H
    have A4 := Aside0.mk A40
    clear A40
    by_cases c5 : t116 = true
    · subst c5
      have H1 : ((purse_within.f a0_0 a0_2).bind fun t117 => (if t117 = true then ((purse_within.f a0_1 a0_3).bind fun t118 => (some t118)) else (some false))) = some r := by rw [if_pos rfl] at H; exact H
      clear H
      have H := H1
      clear H1
      replace H := Option.bind_eq_some_iff.mp H
      obtain ⟨t117, A60, H⟩ := H
      replace H : (if t117 = true then ((purse_within.f a0_1 a0_3).bind fun t118 => (some t118)) else (some false)) = some r := H
      have A6 := Aside0.mk A60
      clear A60
      by_cases c7 : t117 = true
      · subst c7
        have H1 : ((purse_within.f a0_1 a0_3).bind fun t118 => (some t118)) = some r := by rw [if_pos rfl] at H; exact H
        clear H
        have H := H1
        clear H1
        replace H := Option.bind_eq_some_iff.mp H
        obtain ⟨t118, A80, H⟩ := H
        replace H : (some t118) = some r := H
        have A8 := Aside0.mk A80
        clear A80
        obtain rfl := Option.some.inj H
        go_enter Try.func60, Try.ntmps60
        go_wp2_with (first | ((with_reducible refine gate_dst (N := 1) rfl ?_); refine box_event ?hg (N := 1) ?hd (cs := #[.int .i64 a0_0, .int .i64 a0_1, .int .i64 a0_2, .int .i64 a0_3]) (t := 59) ?hr ?_; (case hd => rfl); (case hg => rfl); (case hr => first | (go_simp; done) | (go_simp; rfl)); intro gb114 hg w9 hbox hb; have n0_ := Aside0.mk (below_step (by repeat (first | (with_reducible first | exact HB.out | apply below_alloc | apply pw_below_drewN | apply below_drew1) | exact HB.out)) hb); have n1_ := Aside0.mk (hbox); have n2_ := Aside0.mk ((by rw [hg]; exact (below_size (by repeat (first | (with_reducible first | exact HB.out | apply below_alloc | apply pw_below_drewN | apply below_drew1) | exact HB.out))) : w.heap.size ≤ gb114)); have n3_ := Aside0.mk ((by rw [hg]; exact (below_size (by repeat (first | (with_reducible first | exact HB.out | apply below_alloc | apply pw_below_drewN | apply below_drew1) | exact HB.out))) : w.heap.size ≤ gb114)); clear HB; have HB := n0_; have BK114 := n1_; have GW114 := n2_; have GE114 := n3_; clear n0_ n1_ n2_ n3_; clear hb hbox hg; have hcz10_0 : w9.cell? ⟨gb114, 0, none⟩ = some (.int .i64 a0_0) := (blk_cell BK114.out 0).trans rfl; have hcz10_1 : w9.cell? ⟨gb114, 1, none⟩ = some (.int .i64 a0_1) := (blk_cell BK114.out 1).trans rfl; have hcz10_2 : w9.cell? ⟨gb114, 2, none⟩ = some (.int .i64 a0_2) := (blk_cell BK114.out 2).trans rfl; have hcz10_3 : w9.cell? ⟨gb114, 3, none⟩ = some (.int .i64 a0_3) := (blk_cell BK114.out 3).trans rfl; have hfz10_0 := blk_frozen BK114.out 0; have hfz10_1 := blk_frozen BK114.out 1; have hfz10_2 := blk_frozen BK114.out 2; have hfz10_3 := blk_frozen BK114.out 3) | ((with_reducible refine gate_callee (f := 80) rfl ?_); refine goesL_ (some 5) rfl rfl Try.func80 (by kernel_rfl) rfl #[.int .i64 a0_2, .int .i64 1073741824] rfl (by (try simp only [List.map_toArray, List.map_cons, List.map_nil]); first | done | rfl | (simp only [List.length_drop, List.length_take]; rfl)) ?_; (with_reducible refine (purse_within.calls a0_2 1073741824 true _ A2.out).mono ?_); rintro e w' ⟨rfl, ⟨nd, rfl⟩⟩; refine ⟨_, rfl, ?_⟩) | (go_at_call 80; (with_reducible refine (purse_within.calls a0_3 1073741824 true _ A4.out).mono ?_); rintro e w' ⟨rfl, ⟨nd, rfl⟩⟩) | (go_at_call 80; (with_reducible refine (purse_within.calls a0_0 a0_2 true _ A6.out).mono ?_); rintro e w' ⟨rfl, ⟨nd, rfl⟩⟩) | (go_at_call 80; (with_reducible refine (purse_within.calls a0_1 a0_3 t118 _ A8.out).mono ?_); rintro e w' ⟨rfl, ⟨nd, rfl⟩⟩))
        go_ret
        exact ⟨by first | rfl | (simp [errW_none, errW_some] <;> rfl) | (simp [*, errW_none, errW_some] <;> rfl), by repeat (first | (with_reducible first | exact HB.out | apply below_alloc | apply pw_below_drewN | apply below_drew1 | refine below_set ?_ GE114.out) | exact HB.out)⟩
      · replace c7 := Bool.eq_false_iff.mpr c7
        subst c7
        have H1 : (some false) = some r := by rw [if_neg (show ¬ (false = true) by decide)] at H; exact H
        clear H
        have H := H1
        clear H1
        obtain rfl := Option.some.inj H
        go_enter Try.func60, Try.ntmps60
        go_wp2_with (first | ((with_reducible refine gate_dst (N := 1) rfl ?_); refine box_event ?hg (N := 1) ?hd (cs := #[.int .i64 a0_0, .int .i64 a0_1, .int .i64 a0_2, .int .i64 a0_3]) (t := 59) ?hr ?_; (case hd => rfl); (case hg => rfl); (case hr => first | (go_simp; done) | (go_simp; rfl)); intro gb114 hg w11 hbox hb; have n0_ := Aside0.mk (below_step (by repeat (first | (with_reducible first | exact HB.out | apply below_alloc | apply pw_below_drewN | apply below_drew1) | exact HB.out)) hb); have n1_ := Aside0.mk (hbox); have n2_ := Aside0.mk ((by rw [hg]; exact (below_size (by repeat (first | (with_reducible first | exact HB.out | apply below_alloc | apply pw_below_drewN | apply below_drew1) | exact HB.out))) : w.heap.size ≤ gb114)); have n3_ := Aside0.mk ((by rw [hg]; exact (below_size (by repeat (first | (with_reducible first | exact HB.out | apply below_alloc | apply pw_below_drewN | apply below_drew1) | exact HB.out))) : w.heap.size ≤ gb114)); clear HB; have HB := n0_; have BK114 := n1_; have GW114 := n2_; have GE114 := n3_; clear n0_ n1_ n2_ n3_; clear hb hbox hg; have hcz12_0 : w11.cell? ⟨gb114, 0, none⟩ = some (.int .i64 a0_0) := (blk_cell BK114.out 0).trans rfl; have hcz12_1 : w11.cell? ⟨gb114, 1, none⟩ = some (.int .i64 a0_1) := (blk_cell BK114.out 1).trans rfl; have hcz12_2 : w11.cell? ⟨gb114, 2, none⟩ = some (.int .i64 a0_2) := (blk_cell BK114.out 2).trans rfl; have hcz12_3 : w11.cell? ⟨gb114, 3, none⟩ = some (.int .i64 a0_3) := (blk_cell BK114.out 3).trans rfl; have hfz12_0 := blk_frozen BK114.out 0; have hfz12_1 := blk_frozen BK114.out 1; have hfz12_2 := blk_frozen BK114.out 2; have hfz12_3 := blk_frozen BK114.out 3) | ((with_reducible refine gate_callee (f := 80) rfl ?_); refine goesL_ (some 5) rfl rfl Try.func80 (by kernel_rfl) rfl #[.int .i64 a0_2, .int .i64 1073741824] rfl (by (try simp only [List.map_toArray, List.map_cons, List.map_nil]); first | done | rfl | (simp only [List.length_drop, List.length_take]; rfl)) ?_; (with_reducible refine (purse_within.calls a0_2 1073741824 true _ A2.out).mono ?_); rintro e w' ⟨rfl, ⟨nd, rfl⟩⟩; refine ⟨_, rfl, ?_⟩) | (go_at_call 80; (with_reducible refine (purse_within.calls a0_3 1073741824 true _ A4.out).mono ?_); rintro e w' ⟨rfl, ⟨nd, rfl⟩⟩) | (go_at_call 80; (with_reducible refine (purse_within.calls a0_0 a0_2 false _ A6.out).mono ?_); rintro e w' ⟨rfl, ⟨nd, rfl⟩⟩))
        go_ret
        exact ⟨by first | rfl | (simp [errW_none, errW_some] <;> rfl) | (simp [*, errW_none, errW_some] <;> rfl), by repeat (first | (with_reducible first | exact HB.out | apply below_alloc | apply pw_below_drewN | apply below_drew1 | refine below_set ?_ GE114.out) | exact HB.out)⟩
    · replace c5 := Bool.eq_false_iff.mpr c5
      subst c5
      have H1 : (some false) = some r := by rw [if_neg (show ¬ (false = true) by decide)] at H; exact H
      clear H
      have H := H1
      clear H1
      obtain rfl := Option.some.inj H
      go_enter Try.func60, Try.ntmps60
      go_wp2_with (first | ((with_reducible refine gate_dst (N := 1) rfl ?_); refine box_event ?hg (N := 1) ?hd (cs := #[.int .i64 a0_0, .int .i64 a0_1, .int .i64 a0_2, .int .i64 a0_3]) (t := 59) ?hr ?_; (case hd => rfl); (case hg => rfl); (case hr => first | (go_simp; done) | (go_simp; rfl)); intro gb114 hg w13 hbox hb; have n0_ := Aside0.mk (below_step (by repeat (first | (with_reducible first | exact HB.out | apply below_alloc | apply pw_below_drewN | apply below_drew1) | exact HB.out)) hb); have n1_ := Aside0.mk (hbox); have n2_ := Aside0.mk ((by rw [hg]; exact (below_size (by repeat (first | (with_reducible first | exact HB.out | apply below_alloc | apply pw_below_drewN | apply below_drew1) | exact HB.out))) : w.heap.size ≤ gb114)); have n3_ := Aside0.mk ((by rw [hg]; exact (below_size (by repeat (first | (with_reducible first | exact HB.out | apply below_alloc | apply pw_below_drewN | apply below_drew1) | exact HB.out))) : w.heap.size ≤ gb114)); clear HB; have HB := n0_; have BK114 := n1_; have GW114 := n2_; have GE114 := n3_; clear n0_ n1_ n2_ n3_; clear hb hbox hg; have hcz14_0 : w13.cell? ⟨gb114, 0, none⟩ = some (.int .i64 a0_0) := (blk_cell BK114.out 0).trans rfl; have hcz14_1 : w13.cell? ⟨gb114, 1, none⟩ = some (.int .i64 a0_1) := (blk_cell BK114.out 1).trans rfl; have hcz14_2 : w13.cell? ⟨gb114, 2, none⟩ = some (.int .i64 a0_2) := (blk_cell BK114.out 2).trans rfl; have hcz14_3 : w13.cell? ⟨gb114, 3, none⟩ = some (.int .i64 a0_3) := (blk_cell BK114.out 3).trans rfl; have hfz14_0 := blk_frozen BK114.out 0; have hfz14_1 := blk_frozen BK114.out 1; have hfz14_2 := blk_frozen BK114.out 2; have hfz14_3 := blk_frozen BK114.out 3) | ((with_reducible refine gate_callee (f := 80) rfl ?_); refine goesL_ (some 5) rfl rfl Try.func80 (by kernel_rfl) rfl #[.int .i64 a0_2, .int .i64 1073741824] rfl (by (try simp only [List.map_toArray, List.map_cons, List.map_nil]); first | done | rfl | (simp only [List.length_drop, List.length_take]; rfl)) ?_; (with_reducible refine (purse_within.calls a0_2 1073741824 true _ A2.out).mono ?_); rintro e w' ⟨rfl, ⟨nd, rfl⟩⟩; refine ⟨_, rfl, ?_⟩) | (go_at_call 80; (with_reducible refine (purse_within.calls a0_3 1073741824 false _ A4.out).mono ?_); rintro e w' ⟨rfl, ⟨nd, rfl⟩⟩))
      go_ret
      exact ⟨by first | rfl | (simp [errW_none, errW_some] <;> rfl) | (simp [*, errW_none, errW_some] <;> rfl), by repeat (first | (with_reducible first | exact HB.out | apply below_alloc | apply pw_below_drewN | apply below_drew1 | refine below_set ?_ GE114.out) | exact HB.out)⟩
  · replace c3 := Bool.eq_false_iff.mpr c3
    subst c3
    have H1 : (some false) = some r := by rw [if_neg (show ¬ (false = true) by decide)] at H; exact H
    clear H
    have H := H1
    clear H1
    obtain rfl := Option.some.inj H
    go_enter Try.func60, Try.ntmps60
    go_wp2_with (first | ((with_reducible refine gate_dst (N := 1) rfl ?_); refine box_event ?hg (N := 1) ?hd (cs := #[.int .i64 a0_0, .int .i64 a0_1, .int .i64 a0_2, .int .i64 a0_3]) (t := 59) ?hr ?_; (case hd => rfl); (case hg => rfl); (case hr => first | (go_simp; done) | (go_simp; rfl)); intro gb114 hg w15 hbox hb; have n0_ := Aside0.mk (below_step (by repeat (first | (with_reducible first | exact HB.out | apply below_alloc | apply pw_below_drewN | apply below_drew1) | exact HB.out)) hb); have n1_ := Aside0.mk (hbox); have n2_ := Aside0.mk ((by rw [hg]; exact (below_size (by repeat (first | (with_reducible first | exact HB.out | apply below_alloc | apply pw_below_drewN | apply below_drew1) | exact HB.out))) : w.heap.size ≤ gb114)); have n3_ := Aside0.mk ((by rw [hg]; exact (below_size (by repeat (first | (with_reducible first | exact HB.out | apply below_alloc | apply pw_below_drewN | apply below_drew1) | exact HB.out))) : w.heap.size ≤ gb114)); clear HB; have HB := n0_; have BK114 := n1_; have GW114 := n2_; have GE114 := n3_; clear n0_ n1_ n2_ n3_; clear hb hbox hg; have hcz16_0 : w15.cell? ⟨gb114, 0, none⟩ = some (.int .i64 a0_0) := (blk_cell BK114.out 0).trans rfl; have hcz16_1 : w15.cell? ⟨gb114, 1, none⟩ = some (.int .i64 a0_1) := (blk_cell BK114.out 1).trans rfl; have hcz16_2 : w15.cell? ⟨gb114, 2, none⟩ = some (.int .i64 a0_2) := (blk_cell BK114.out 2).trans rfl; have hcz16_3 : w15.cell? ⟨gb114, 3, none⟩ = some (.int .i64 a0_3) := (blk_cell BK114.out 3).trans rfl; have hfz16_0 := blk_frozen BK114.out 0; have hfz16_1 := blk_frozen BK114.out 1; have hfz16_2 := blk_frozen BK114.out 2; have hfz16_3 := blk_frozen BK114.out 3) | ((with_reducible refine gate_callee (f := 80) rfl ?_); refine goesL_ (some 5) rfl rfl Try.func80 (by kernel_rfl) rfl #[.int .i64 a0_2, .int .i64 1073741824] rfl (by (try simp only [List.map_toArray, List.map_cons, List.map_nil]); first | done | rfl | (simp only [List.length_drop, List.length_take]; rfl)) ?_; (with_reducible refine (purse_within.calls a0_2 1073741824 false _ A2.out).mono ?_); rintro e w' ⟨rfl, ⟨nd, rfl⟩⟩; refine ⟨_, rfl, ?_⟩))
    go_ret
    exact ⟨by first | rfl | (simp [errW_none, errW_some] <;> rfl) | (simp [*, errW_none, errW_some] <;> rfl), by repeat (first | (with_reducible first | exact HB.out | apply below_alloc | apply pw_below_drewN | apply below_drew1 | refine below_set ?_ GE114.out) | exact HB.out)⟩
noncomputable def bivouacref19_Part.f (a0_0 : Int) (a0_1 : Int) (a1 : Int) : Option (Int × Int) := some (wrap64 (Int.tdiv (wrap64 (a0_0 * a1)) 65536), wrap64 (Int.tdiv (wrap64 (a0_1 * a1)) 65536))
set_option maxHeartbeats 8000000 in
set_option maxRecDepth 100000 in
theorem bivouacref19_Part.calls (a0_0 : Int) (a0_1 : Int) (a1 : Int) (r1 : Int) (r2 : Int) (w : World) (h : bivouacref19_Part.f a0_0 a0_1 a1 = some (r1, r2)) :
    Calls Try.prog 57 #[.agg #[.int .i64 a0_0, .int .i64 a0_1], .int .i64 a1] w fun e w' => e = .returned (.agg #[.int .i64 r1, .int .i64 r2]) ∧ Below w.heap.size w w' := by
  have hu48 := Try.underlying48
  have HB := Aside0.mk (Below.refl w.heap.size w)
  have H : (some (wrap64 (Int.tdiv (wrap64 (a0_0 * a1)) 65536), wrap64 (Int.tdiv (wrap64 (a0_1 * a1)) 65536))) = some (r1, r2) := h
  clear h
  simp only [Option.some.injEq, Prod.mk.injEq] at H
  obtain ⟨rfl, rfl⟩ := H
  go_enter Try.func57, Try.ntmps57
  go_wp2_with (first | ((with_reducible refine gate_dst (N := 2) rfl ?_); refine box_event ?hg (N := 2) ?hd (cs := #[.int .i64 a0_0, .int .i64 a0_1]) (t := 48) ?hr ?_; (case hd => rfl); (case hg => rfl); (case hr => first | (go_simp; done) | (go_simp; rfl)); intro gb136 hg w3 hbox hb; have n0_ := Aside0.mk (below_step (by repeat (first | (with_reducible first | exact HB.out | apply below_alloc | apply pw_below_drewN | apply below_drew1) | exact HB.out)) hb); have n1_ := Aside0.mk (hbox); have n2_ := Aside0.mk ((by rw [hg]; exact (below_size (by repeat (first | (with_reducible first | exact HB.out | apply below_alloc | apply pw_below_drewN | apply below_drew1) | exact HB.out))) : w.heap.size ≤ gb136)); have n3_ := Aside0.mk ((by rw [hg]; exact (below_size (by repeat (first | (with_reducible first | exact HB.out | apply below_alloc | apply pw_below_drewN | apply below_drew1) | exact HB.out))) : w.heap.size ≤ gb136)); clear HB; have HB := n0_; have BK136 := n1_; have GW136 := n2_; have GE136 := n3_; clear n0_ n1_ n2_ n3_; clear hb hbox hg) | ((with_reducible refine gate_dst (N := 4) rfl ?_); refine box_event ?hg (N := 4) ?hd (cs := #[.int .i64 0, .int .i64 0]) (t := 48) ?hr ?_; (case hd => rfl); (case hg => rfl); (case hr => first | (go_simp; done) | (go_simp; rfl)); intro gb137 hg w4 hbox hb; have n0_ := Aside0.mk (blk_below (g := gb136) (o := .cells #[.int .i64 a0_0, .int .i64 a0_1] 48 (0, 0)) (by (with_reducible repeat (first | refine blk_drewN ?_ _ | refine blk_drew ?_ | refine blk_alloc ?_ _)); exact BK136.out) hb); have n1_ := Aside0.mk (below_step (by repeat (first | (with_reducible first | exact HB.out | apply below_alloc | apply pw_below_drewN | apply below_drew1 | refine below_set ?_ GE136.out) | exact HB.out)) hb); have n2_ := Aside0.mk (hbox); have n3_ := Aside0.mk ((by rw [hg]; exact (below_size (by repeat (first | (with_reducible first | exact HB.out | apply below_alloc | apply pw_below_drewN | apply below_drew1 | refine below_set ?_ GE136.out) | exact HB.out))) : w.heap.size ≤ gb137)); have n4_ := Aside0.mk ((by rw [hg]; exact (below_size (by repeat (first | (with_reducible first | exact HB.out | apply below_alloc | apply pw_below_drewN | apply below_drew1 | refine below_set ?_ GE136.out) | exact HB.out))) : w.heap.size ≤ gb137)); have n5_ := Aside0.mk ((by rw [hg]; exact Nat.ne_of_lt (blk_lt (g := gb136) (o := .cells #[.int .i64 a0_0, .int .i64 a0_1] 48 (0, 0)) (by (with_reducible repeat (first | refine blk_drewN ?_ _ | refine blk_drew ?_ | refine blk_alloc ?_ _)); exact BK136.out)) : gb136 ≠ gb137)); have n6_ := Aside0.mk ((by rw [hg]; exact Nat.ne_of_gt (blk_lt (g := gb136) (o := .cells #[.int .i64 a0_0, .int .i64 a0_1] 48 (0, 0)) (by (with_reducible repeat (first | refine blk_drewN ?_ _ | refine blk_drew ?_ | refine blk_alloc ?_ _)); exact BK136.out)) : gb137 ≠ gb136)); clear BK136; clear HB; have BK136 := n0_; have HB := n1_; have BK137 := n2_; have GW137 := n3_; have GE137 := n4_; have NB136_137 := n5_; have NB137_136 := n6_; clear n0_ n1_ n2_ n3_ n4_ n5_ n6_; clear hb hbox hg; have hnb5 := NB136_137.out; have hnc5 := NB137_136.out; have hcz6_0 : w4.cell? ⟨gb136, 0, none⟩ = some (.int .i64 a0_0) := (blk_cell BK136.out 0).trans rfl; have hcz6_1 : w4.cell? ⟨gb136, 1, none⟩ = some (.int .i64 a0_1) := (blk_cell BK136.out 1).trans rfl; have hfz6_0 := blk_frozen BK136.out 0; have hfz6_1 := blk_frozen BK136.out 1; have hcz7_0 : w4.cell? ⟨gb137, 0, none⟩ = some (.int .i64 0) := (blk_cell BK137.out 0).trans rfl; have hcz7_1 : w4.cell? ⟨gb137, 1, none⟩ = some (.int .i64 0) := (blk_cell BK137.out 1).trans rfl; have hfz7_0 := blk_frozen BK137.out 0; have hfz7_1 := blk_frozen BK137.out 1))
  refine bodyPost_ret (results_cell_row rfl _ _ gb137 48 #[.int .i64 (wrap64 (Int.tdiv (wrap64 (a0_0 * a1)) 65536)), .int .i64 (wrap64 (Int.tdiv (wrap64 (a0_1 * a1)) 65536))] (0, 0) _ rfl (by (with_reducible repeat (first | refine blk_drewN ?_ _ | refine blk_drew ?_ | refine blk_alloc ?_ _)); refine blk_put (cs := #[.int .i64 (wrap64 (Int.tdiv (wrap64 (a0_0 * a1)) 65536)), .int .i64 0]) ?_ 1 _ rfl; (with_reducible repeat (first | refine blk_drewN ?_ _ | refine blk_drew ?_ | refine blk_alloc ?_ _)); refine blk_put (cs := #[.int .i64 0, .int .i64 0]) ?_ 0 _ rfl; (with_reducible repeat (first | refine blk_drewN ?_ _ | refine blk_drew ?_ | refine blk_alloc ?_ _)); exact BK137.out) Try.underlying48 rfl (by kernel_rfl)) rfl ?_
  exact ⟨by first | rfl | (simp [errW_none, errW_some] <;> rfl) | (simp [*, errW_none, errW_some] <;> rfl), by repeat (first | (with_reducible first | exact HB.out | apply below_alloc | apply pw_below_drewN | apply below_drew1 | refine below_set ?_ GE136.out | refine below_set ?_ GE137.out) | exact HB.out)⟩
noncomputable def bivouaclaw19_few.f (l0 : List (S48)) : Option ((List (S48))) := if (l0.length : Int) > 66 then (if 66 ≤ (l0.length : Int) then (some (l0.take 66)) else (none)) else (some l0)
set_option maxHeartbeats 8000000 in
set_option maxRecDepth 100000 in
theorem bivouaclaw19_few.calls (P0_ : Nat → Prop) (A0 : Option Addr) (c0 : Nat) (l0 : List (S48)) (r : List (S48)) (w : World) (hs0 : Kd.V k48 48 w w.heap.size (fun k_ => P0_ k_) (.slice A0 l0.length c0) l0) (h : bivouaclaw19_few.f l0 = some r) :
    Calls Try.prog 58 #[.slice A0 l0.length c0] w fun e w' => ∃ v0_ : Value, e = .returned (v0_) ∧ Kd.V k48 48 w' w.heap.size (fun k_ => (P0_ k_ ∨ w.heap.size ≤ k_)) v0_ r ∧ Below w.heap.size w w' := by
  have HO0 := Aside0.mk (show Kd.V k48 48 w w.heap.size (fun k_ => (P0_ k_ ∨ w.heap.size ≤ k_)) (.slice A0 l0.length c0) l0 from Kd.V_mono hs0 (fun k_ hk => .inl hk))
  have HB := Aside0.mk (Below.refl w.heap.size w)
  have H : (if (l0.length : Int) > 66 then (if 66 ≤ (l0.length : Int) then (some (l0.take 66)) else (none)) else (some l0)) = some r := h
  clear h
  by_cases c2 : (l0.length : Int) > 66
  · rw [if_pos c2] at H
    have c2b0 : decide (66 < (l0.length : Int)) = true := decide_eq_true c2
    have c2b1 : decide (66 < l0.length) = true := decide_eq_true (by omega)
    clear c2
    by_cases c3 : 66 ≤ (l0.length : Int)
    · rw [if_pos c3] at H
      have c3b0 := eq_true c3
      have c3b1 : decide (66 ≤ (l0.length : Int)) = true := decide_eq_true c3
      clear c3
      obtain ⟨y148, hy148⟩ : ∃ y_ : List (S48), y_ = (l0.take 66) := ⟨_, rfl⟩
      replace H : (some y148) = some r := by first | (rw [hy148]; with_reducible exact H) | (have H2_ := (Option.bind_some _ _).symm.trans H; rw [hy148]; with_reducible exact H2_) | (have H2_ := (Option.bind_some _ _).symm.trans H; with_reducible exact H2_) | with_reducible exact H | (rw [hy148]; exact H) | exact H
      have Ny148 := Aside0.mk hy148
      clear hy148
      obtain rfl := Option.some.inj H
      have q4 : (66 : Int) ≤ ((l0.length : Int) : Int) := of_decide_eq_true (by first | (with_reducible assumption) | assumption)
      obtain ⟨i04, hi04, _, hsz4, _⟩ := info_parts info48
      have hroom4 : l0.length ≤ c0 := (Kd.V_reads' HO0.out).2.1
      have hC4 : Kd.F k48 _ _ A0 l0.length l0 := (Kd.V_at (base := w.heap.size) HO0.out).2.2
      have hcut4 := cut_to (P := Try.prog) 60 48 .i64 Try.underlying60 hi04 A0 l0.length c0 66 (by omega) q4 hroom4
      have hr4 := Kd.F_take (m := 66) hC4 (by omega)
      have hy4 : y148.length = (66 : Int).toNat := (by rw [Ny148.out, List.length_take]; omega)
      rw [← Ny148.out] at hr4
      rw [← hy4] at hcut4
      have HO152 := Aside0.mk (show Kd.V k48 48 _ w.heap.size _ (.slice A0 y148.length c0) y148 from Kd.V_mk (by omega) hr4)
      have HC152 := Aside0.mk (show y148.length ≤ c0 from by omega)
      clear hr4 hC4 hroom4 hi04 hsz4
      have KY4 := Aside0.mk hy4
      clear hy4
      replace q4 := eq_true q4
      go_enter Try.func58, Try.ntmps58
      go_wp2
      go_ret
      exact ⟨_, by first | rfl | (simp [errW_none, errW_some] <;> rfl) | (simp [*, errW_none, errW_some] <;> rfl), by (with_reducible repeat (first | apply Kd.V_alloc | apply Kd.V_drewN | apply Kd.V_drew)); exact HO152.out, by repeat (first | (with_reducible first | exact HB.out | apply below_alloc | apply pw_below_drewN | apply below_drew1) | exact HB.out)⟩
    · rw [if_neg c3] at H
      exact absurd H (by simp)
  · rw [if_neg c2] at H
    have c2b0 : decide (66 < (l0.length : Int)) = false := decide_eq_false c2
    have c2b1 : decide (66 < l0.length) = false := decide_eq_false (by omega)
    clear c2
    obtain rfl := Option.some.inj H
    go_enter Try.func58, Try.ntmps58
    go_wp2
    go_ret
    exact ⟨_, by first | rfl | (simp [errW_none, errW_some] <;> rfl) | (simp [*, errW_none, errW_some] <;> rfl), by (with_reducible repeat (first | apply Kd.V_alloc | apply Kd.V_drewN | apply Kd.V_drew)); exact HO0.out, by repeat (first | (with_reducible first | exact HB.out | apply below_alloc | apply pw_below_drewN | apply below_drew1) | exact HB.out)⟩
noncomputable def bivouacref19_May.f (a0_0 : Int) (a0_1 : Int) (a0_2 : Int) (a0_3 : Int) : Option (Bool) := (bivouacref19_in.f a0_2 1073741824).bind fun t154 => (if t154 = true then ((bivouacref19_in.f a0_3 1073741824).bind fun t155 => (if t155 = true then ((bivouacref19_in.f a0_0 a0_2).bind fun t156 => (if t156 = true then ((bivouacref19_in.f a0_1 a0_3).bind fun t157 => (some t157)) else (some false))) else (some false))) else (some false))
set_option maxHeartbeats 8000000 in
set_option maxRecDepth 100000 in
theorem bivouacref19_May.calls (a0_0 : Int) (a0_1 : Int) (a0_2 : Int) (a0_3 : Int) (r : Bool) (w : World) (h : bivouacref19_May.f a0_0 a0_1 a0_2 a0_3 = some r) :
    Calls Try.prog 61 #[.agg #[.int .i64 a0_0, .int .i64 a0_1, .int .i64 a0_2, .int .i64 a0_3]] w fun e w' => e = .returned (.bool r) ∧ Below w.heap.size w w' := by
  have hu59 := Try.underlying59
  have HB := Aside0.mk (Below.refl w.heap.size w)
  have H : ((bivouacref19_in.f a0_2 1073741824).bind fun t154 => (if t154 = true then ((bivouacref19_in.f a0_3 1073741824).bind fun t155 => (if t155 = true then ((bivouacref19_in.f a0_0 a0_2).bind fun t156 => (if t156 = true then ((bivouacref19_in.f a0_1 a0_3).bind fun t157 => (some t157)) else (some false))) else (some false))) else (some false))) = some r := h
  clear h
  replace H := Option.bind_eq_some_iff.mp H
  obtain ⟨t154, A20, H⟩ := H
  replace H : (if t154 = true then ((bivouacref19_in.f a0_3 1073741824).bind fun t155 => (if t155 = true then ((bivouacref19_in.f a0_0 a0_2).bind fun t156 => (if t156 = true then ((bivouacref19_in.f a0_1 a0_3).bind fun t157 => (some t157)) else (some false))) else (some false))) else (some false)) = some r := H
  have A2 := Aside0.mk A20
  clear A20
  by_cases c3 : t154 = true
  · subst c3
    have H1 : ((bivouacref19_in.f a0_3 1073741824).bind fun t155 => (if t155 = true then ((bivouacref19_in.f a0_0 a0_2).bind fun t156 => (if t156 = true then ((bivouacref19_in.f a0_1 a0_3).bind fun t157 => (some t157)) else (some false))) else (some false))) = some r := by rw [if_pos rfl] at H; exact H
    clear H
    have H := H1
    clear H1
    replace H := Option.bind_eq_some_iff.mp H
    obtain ⟨t155, A40, H⟩ := H
    replace H : (if t155 = true then ((bivouacref19_in.f a0_0 a0_2).bind fun t156 => (if t156 = true then ((bivouacref19_in.f a0_1 a0_3).bind fun t157 => (some t157)) else (some false))) else (some false)) = some r := H
    have A4 := Aside0.mk A40
    clear A40
    by_cases c5 : t155 = true
    · subst c5
      have H1 : ((bivouacref19_in.f a0_0 a0_2).bind fun t156 => (if t156 = true then ((bivouacref19_in.f a0_1 a0_3).bind fun t157 => (some t157)) else (some false))) = some r := by rw [if_pos rfl] at H; exact H
      clear H
      have H := H1
      clear H1
      replace H := Option.bind_eq_some_iff.mp H
      obtain ⟨t156, A60, H⟩ := H
      replace H : (if t156 = true then ((bivouacref19_in.f a0_1 a0_3).bind fun t157 => (some t157)) else (some false)) = some r := H
      have A6 := Aside0.mk A60
      clear A60
      by_cases c7 : t156 = true
      · subst c7
        have H1 : ((bivouacref19_in.f a0_1 a0_3).bind fun t157 => (some t157)) = some r := by rw [if_pos rfl] at H; exact H
        clear H
        have H := H1
        clear H1
        replace H := Option.bind_eq_some_iff.mp H
        obtain ⟨t157, A80, H⟩ := H
        replace H : (some t157) = some r := H
        have A8 := Aside0.mk A80
        clear A80
        obtain rfl := Option.some.inj H
        go_enter Try.func61, Try.ntmps61
        go_wp2_with (first | ((with_reducible refine gate_dst (N := 1) rfl ?_); refine box_event ?hg (N := 1) ?hd (cs := #[.int .i64 a0_0, .int .i64 a0_1, .int .i64 a0_2, .int .i64 a0_3]) (t := 59) ?hr ?_; (case hd => rfl); (case hg => rfl); (case hr => first | (go_simp; done) | (go_simp; rfl)); intro gb153 hg w9 hbox hb; have n0_ := Aside0.mk (below_step (by repeat (first | (with_reducible first | exact HB.out | apply below_alloc | apply pw_below_drewN | apply below_drew1) | exact HB.out)) hb); have n1_ := Aside0.mk (hbox); have n2_ := Aside0.mk ((by rw [hg]; exact (below_size (by repeat (first | (with_reducible first | exact HB.out | apply below_alloc | apply pw_below_drewN | apply below_drew1) | exact HB.out))) : w.heap.size ≤ gb153)); have n3_ := Aside0.mk ((by rw [hg]; exact (below_size (by repeat (first | (with_reducible first | exact HB.out | apply below_alloc | apply pw_below_drewN | apply below_drew1) | exact HB.out))) : w.heap.size ≤ gb153)); clear HB; have HB := n0_; have BK153 := n1_; have GW153 := n2_; have GE153 := n3_; clear n0_ n1_ n2_ n3_; clear hb hbox hg; have hcz10_0 : w9.cell? ⟨gb153, 0, none⟩ = some (.int .i64 a0_0) := (blk_cell BK153.out 0).trans rfl; have hcz10_1 : w9.cell? ⟨gb153, 1, none⟩ = some (.int .i64 a0_1) := (blk_cell BK153.out 1).trans rfl; have hcz10_2 : w9.cell? ⟨gb153, 2, none⟩ = some (.int .i64 a0_2) := (blk_cell BK153.out 2).trans rfl; have hcz10_3 : w9.cell? ⟨gb153, 3, none⟩ = some (.int .i64 a0_3) := (blk_cell BK153.out 3).trans rfl; have hfz10_0 := blk_frozen BK153.out 0; have hfz10_1 := blk_frozen BK153.out 1; have hfz10_2 := blk_frozen BK153.out 2; have hfz10_3 := blk_frozen BK153.out 3) | ((with_reducible refine gate_callee (f := 82) rfl ?_); refine goesL_ (some 5) rfl rfl Try.func82 (by kernel_rfl) rfl #[.int .i64 a0_2, .int .i64 1073741824] rfl (by (try simp only [List.map_toArray, List.map_cons, List.map_nil]); first | done | rfl | (simp only [List.length_drop, List.length_take]; rfl)) ?_; (with_reducible refine (bivouacref19_in.calls a0_2 1073741824 true _ A2.out).mono ?_); rintro e w' ⟨rfl, ⟨nd, rfl⟩⟩; refine ⟨_, rfl, ?_⟩) | (go_at_call 82; (with_reducible refine (bivouacref19_in.calls a0_3 1073741824 true _ A4.out).mono ?_); rintro e w' ⟨rfl, ⟨nd, rfl⟩⟩) | (go_at_call 82; (with_reducible refine (bivouacref19_in.calls a0_0 a0_2 true _ A6.out).mono ?_); rintro e w' ⟨rfl, ⟨nd, rfl⟩⟩) | (go_at_call 82; (with_reducible refine (bivouacref19_in.calls a0_1 a0_3 t157 _ A8.out).mono ?_); rintro e w' ⟨rfl, ⟨nd, rfl⟩⟩))
        go_ret
        exact ⟨by first | rfl | (simp [errW_none, errW_some] <;> rfl) | (simp [*, errW_none, errW_some] <;> rfl), by repeat (first | (with_reducible first | exact HB.out | apply below_alloc | apply pw_below_drewN | apply below_drew1 | refine below_set ?_ GE153.out) | exact HB.out)⟩
      · replace c7 := Bool.eq_false_iff.mpr c7
        subst c7
        have H1 : (some false) = some r := by rw [if_neg (show ¬ (false = true) by decide)] at H; exact H
        clear H
        have H := H1
        clear H1
        obtain rfl := Option.some.inj H
        go_enter Try.func61, Try.ntmps61
        go_wp2_with (first | ((with_reducible refine gate_dst (N := 1) rfl ?_); refine box_event ?hg (N := 1) ?hd (cs := #[.int .i64 a0_0, .int .i64 a0_1, .int .i64 a0_2, .int .i64 a0_3]) (t := 59) ?hr ?_; (case hd => rfl); (case hg => rfl); (case hr => first | (go_simp; done) | (go_simp; rfl)); intro gb153 hg w11 hbox hb; have n0_ := Aside0.mk (below_step (by repeat (first | (with_reducible first | exact HB.out | apply below_alloc | apply pw_below_drewN | apply below_drew1) | exact HB.out)) hb); have n1_ := Aside0.mk (hbox); have n2_ := Aside0.mk ((by rw [hg]; exact (below_size (by repeat (first | (with_reducible first | exact HB.out | apply below_alloc | apply pw_below_drewN | apply below_drew1) | exact HB.out))) : w.heap.size ≤ gb153)); have n3_ := Aside0.mk ((by rw [hg]; exact (below_size (by repeat (first | (with_reducible first | exact HB.out | apply below_alloc | apply pw_below_drewN | apply below_drew1) | exact HB.out))) : w.heap.size ≤ gb153)); clear HB; have HB := n0_; have BK153 := n1_; have GW153 := n2_; have GE153 := n3_; clear n0_ n1_ n2_ n3_; clear hb hbox hg; have hcz12_0 : w11.cell? ⟨gb153, 0, none⟩ = some (.int .i64 a0_0) := (blk_cell BK153.out 0).trans rfl; have hcz12_1 : w11.cell? ⟨gb153, 1, none⟩ = some (.int .i64 a0_1) := (blk_cell BK153.out 1).trans rfl; have hcz12_2 : w11.cell? ⟨gb153, 2, none⟩ = some (.int .i64 a0_2) := (blk_cell BK153.out 2).trans rfl; have hcz12_3 : w11.cell? ⟨gb153, 3, none⟩ = some (.int .i64 a0_3) := (blk_cell BK153.out 3).trans rfl; have hfz12_0 := blk_frozen BK153.out 0; have hfz12_1 := blk_frozen BK153.out 1; have hfz12_2 := blk_frozen BK153.out 2; have hfz12_3 := blk_frozen BK153.out 3) | ((with_reducible refine gate_callee (f := 82) rfl ?_); refine goesL_ (some 5) rfl rfl Try.func82 (by kernel_rfl) rfl #[.int .i64 a0_2, .int .i64 1073741824] rfl (by (try simp only [List.map_toArray, List.map_cons, List.map_nil]); first | done | rfl | (simp only [List.length_drop, List.length_take]; rfl)) ?_; (with_reducible refine (bivouacref19_in.calls a0_2 1073741824 true _ A2.out).mono ?_); rintro e w' ⟨rfl, ⟨nd, rfl⟩⟩; refine ⟨_, rfl, ?_⟩) | (go_at_call 82; (with_reducible refine (bivouacref19_in.calls a0_3 1073741824 true _ A4.out).mono ?_); rintro e w' ⟨rfl, ⟨nd, rfl⟩⟩) | (go_at_call 82; (with_reducible refine (bivouacref19_in.calls a0_0 a0_2 false _ A6.out).mono ?_); rintro e w' ⟨rfl, ⟨nd, rfl⟩⟩))
        go_ret
        exact ⟨by first | rfl | (simp [errW_none, errW_some] <;> rfl) | (simp [*, errW_none, errW_some] <;> rfl), by repeat (first | (with_reducible first | exact HB.out | apply below_alloc | apply pw_below_drewN | apply below_drew1 | refine below_set ?_ GE153.out) | exact HB.out)⟩
    · replace c5 := Bool.eq_false_iff.mpr c5
      subst c5
      have H1 : (some false) = some r := by rw [if_neg (show ¬ (false = true) by decide)] at H; exact H
      clear H
      have H := H1
      clear H1
      obtain rfl := Option.some.inj H
      go_enter Try.func61, Try.ntmps61
      go_wp2_with (first | ((with_reducible refine gate_dst (N := 1) rfl ?_); refine box_event ?hg (N := 1) ?hd (cs := #[.int .i64 a0_0, .int .i64 a0_1, .int .i64 a0_2, .int .i64 a0_3]) (t := 59) ?hr ?_; (case hd => rfl); (case hg => rfl); (case hr => first | (go_simp; done) | (go_simp; rfl)); intro gb153 hg w13 hbox hb; have n0_ := Aside0.mk (below_step (by repeat (first | (with_reducible first | exact HB.out | apply below_alloc | apply pw_below_drewN | apply below_drew1) | exact HB.out)) hb); have n1_ := Aside0.mk (hbox); have n2_ := Aside0.mk ((by rw [hg]; exact (below_size (by repeat (first | (with_reducible first | exact HB.out | apply below_alloc | apply pw_below_drewN | apply below_drew1) | exact HB.out))) : w.heap.size ≤ gb153)); have n3_ := Aside0.mk ((by rw [hg]; exact (below_size (by repeat (first | (with_reducible first | exact HB.out | apply below_alloc | apply pw_below_drewN | apply below_drew1) | exact HB.out))) : w.heap.size ≤ gb153)); clear HB; have HB := n0_; have BK153 := n1_; have GW153 := n2_; have GE153 := n3_; clear n0_ n1_ n2_ n3_; clear hb hbox hg; have hcz14_0 : w13.cell? ⟨gb153, 0, none⟩ = some (.int .i64 a0_0) := (blk_cell BK153.out 0).trans rfl; have hcz14_1 : w13.cell? ⟨gb153, 1, none⟩ = some (.int .i64 a0_1) := (blk_cell BK153.out 1).trans rfl; have hcz14_2 : w13.cell? ⟨gb153, 2, none⟩ = some (.int .i64 a0_2) := (blk_cell BK153.out 2).trans rfl; have hcz14_3 : w13.cell? ⟨gb153, 3, none⟩ = some (.int .i64 a0_3) := (blk_cell BK153.out 3).trans rfl; have hfz14_0 := blk_frozen BK153.out 0; have hfz14_1 := blk_frozen BK153.out 1; have hfz14_2 := blk_frozen BK153.out 2; have hfz14_3 := blk_frozen BK153.out 3) | ((with_reducible refine gate_callee (f := 82) rfl ?_); refine goesL_ (some 5) rfl rfl Try.func82 (by kernel_rfl) rfl #[.int .i64 a0_2, .int .i64 1073741824] rfl (by (try simp only [List.map_toArray, List.map_cons, List.map_nil]); first | done | rfl | (simp only [List.length_drop, List.length_take]; rfl)) ?_; (with_reducible refine (bivouacref19_in.calls a0_2 1073741824 true _ A2.out).mono ?_); rintro e w' ⟨rfl, ⟨nd, rfl⟩⟩; refine ⟨_, rfl, ?_⟩) | (go_at_call 82; (with_reducible refine (bivouacref19_in.calls a0_3 1073741824 false _ A4.out).mono ?_); rintro e w' ⟨rfl, ⟨nd, rfl⟩⟩))
      go_ret
      exact ⟨by first | rfl | (simp [errW_none, errW_some] <;> rfl) | (simp [*, errW_none, errW_some] <;> rfl), by repeat (first | (with_reducible first | exact HB.out | apply below_alloc | apply pw_below_drewN | apply below_drew1 | refine below_set ?_ GE153.out) | exact HB.out)⟩
  · replace c3 := Bool.eq_false_iff.mpr c3
    subst c3
    have H1 : (some false) = some r := by rw [if_neg (show ¬ (false = true) by decide)] at H; exact H
    clear H
    have H := H1
    clear H1
    obtain rfl := Option.some.inj H
    go_enter Try.func61, Try.ntmps61
    go_wp2_with (first | ((with_reducible refine gate_dst (N := 1) rfl ?_); refine box_event ?hg (N := 1) ?hd (cs := #[.int .i64 a0_0, .int .i64 a0_1, .int .i64 a0_2, .int .i64 a0_3]) (t := 59) ?hr ?_; (case hd => rfl); (case hg => rfl); (case hr => first | (go_simp; done) | (go_simp; rfl)); intro gb153 hg w15 hbox hb; have n0_ := Aside0.mk (below_step (by repeat (first | (with_reducible first | exact HB.out | apply below_alloc | apply pw_below_drewN | apply below_drew1) | exact HB.out)) hb); have n1_ := Aside0.mk (hbox); have n2_ := Aside0.mk ((by rw [hg]; exact (below_size (by repeat (first | (with_reducible first | exact HB.out | apply below_alloc | apply pw_below_drewN | apply below_drew1) | exact HB.out))) : w.heap.size ≤ gb153)); have n3_ := Aside0.mk ((by rw [hg]; exact (below_size (by repeat (first | (with_reducible first | exact HB.out | apply below_alloc | apply pw_below_drewN | apply below_drew1) | exact HB.out))) : w.heap.size ≤ gb153)); clear HB; have HB := n0_; have BK153 := n1_; have GW153 := n2_; have GE153 := n3_; clear n0_ n1_ n2_ n3_; clear hb hbox hg; have hcz16_0 : w15.cell? ⟨gb153, 0, none⟩ = some (.int .i64 a0_0) := (blk_cell BK153.out 0).trans rfl; have hcz16_1 : w15.cell? ⟨gb153, 1, none⟩ = some (.int .i64 a0_1) := (blk_cell BK153.out 1).trans rfl; have hcz16_2 : w15.cell? ⟨gb153, 2, none⟩ = some (.int .i64 a0_2) := (blk_cell BK153.out 2).trans rfl; have hcz16_3 : w15.cell? ⟨gb153, 3, none⟩ = some (.int .i64 a0_3) := (blk_cell BK153.out 3).trans rfl; have hfz16_0 := blk_frozen BK153.out 0; have hfz16_1 := blk_frozen BK153.out 1; have hfz16_2 := blk_frozen BK153.out 2; have hfz16_3 := blk_frozen BK153.out 3) | ((with_reducible refine gate_callee (f := 82) rfl ?_); refine goesL_ (some 5) rfl rfl Try.func82 (by kernel_rfl) rfl #[.int .i64 a0_2, .int .i64 1073741824] rfl (by (try simp only [List.map_toArray, List.map_cons, List.map_nil]); first | done | rfl | (simp only [List.length_drop, List.length_take]; rfl)) ?_; (with_reducible refine (bivouacref19_in.calls a0_2 1073741824 false _ A2.out).mono ?_); rintro e w' ⟨rfl, ⟨nd, rfl⟩⟩; refine ⟨_, rfl, ?_⟩))
    go_ret
    exact ⟨by first | rfl | (simp [errW_none, errW_some] <;> rfl) | (simp [*, errW_none, errW_some] <;> rfl), by repeat (first | (with_reducible first | exact HB.out | apply below_alloc | apply pw_below_drewN | apply below_drew1 | refine below_set ?_ GE153.out) | exact HB.out)⟩
noncomputable def bivouaclaw19_may.l0 : Nat → List (S48) → Int → Option (Bool)
  | 0, _, _ => none
  | k + 1, x0, x3 => if x3 < (x0.length : Int) then (if 0 ≤ x3 then ((bivouacref19_Wish.f ((rd_T48 x0 x3).f0) ((rd_T48 x0 x3).f1)).bind fun t159 => (if t159 = true then (bivouaclaw19_may.l0 k x0 (wrap64 (x3 + 1))) else (some false))) else (none)) else (some (decide ((x0.length : Int) ≤ 64)))
noncomputable def bivouaclaw19_may.f (k : Nat) (l0 : List (S48)) : Option (Bool) := bivouaclaw19_may.l0 k l0 0
theorem bivouaclaw19_may.mono_l : ∀ k, (∀ y0 y1, LeO (bivouaclaw19_may.l0 k y0 y1) (bivouaclaw19_may.l0 (k + 1) y0 y1))
  | 0 => fun _ _ r h => by simp [bivouaclaw19_may.l0] at h
  | k + 1 => by
    have ih0 := bivouaclaw19_may.mono_l k
    · intro y0 y1
      unfold bivouaclaw19_may.l0
      repeat' first
      | (with_reducible exact ih0 _ _)
      | (with_reducible exact LeO.refl _)
      | (with_reducible exact LeO.none _)
      | (with_reducible refine LeO.ite ?_ ?_)
      | (with_reducible refine LeO.bind ?_ (fun _ => ?_))
      | exact ih0 _ _
      | exact LeO.none _
      | refine LeO.ite ?_ ?_
      | refine LeO.bind ?_ (fun _ => ?_)
theorem bivouaclaw19_may.mono : ∀ a0 k, LeO (bivouaclaw19_may.f k a0) (bivouaclaw19_may.f (k + 1) a0) := by
  intro a0 k
  have ih0 := bivouaclaw19_may.mono_l k
  unfold bivouaclaw19_may.f
  repeat' first
      | (with_reducible exact ih0 _ _)
      | (with_reducible exact LeO.refl _)
      | (with_reducible exact LeO.none _)
      | (with_reducible refine LeO.ite ?_ ?_)
      | (with_reducible refine LeO.bind ?_ (fun _ => ?_))
      | exact ih0 _ _
      | exact LeO.none _
      | refine LeO.ite ?_ ?_
      | refine LeO.bind ?_ (fun _ => ?_)
set_option maxHeartbeats 8000000 in
set_option maxRecDepth 100000 in
theorem bivouaclaw19_may.calls (k : Nat) (A0 : Option Addr) (c0 : Nat) (l0 : List (S48)) (r : Bool) (w : World) (hr0 : Kd.C k48 w A0 l0.length l0) (hc0 : l0.length ≤ c0) (h : bivouaclaw19_may.f k l0 = some r) :
    Calls Try.prog 62 #[.slice A0 l0.length c0] w fun e w' => e = .returned (.bool r) ∧ Below w.heap.size w w' := by
  have hu48 := Try.underlying48
  have HR0 := Aside0.mk hr0
  have HC0 := Aside0.mk hc0
  clear hr0 hc0
  have HB := Aside0.mk (Below.refl w.heap.size w)
  have H : (bivouaclaw19_may.l0 k l0 0) = some r := h
  clear h
  have H' := Aside0.mk H
  clear H
  go_enter Try.func62, Try.ntmps62
  go_wp2
  go_loopg [3] k (fun kq v3 w' => ∃ (x3_1 : Int), v3 = .int .i64 x3_1 ∧ Aside0 (bivouaclaw19_may.l0 kq l0 x3_1 = some r) ∧ Aside0 (kq ≤ k) ∧ Aside0 (Below w.heap.size w w'))
  case atStart => exact ⟨(0), (by first | rfl | (simp; done) | (simp [*]; done)), H', ⟨Nat.le_refl _⟩, ⟨by repeat (first | (with_reducible first | exact HB.out | apply below_alloc | apply pw_below_drewN | apply below_drew1) | exact HB.out)⟩⟩
  case round =>
    clear H'
    obtain ⟨x3_1, rfl, HA, HK1, HB⟩ := hrel
    cases gk with
    | zero => exact absurd HA.out (by simp [bivouaclaw19_may.l0])
    | succ k1 =>
      have H := HA.out
      clear HA
      simp only [bivouaclaw19_may.l0] at H
      by_cases c2 : x3_1 < (l0.length : Int)
      · rw [if_pos c2] at H
        have c2b0 : decide (x3_1 < (l0.length : Int)) = true := decide_eq_true c2
        clear c2
        by_cases c3 : 0 ≤ x3_1
        · rw [if_pos c3] at H
          have c3b0 : decide (0 ≤ x3_1) = true := decide_eq_true c3
          clear c3
          replace H := Option.bind_eq_some_iff.mp H
          obtain ⟨t159, A40, H⟩ := H
          replace H : (if t159 = true then (bivouaclaw19_may.l0 k1 l0 (wrap64 (x3_1 + 1))) else (some false)) = some r := H
          have A4 := Aside0.mk A40
          clear A40
          by_cases c5 : t159 = true
          · subst c5
            have H1 : (bivouaclaw19_may.l0 k1 l0 (wrap64 (x3_1 + 1))) = some r := by rw [if_pos rfl] at H; exact H
            clear H
            have H := H1
            clear H1
            have H' := Aside0.mk H
            clear H
            have p158 : 0 ≤ (x3_1 : Int) := of_decide_eq_true (by first | (with_reducible assumption) | assumption)
            have q158 : x3_1 < (l0.length : Int) := of_decide_eq_true (by first | (with_reducible assumption) | assumption)
            obtain ⟨ad158, e158, hx158_0, hx158_1⟩ := at_T48 HR0.out x3_1 p158 q158
            cases e158
            replace hx158_0 := (HB.out.cell (World.block_lt_of_cell? w _ hx158_0)).trans hx158_0
            replace hx158_1 := (HB.out.cell (World.block_lt_of_cell? w _ hx158_1)).trans hx158_1
            replace p158 := eq_true p158
            replace q158 := eq_true q158
            go_wp2_with (first | ((with_reducible refine gate_callee (f := 55) rfl ?_); refine goesL_ (some 14) rfl rfl Try.func55 (by kernel_rfl) rfl #[.agg #[.int .i64 ((rd_T48 l0 x3_1).f0), .int .i64 ((rd_T48 l0 x3_1).f1)]] rfl (by (try simp only [List.map_toArray, List.map_cons, List.map_nil]); first | done | rfl | (simp only [List.length_drop, List.length_take]; rfl)) ?_; (with_reducible refine (bivouacref19_Wish.calls ((rd_T48 l0 x3_1).f0) ((rd_T48 l0 x3_1).f1) true _ A4.out).mono ?_); rintro e w6 ⟨rfl, hb⟩; refine ⟨_, rfl, ?_⟩; have n0_ := Aside0.mk (below_step (by repeat (first | (with_reducible first | exact HB.out | apply below_alloc | apply pw_below_drewN | apply below_drew1) | exact HB.out)) hb); clear HB; have HB := n0_; clear n0_; (try clear hb); (try clear hb2); (try clear hk); (try clear hi)))
            go_roundg k1
            case measure => have := HK1.out; omega
            case rel => exact ⟨(wrap64 (x3_1 + 1)), (by first | rfl | (simp; done) | (simp [*]; done)), H', ⟨by have := HK1.out; omega⟩, ⟨by repeat (first | (with_reducible first | exact HB.out | apply below_alloc | apply pw_below_drewN | apply below_drew1) | exact HB.out)⟩⟩
          · replace c5 := Bool.eq_false_iff.mpr c5
            subst c5
            have H1 : (some false) = some r := by rw [if_neg (show ¬ (false = true) by decide)] at H; exact H
            clear H
            have H := H1
            clear H1
            obtain rfl := Option.some.inj H
            have p158 : 0 ≤ (x3_1 : Int) := of_decide_eq_true (by first | (with_reducible assumption) | assumption)
            have q158 : x3_1 < (l0.length : Int) := of_decide_eq_true (by first | (with_reducible assumption) | assumption)
            obtain ⟨ad158, e158, hx158_0, hx158_1⟩ := at_T48 HR0.out x3_1 p158 q158
            cases e158
            replace hx158_0 := (HB.out.cell (World.block_lt_of_cell? w _ hx158_0)).trans hx158_0
            replace hx158_1 := (HB.out.cell (World.block_lt_of_cell? w _ hx158_1)).trans hx158_1
            replace p158 := eq_true p158
            replace q158 := eq_true q158
            go_wp2_with (first | ((with_reducible refine gate_callee (f := 55) rfl ?_); refine goesL_ (some 14) rfl rfl Try.func55 (by kernel_rfl) rfl #[.agg #[.int .i64 ((rd_T48 l0 x3_1).f0), .int .i64 ((rd_T48 l0 x3_1).f1)]] rfl (by (try simp only [List.map_toArray, List.map_cons, List.map_nil]); first | done | rfl | (simp only [List.length_drop, List.length_take]; rfl)) ?_; (with_reducible refine (bivouacref19_Wish.calls ((rd_T48 l0 x3_1).f0) ((rd_T48 l0 x3_1).f1) false _ A4.out).mono ?_); rintro e w7 ⟨rfl, hb⟩; refine ⟨_, rfl, ?_⟩; have n0_ := Aside0.mk (below_step (by repeat (first | (with_reducible first | exact HB.out | apply below_alloc | apply pw_below_drewN | apply below_drew1) | exact HB.out)) hb); clear HB; have HB := n0_; clear n0_; (try clear hb); (try clear hb2); (try clear hk); (try clear hi)))
            go_ret
            exact ⟨by first | rfl | (simp [errW_none, errW_some] <;> rfl) | (simp [*, errW_none, errW_some] <;> rfl), by repeat (first | (with_reducible first | exact HB.out | apply below_alloc | apply pw_below_drewN | apply below_drew1) | exact HB.out)⟩
        · rw [if_neg c3] at H
          exact absurd H (by simp)
      · rw [if_neg c2] at H
        have c2b0 : decide (x3_1 < (l0.length : Int)) = false := decide_eq_false c2
        clear c2
        obtain rfl := Option.some.inj H
        go_wp2
        go_ret
        exact ⟨by first | rfl | (simp [errW_none, errW_some] <;> rfl) | (simp [*, errW_none, errW_some] <;> rfl), by repeat (first | (with_reducible first | exact HB.out | apply below_alloc | apply pw_below_drewN | apply below_drew1) | exact HB.out)⟩
end Go.Proofs.Ytikhgdbbbingbaa.MPu
namespace Go.Proofs.Ytikhgdbbbingbaa.MPu
open Go.RowKit Go.Proofs.YtikhgdbbbingbaaW.PrintWords Go.Proofs.YtikhgdbbbingbaaW.PrintLast Go.Proofs.YtikhgdbbbingbaaW.PrintMore
attribute [local go_sem] max2_int min2_int max_two min_two max_three min_three max_four min_four
set_option linter.unusedVariables false
set_option linter.unusedSimpArgs false
noncomputable def bivouacref19_Sum.l0 : Nat → List (S48) → Int → Int → Int → Option (Int × Int)
  | 0, _, _, _, _ => none
  | k + 1, x0, x4, x162000, x162001 => if x4 < (x0.length : Int) then (if 0 ≤ x4 then (bivouacref19_Sum.l0 k x0 (wrap64 (x4 + 1)) (wrap64 (x162000 + ((rd_T48 x0 x4).f0))) (wrap64 (x162001 + ((rd_T48 x0 x4).f1)))) else (none)) else (some (x162000, x162001))
noncomputable def bivouacref19_Sum.f (k : Nat) (l0 : List (S48)) : Option (Int × Int) := bivouacref19_Sum.l0 k l0 0 0 0
theorem bivouacref19_Sum.mono_l : ∀ k, (∀ y0 y1 y2 y3, LeO (bivouacref19_Sum.l0 k y0 y1 y2 y3) (bivouacref19_Sum.l0 (k + 1) y0 y1 y2 y3))
  | 0 => fun _ _ _ _ r h => by simp [bivouacref19_Sum.l0] at h
  | k + 1 => by
    have ih0 := bivouacref19_Sum.mono_l k
    · intro y0 y1 y2 y3
      unfold bivouacref19_Sum.l0
      repeat' first
      | (with_reducible exact ih0 _ _ _ _)
      | (with_reducible exact LeO.refl _)
      | (with_reducible exact LeO.none _)
      | (with_reducible refine LeO.ite ?_ ?_)
      | (with_reducible refine LeO.bind ?_ (fun _ => ?_))
      | exact ih0 _ _ _ _
      | exact LeO.none _
      | refine LeO.ite ?_ ?_
      | refine LeO.bind ?_ (fun _ => ?_)
theorem bivouacref19_Sum.mono : ∀ a0 k, LeO (bivouacref19_Sum.f k a0) (bivouacref19_Sum.f (k + 1) a0) := by
  intro a0 k
  have ih0 := bivouacref19_Sum.mono_l k
  unfold bivouacref19_Sum.f
  repeat' first
      | (with_reducible exact ih0 _ _ _ _)
      | (with_reducible exact LeO.refl _)
      | (with_reducible exact LeO.none _)
      | (with_reducible refine LeO.ite ?_ ?_)
      | (with_reducible refine LeO.bind ?_ (fun _ => ?_))
      | exact ih0 _ _ _ _
      | exact LeO.none _
      | refine LeO.ite ?_ ?_
      | refine LeO.bind ?_ (fun _ => ?_)
def bivouacref19_Sum.T5 : Bool × List (List Nat × List Nat) := (true, [([], []), ([0], [0]), ([], []), ([], []), ([2, 3], [2, 3]), ([4], [4]), ([5], [5]), ([1, 6], [1, 6]), ([0, 1, 2, 3, 4, 5, 6, 7], []), ([8, 7, 0, 1, 2, 3, 4, 5, 6, 7], [7, 8])])
def bivouacref19_Sum.B5 : List Nat := [0, 1, 0, 0, 12, 28, 60, 127, 255, 511]
theorem bivouacref19_Sum.tab5 : rtab .any (opsOf Try.f64 5) = bivouacref19_Sum.T5 := by kernel_rfl
theorem bivouacref19_Sum.bits5 : waitsOk bivouacref19_Sum.T5.2 bivouacref19_Sum.B5 = true := by kernel_rfl
def bivouacref19_Sum.T6 : Bool × List (List Nat × List Nat) := (true, [([], []), ([0], [0]), ([], []), ([], []), ([2, 3], [2, 3]), ([4], [4]), ([5], [5]), ([1, 6], [1, 6]), ([0, 1, 2, 3, 4, 5, 6, 7], []), ([8, 7, 0, 1, 2, 3, 4, 5, 6, 7], [7, 8])])
def bivouacref19_Sum.B6 : List Nat := [0, 1, 0, 0, 12, 28, 60, 127, 255, 511]
theorem bivouacref19_Sum.tab6 : rtab .any (opsOf Try.f64 6) = bivouacref19_Sum.T6 := by kernel_rfl
theorem bivouacref19_Sum.bits6 : waitsOk bivouacref19_Sum.T6.2 bivouacref19_Sum.B6 = true := by kernel_rfl
set_option maxHeartbeats 8000000 in
set_option maxRecDepth 100000 in
theorem bivouacref19_Sum.calls (k : Nat) (A0 : Option Addr) (c0 : Nat) (l0 : List (S48)) (r1 : Int) (r2 : Int) (w : World) (hr0 : Kd.C k48 w A0 l0.length l0) (hc0 : l0.length ≤ c0) (h : bivouacref19_Sum.f k l0 = some (r1, r2)) :
    Calls Try.prog 64 #[.slice A0 l0.length c0] w fun e w' => e = .returned (.agg #[.int .i64 r1, .int .i64 r2]) ∧ Below w.heap.size w w' := by
  have hu48 := Try.underlying48
  have HR0 := Aside0.mk hr0
  have HC0 := Aside0.mk hc0
  clear hr0 hc0
  have HB := Aside0.mk (Below.refl w.heap.size w)
  have H : (bivouacref19_Sum.l0 k l0 0 0 0) = some (r1, r2) := h
  clear h
  have H' := Aside0.mk H
  clear H
  go_enter Try.func64, Try.ntmps64
  go_wp2_with (first | ((with_reducible refine gate_dst (N := 2) rfl ?_); refine box_event ?hg (N := 2) ?hd (cs := #[.int .i64 0, .int .i64 0]) (t := 48) ?hr ?_; (case hd => rfl); (case hg => rfl); (case hr => first | (go_simp; done) | (go_simp; rfl)); intro gb160 hg w2 hbox hb; have n0_ := Aside0.mk (below_step (by repeat (first | (with_reducible first | exact HB.out | apply below_alloc | apply pw_below_drewN | apply below_drew1) | exact HB.out)) hb); have n1_ := Aside0.mk (hbox); have n2_ := Aside0.mk ((by rw [hg]; exact (below_size (by repeat (first | (with_reducible first | exact HB.out | apply below_alloc | apply pw_below_drewN | apply below_drew1) | exact HB.out))) : w.heap.size ≤ gb160)); have n3_ := Aside0.mk ((by rw [hg]; exact (below_size (by repeat (first | (with_reducible first | exact HB.out | apply below_alloc | apply pw_below_drewN | apply below_drew1) | exact HB.out))) : w.heap.size ≤ gb160)); clear HB; have HB := n0_; have BK160 := n1_; have GW160 := n2_; have GE160 := n3_; clear n0_ n1_ n2_ n3_; clear hb hbox hg) | ((with_reducible refine gate_dst (N := 3) rfl ?_); refine box_event ?hg (N := 3) ?hd (cs := #[.int .i64 0, .int .i64 0]) (t := 48) ?hr ?_; (case hd => rfl); (case hg => rfl); (case hr => first | (go_simp; done) | (go_simp; rfl)); intro gb161 hg w3 hbox hb; have n0_ := Aside0.mk (blk_below (g := gb160) (o := .cells #[.int .i64 0, .int .i64 0] 48 (0, 0)) (by (with_reducible repeat (first | refine blk_drewN ?_ _ | refine blk_drew ?_ | refine blk_alloc ?_ _)); exact BK160.out) hb); have n1_ := Aside0.mk (below_step (by repeat (first | (with_reducible first | exact HB.out | apply below_alloc | apply pw_below_drewN | apply below_drew1 | refine below_set ?_ GE160.out) | exact HB.out)) hb); have n2_ := Aside0.mk (hbox); have n3_ := Aside0.mk ((by rw [hg]; exact (below_size (by repeat (first | (with_reducible first | exact HB.out | apply below_alloc | apply pw_below_drewN | apply below_drew1 | refine below_set ?_ GE160.out) | exact HB.out))) : w.heap.size ≤ gb161)); have n4_ := Aside0.mk ((by rw [hg]; exact (below_size (by repeat (first | (with_reducible first | exact HB.out | apply below_alloc | apply pw_below_drewN | apply below_drew1 | refine below_set ?_ GE160.out) | exact HB.out))) : w.heap.size ≤ gb161)); have n5_ := Aside0.mk ((by rw [hg]; exact Nat.ne_of_lt (blk_lt (g := gb160) (o := .cells #[.int .i64 0, .int .i64 0] 48 (0, 0)) (by (with_reducible repeat (first | refine blk_drewN ?_ _ | refine blk_drew ?_ | refine blk_alloc ?_ _)); exact BK160.out)) : gb160 ≠ gb161)); have n6_ := Aside0.mk ((by rw [hg]; exact Nat.ne_of_gt (blk_lt (g := gb160) (o := .cells #[.int .i64 0, .int .i64 0] 48 (0, 0)) (by (with_reducible repeat (first | refine blk_drewN ?_ _ | refine blk_drew ?_ | refine blk_alloc ?_ _)); exact BK160.out)) : gb161 ≠ gb160)); clear BK160; clear HB; have BK160 := n0_; have HB := n1_; have BK161 := n2_; have GW161 := n3_; have GE161 := n4_; have NB160_161 := n5_; have NB161_160 := n6_; clear n0_ n1_ n2_ n3_ n4_ n5_ n6_; clear hb hbox hg; have hnb4 := NB161_160.out; have hnc4 := NB160_161.out; have hcz5_0 : w3.cell? ⟨gb161, 0, none⟩ = some (.int .i64 0) := (blk_cell BK161.out 0).trans rfl; have hcz5_1 : w3.cell? ⟨gb161, 1, none⟩ = some (.int .i64 0) := (blk_cell BK161.out 1).trans rfl; have hfz5_0 := blk_frozen BK161.out 0; have hfz5_1 := blk_frozen BK161.out 1))
  go_loopg [4] k (fun kq v4 w' => ∃ (x4_1 : Int) (x162000_1 : Int) (x162001_1 : Int), v4 = .int .i64 x4_1 ∧ Aside0 (bivouacref19_Sum.l0 kq l0 x4_1 x162000_1 x162001_1 = some (r1, r2)) ∧ Aside0 (kq ≤ k) ∧ Aside0 (w'.heap[gb160]? = some (.cells #[.int .i64 0, .int .i64 0] 48 (0, 0))) ∧ Aside0 (w'.heap[gb161]? = some (.cells #[.int .i64 x162000_1, .int .i64 x162001_1] 48 (0, 0))) ∧ Aside0 (Below w.heap.size w w'))
  case atStart => exact ⟨(0), (0), (0), (by first | rfl | (simp; done) | (simp [*]; done)), H', ⟨Nat.le_refl _⟩, ⟨by (with_reducible repeat (first | refine blk_drewN ?_ _ | refine blk_drew ?_ | refine blk_alloc ?_ _)); refine blk_far ?_ NB160_161.out _; (with_reducible repeat (first | refine blk_drewN ?_ _ | refine blk_drew ?_ | refine blk_alloc ?_ _)); refine blk_far ?_ NB160_161.out _; (with_reducible repeat (first | refine blk_drewN ?_ _ | refine blk_drew ?_ | refine blk_alloc ?_ _)); exact BK160.out⟩, ⟨by (with_reducible repeat (first | refine blk_drewN ?_ _ | refine blk_drew ?_ | refine blk_alloc ?_ _)); refine blk_put (cs := #[.int .i64 0, .int .i64 0]) ?_ 1 _ rfl; (with_reducible repeat (first | refine blk_drewN ?_ _ | refine blk_drew ?_ | refine blk_alloc ?_ _)); refine blk_put (cs := #[.int .i64 0, .int .i64 0]) ?_ 0 _ rfl; (with_reducible repeat (first | refine blk_drewN ?_ _ | refine blk_drew ?_ | refine blk_alloc ?_ _)); exact BK161.out⟩, ⟨by repeat (first | (with_reducible first | exact HB.out | apply below_alloc | apply pw_below_drewN | apply below_drew1 | refine below_set ?_ GE160.out | refine below_set ?_ GE161.out) | exact HB.out)⟩⟩
  case round =>
    clear H'
    try clear p2
    try clear c4
    try clear hcz5_0
    try clear hcz5_1
    try clear hfz5_0
    try clear hfz5_1
    obtain ⟨x4_1, x162000_1, x162001_1, rfl, HA, HK1, BK160, BK161, HB⟩ := hrel
    cases gk with
    | zero => exact absurd HA.out (by simp [bivouacref19_Sum.l0])
    | succ k1 =>
      have H := HA.out
      clear HA
      simp only [bivouacref19_Sum.l0] at H
      by_cases c6 : x4_1 < (l0.length : Int)
      · rw [if_pos c6] at H
        have c6b0 : decide (x4_1 < (l0.length : Int)) = true := decide_eq_true c6
        clear c6
        by_cases c7 : 0 ≤ x4_1
        · rw [if_pos c7] at H
          have c7b0 : decide (0 ≤ x4_1) = true := decide_eq_true c7
          clear c7
          have H' := Aside0.mk H
          clear H
          try go_wp2
          have n0_ := Aside0.mk (blk_drew BK160.out)
          have n1_ := Aside0.mk (blk_drew BK161.out)
          have n2_ := Aside0.mk (below_drew1 HB.out)
          clear BK160
          clear BK161
          clear HB
          have BK160 := n0_
          have BK161 := n1_
          have HB := n2_
          clear n0_ n1_ n2_
          have p162 : 0 ≤ (x4_1 : Int) := of_decide_eq_true (by first | (with_reducible assumption) | assumption)
          have q162 : x4_1 < (l0.length : Int) := of_decide_eq_true (by first | (with_reducible assumption) | assumption)
          obtain ⟨ad162, e162, hx162_0, hx162_1⟩ := at_T48 HR0.out x4_1 p162 q162
          have hw162_1 := hx162_1
          have hw162_0 := hx162_0
          cases e162
          replace hx162_0 := (HB.out.cell (World.block_lt_of_cell? w _ hx162_0)).trans hx162_0
          replace hx162_1 := (HB.out.cell (World.block_lt_of_cell? w _ hx162_1)).trans hx162_1
          replace p162 := eq_true p162
          replace q162 := eq_true q162
          refine start_ (n := 10) (S := fun w' => w'.cell? ⟨gb161, 0, none⟩ = some (.int .i64 x162000_1) ∧ w'.cell? ⟨gb161, 1, none⟩ = some (.int .i64 x162001_1) ∧ w'.cell? (ad162.add ((x4_1).toNat * 2)) = some (.int .i64 ((rd_T48 l0 x4_1).f0)) ∧ w'.cell? ⟨(ad162.add ((x4_1).toNat * 2)).block, (ad162.add ((x4_1).toNat * 2)).off + 1, none⟩ = some (.int .i64 ((rd_T48 l0 x4_1).f1))) (ds := [9]) #[false, false, false, false, false, false, false, false, false, false] (by kernel_rfl) rfl rfl ⟨(blk_cell BK161.out 0).trans rfl, (blk_cell BK161.out 1).trans rfl, ((HB.out.cell (World.block_lt_of_cell? w _ hw162_0)).trans hw162_0), ((HB.out.cell (World.block_lt_of_cell? w _ hw162_1)).trans hw162_1)⟩ (fun hHeld => ?_); refine with_tabW bivouacref19_Sum.tab5 bivouacref19_Sum.bits5 (fun HT_ HW_ => ?_)
          generalize wr.drew = w8 at BK160 BK161 HB hx162_0 hx162_1 hHeld ⊢
          refine pure_ (i := 0) (N := some 12) (v := ?_) (a' := ?_) #[true, false, false, false, false, false, false, false, false, false] rfl rfl (any_of HT_.out (by kernel_rfl)) (fun _ _ _ h => h) (Or.inl ⟨by rfl, ?_⟩) ?_ ?_
          rotate_left
          · intro w'
            go_simp
            with_reducible rfl
          rotate_left
          · simp only [Act.put, List.setIfInBounds_toArray, List.set_cons_zero, List.set_cons_succ, i64_w, i32_w]
            rfl
          refine pure_ (i := 2) (N := some 14) (v := ?_) (a' := ?_) #[true, false, true, false, false, false, false, false, false, false] rfl rfl (any_of HT_.out (by kernel_rfl)) (fun _ _ _ h => h) (Or.inl ⟨by rfl, ?_⟩) ?_ ?_
          rotate_left
          · intro w'
            go_simp
            with_reducible rfl
          rotate_left
          · simp only [Act.put, List.setIfInBounds_toArray, List.set_cons_zero, List.set_cons_succ, i64_w, i32_w]
            rfl
          refine pure_ (i := 3) (N := some 15) (v := ?_) (a' := ?_) #[true, false, true, true, false, false, false, false, false, false] rfl rfl (any_of HT_.out (by kernel_rfl)) (fun _ _ _ h => h) (Or.inl ⟨by rfl, ?_⟩) ?_ ?_
          rotate_left
          · intro w'
            go_simp
            with_reducible rfl
          rotate_left
          · simp only [Act.put, List.setIfInBounds_toArray, List.set_cons_zero, List.set_cons_succ, i64_w, i32_w]
            rfl
          refine pure_ (i := 4) (N := some 16) (v := ?_) (a' := ?_) #[true, false, true, true, true, false, false, false, false, false] rfl rfl (any_of HT_.out (by kernel_rfl)) (fun _ _ _ h => h) (Or.inl ⟨by rfl, ?_⟩) ?_ ?_
          rotate_left
          · intro w'
            go_simp
            with_reducible rfl
          rotate_left
          · simp only [Act.put, List.setIfInBounds_toArray, List.set_cons_zero, List.set_cons_succ, i64_w, i32_w]
            rfl
          refine pure_ (i := 5) (N := some 17) (v := ?_) (a' := ?_) #[true, false, true, true, true, true, false, false, false, false] rfl rfl (any_of HT_.out (by kernel_rfl)) (fun _ _ _ h => h) (Or.inl ⟨by rfl, ?_⟩) ?_ ?_
          rotate_left
          · intro w'
            go_simp
            with_reducible rfl
          rotate_left
          · simp only [Act.put, List.setIfInBounds_toArray, List.set_cons_zero, List.set_cons_succ, i64_w, i32_w]
            rfl
          refine take_ (i := 1) (N := some 13) (v := ?_) (a' := ?_) #[true, true, true, true, true, true, false, false, false, false] rfl rfl (take_ofW HT_.out HW_.out (by kernel_rfl)) (fun _ _ _ h => h) (Or.inl ⟨by rfl, ?_⟩) hHeld ?_ ?_
          rotate_left
          · rintro w' ⟨s0, s1, s2, s3⟩
            go_simp
            with_reducible rfl
          rotate_left
          · simp only [Act.put, List.setIfInBounds_toArray, List.set_cons_zero, List.set_cons_succ, i64_w, i32_w]
            rfl
          refine take_ (i := 6) (N := some 18) (v := ?_) (a' := ?_) #[true, true, true, true, true, true, true, false, false, false] rfl rfl (take_ofW HT_.out HW_.out (by kernel_rfl)) (fun _ _ _ h => h) (Or.inl ⟨by rfl, ?_⟩) hHeld ?_ ?_
          rotate_left
          · rintro w' ⟨s0, s1, s2, s3⟩
            go_simp
            with_reducible rfl
          rotate_left
          · simp only [Act.put, List.setIfInBounds_toArray, List.set_cons_zero, List.set_cons_succ, i64_w, i32_w]
            rfl
          refine pure_ (i := 7) (N := some 19) (v := ?_) (a' := ?_) #[true, true, true, true, true, true, true, true, false, false] rfl rfl (any_of HT_.out (by kernel_rfl)) (fun _ _ _ h => h) (Or.inl ⟨by rfl, ?_⟩) ?_ ?_
          rotate_left
          · intro w'
            go_simp
            with_reducible rfl
          rotate_left
          · simp only [Act.put, List.setIfInBounds_toArray, List.set_cons_zero, List.set_cons_succ, i64_w, i32_w]
            rfl
          refine pure_ (i := 8) (N := some 20) (v := ?_) (a' := ?_) #[true, true, true, true, true, true, true, true, true, false] rfl rfl (any_of HT_.out (by kernel_rfl)) (fun _ _ _ h => h) (Or.inl ⟨by rfl, ?_⟩) ?_ ?_
          rotate_left
          · intro w'
            go_simp
            with_reducible rfl
          rotate_left
          · simp only [Act.put, List.setIfInBounds_toArray, List.set_cons_zero, List.set_cons_succ, i64_w, i32_w]
            rfl
          refine last_ (i := 9) (N := none) #[true, true, true, true, true, true, true, true, true, true] rfl rfl (one_of HT_.out (by kernel_rfl)) (by decide) (fun K hK => ?_)
          have hs9 : w8.cell? ⟨gb161, 0, none⟩ = some (.int .i64 x162000_1) := (blk_cell BK161.out 0).trans rfl
          have hfs9 := blk_frozen BK161.out 0
          have hns9_0 := NB160_161.out
          have hms9_0 := NB161_160.out
          refine skip_ (w1 := ?_) (by rfl) rfl ?_ ?_
          rotate_left
          · go_simp
            rfl
          refine hK.out _ _ ?_
          clear hK K
          refine done_ (done_of HT_.out (by kernel_rfl)) ?_
          try go_wp2
          have n0_ : Aside0 ((w8.setCell ⟨gb161, 0, none⟩ (.int .i64 (wrap64 (x162000_1 + ((rd_T48 l0 x4_1).f0))))).heap[gb160]? = some (.cells #[.int .i64 0, .int .i64 0] 48 (0, 0))) := ⟨by (with_reducible repeat (first | refine blk_drewN ?_ _ | refine blk_drew ?_ | refine blk_alloc ?_ _)); refine blk_far ?_ NB160_161.out _; (with_reducible repeat (first | refine blk_drewN ?_ _ | refine blk_drew ?_ | refine blk_alloc ?_ _)); exact BK160.out⟩
          have n1_ : Aside0 ((w8.setCell ⟨gb161, 0, none⟩ (.int .i64 (wrap64 (x162000_1 + ((rd_T48 l0 x4_1).f0))))).heap[gb161]? = some (.cells #[.int .i64 (wrap64 (x162000_1 + ((rd_T48 l0 x4_1).f0))), .int .i64 x162001_1] 48 (0, 0))) := ⟨by (with_reducible repeat (first | refine blk_drewN ?_ _ | refine blk_drew ?_ | refine blk_alloc ?_ _)); refine blk_put (cs := #[.int .i64 x162000_1, .int .i64 x162001_1]) ?_ 0 _ rfl; (with_reducible repeat (first | refine blk_drewN ?_ _ | refine blk_drew ?_ | refine blk_alloc ?_ _)); exact BK161.out⟩
          have n2_ : Aside0 (Below w.heap.size w (w8.setCell ⟨gb161, 0, none⟩ (.int .i64 (wrap64 (x162000_1 + ((rd_T48 l0 x4_1).f0)))))) := ⟨by repeat (first | (with_reducible first | exact HB.out | apply below_alloc | apply pw_below_drewN | apply below_drew1 | refine below_set ?_ GE160.out | refine below_set ?_ GE161.out) | exact HB.out)⟩
          (try clear BK160)
          (try clear BK161)
          (try clear HB)
          generalize (w8.setCell ⟨gb161, 0, none⟩ (.int .i64 (wrap64 (x162000_1 + ((rd_T48 l0 x4_1).f0))))) = w10 at n0_ n1_ n2_ ⊢
          have BK160 := n0_
          have BK161 := n1_
          have HB := n2_
          clear n0_ n1_ n2_
          have n0_ := Aside0.mk (blk_drew BK160.out)
          have n1_ := Aside0.mk (blk_drew BK161.out)
          have n2_ := Aside0.mk (below_drew1 HB.out)
          clear BK160
          clear BK161
          clear HB
          have BK160 := n0_
          have BK161 := n1_
          have HB := n2_
          clear n0_ n1_ n2_
          have p163 : 0 ≤ (x4_1 : Int) := of_decide_eq_true (by first | (with_reducible assumption) | assumption)
          have q163 : x4_1 < (l0.length : Int) := of_decide_eq_true (by first | (with_reducible assumption) | assumption)
          obtain ⟨ad163, e163, hx163_0, hx163_1⟩ := at_T48 HR0.out x4_1 p163 q163
          have hw163_1 := hx163_1
          have hw163_0 := hx163_0
          obtain rfl : ad162 = ad163 := (by injection e163)
          replace hx163_0 := (HB.out.cell (World.block_lt_of_cell? w _ hx163_0)).trans hx163_0
          replace hx163_1 := (HB.out.cell (World.block_lt_of_cell? w _ hx163_1)).trans hx163_1
          replace p163 := eq_true p163
          replace q163 := eq_true q163
          refine start_ (n := 10) (S := fun w' => w'.cell? ⟨gb161, 0, none⟩ = some (.int .i64 (wrap64 (x162000_1 + ((rd_T48 l0 x4_1).f0)))) ∧ w'.cell? ⟨gb161, 1, none⟩ = some (.int .i64 x162001_1) ∧ w'.cell? (ad162.add ((x4_1).toNat * 2)) = some (.int .i64 ((rd_T48 l0 x4_1).f0)) ∧ w'.cell? ⟨(ad162.add ((x4_1).toNat * 2)).block, (ad162.add ((x4_1).toNat * 2)).off + 1, none⟩ = some (.int .i64 ((rd_T48 l0 x4_1).f1))) (ds := [9]) #[false, false, false, false, false, false, false, false, false, false] (by kernel_rfl) rfl rfl ⟨(blk_cell BK161.out 0).trans rfl, (blk_cell BK161.out 1).trans rfl, ((HB.out.cell (World.block_lt_of_cell? w _ hw163_0)).trans hw163_0), ((HB.out.cell (World.block_lt_of_cell? w _ hw163_1)).trans hw163_1)⟩ (fun hHeld => ?_); refine with_tabW bivouacref19_Sum.tab6 bivouacref19_Sum.bits6 (fun HT_ HW_ => ?_)
          generalize w10.drew = w11 at BK160 BK161 HB hx163_0 hx163_1 hHeld ⊢
          refine pure_ (i := 0) (N := some 21) (v := ?_) (a' := ?_) #[true, false, false, false, false, false, false, false, false, false] rfl rfl (any_of HT_.out (by kernel_rfl)) (fun _ _ _ h => h) (Or.inl ⟨by rfl, ?_⟩) ?_ ?_
          rotate_left
          · intro w'
            go_simp
            with_reducible rfl
          rotate_left
          · simp only [Act.put, List.setIfInBounds_toArray, List.set_cons_zero, List.set_cons_succ, i64_w, i32_w]
            rfl
          refine pure_ (i := 2) (N := some 23) (v := ?_) (a' := ?_) #[true, false, true, false, false, false, false, false, false, false] rfl rfl (any_of HT_.out (by kernel_rfl)) (fun _ _ _ h => h) (Or.inl ⟨by rfl, ?_⟩) ?_ ?_
          rotate_left
          · intro w'
            go_simp
            with_reducible rfl
          rotate_left
          · simp only [Act.put, List.setIfInBounds_toArray, List.set_cons_zero, List.set_cons_succ, i64_w, i32_w]
            rfl
          refine pure_ (i := 3) (N := some 24) (v := ?_) (a' := ?_) #[true, false, true, true, false, false, false, false, false, false] rfl rfl (any_of HT_.out (by kernel_rfl)) (fun _ _ _ h => h) (Or.inl ⟨by rfl, ?_⟩) ?_ ?_
          rotate_left
          · intro w'
            go_simp
            with_reducible rfl
          rotate_left
          · simp only [Act.put, List.setIfInBounds_toArray, List.set_cons_zero, List.set_cons_succ, i64_w, i32_w]
            rfl
          refine pure_ (i := 4) (N := some 25) (v := ?_) (a' := ?_) #[true, false, true, true, true, false, false, false, false, false] rfl rfl (any_of HT_.out (by kernel_rfl)) (fun _ _ _ h => h) (Or.inl ⟨by rfl, ?_⟩) ?_ ?_
          rotate_left
          · intro w'
            go_simp
            with_reducible rfl
          rotate_left
          · simp only [Act.put, List.setIfInBounds_toArray, List.set_cons_zero, List.set_cons_succ, i64_w, i32_w]
            rfl
          refine pure_ (i := 5) (N := some 26) (v := ?_) (a' := ?_) #[true, false, true, true, true, true, false, false, false, false] rfl rfl (any_of HT_.out (by kernel_rfl)) (fun _ _ _ h => h) (Or.inl ⟨by rfl, ?_⟩) ?_ ?_
          rotate_left
          · intro w'
            go_simp
            with_reducible rfl
          rotate_left
          · simp only [Act.put, List.setIfInBounds_toArray, List.set_cons_zero, List.set_cons_succ, i64_w, i32_w]
            rfl
          refine take_ (i := 1) (N := some 22) (v := ?_) (a' := ?_) #[true, true, true, true, true, true, false, false, false, false] rfl rfl (take_ofW HT_.out HW_.out (by kernel_rfl)) (fun _ _ _ h => h) (Or.inl ⟨by rfl, ?_⟩) hHeld ?_ ?_
          rotate_left
          · rintro w' ⟨s0, s1, s2, s3⟩
            go_simp
            with_reducible rfl
          rotate_left
          · simp only [Act.put, List.setIfInBounds_toArray, List.set_cons_zero, List.set_cons_succ, i64_w, i32_w]
            rfl
          refine take_ (i := 6) (N := some 27) (v := ?_) (a' := ?_) #[true, true, true, true, true, true, true, false, false, false] rfl rfl (take_ofW HT_.out HW_.out (by kernel_rfl)) (fun _ _ _ h => h) (Or.inl ⟨by rfl, ?_⟩) hHeld ?_ ?_
          rotate_left
          · rintro w' ⟨s0, s1, s2, s3⟩
            go_simp
            with_reducible rfl
          rotate_left
          · simp only [Act.put, List.setIfInBounds_toArray, List.set_cons_zero, List.set_cons_succ, i64_w, i32_w]
            rfl
          refine pure_ (i := 7) (N := some 28) (v := ?_) (a' := ?_) #[true, true, true, true, true, true, true, true, false, false] rfl rfl (any_of HT_.out (by kernel_rfl)) (fun _ _ _ h => h) (Or.inl ⟨by rfl, ?_⟩) ?_ ?_
          rotate_left
          · intro w'
            go_simp
            with_reducible rfl
          rotate_left
          · simp only [Act.put, List.setIfInBounds_toArray, List.set_cons_zero, List.set_cons_succ, i64_w, i32_w]
            rfl
          refine pure_ (i := 8) (N := some 29) (v := ?_) (a' := ?_) #[true, true, true, true, true, true, true, true, true, false] rfl rfl (any_of HT_.out (by kernel_rfl)) (fun _ _ _ h => h) (Or.inl ⟨by rfl, ?_⟩) ?_ ?_
          rotate_left
          · intro w'
            go_simp
            with_reducible rfl
          rotate_left
          · simp only [Act.put, List.setIfInBounds_toArray, List.set_cons_zero, List.set_cons_succ, i64_w, i32_w]
            rfl
          refine last_ (i := 9) (N := none) #[true, true, true, true, true, true, true, true, true, true] rfl rfl (one_of HT_.out (by kernel_rfl)) (by decide) (fun K hK => ?_)
          have hs12 : w11.cell? ⟨gb161, 1, none⟩ = some (.int .i64 x162001_1) := (blk_cell BK161.out 1).trans rfl
          have hfs12 := blk_frozen BK161.out 1
          have hns12_0 := NB160_161.out
          have hms12_0 := NB161_160.out
          refine skip_ (w1 := ?_) (by rfl) rfl ?_ ?_
          rotate_left
          · go_simp
            rfl
          refine hK.out _ _ ?_
          clear hK K
          refine done_ (done_of HT_.out (by kernel_rfl)) ?_
          try go_wp2
          go_roundg k1
          case measure => have := HK1.out; omega
          case rel => exact ⟨(wrap64 (x4_1 + 1)), (wrap64 (x162000_1 + ((rd_T48 l0 x4_1).f0))), (wrap64 (x162001_1 + ((rd_T48 l0 x4_1).f1))), (by first | rfl | (simp; done) | (simp [*]; done)), H', ⟨by have := HK1.out; omega⟩, ⟨by (with_reducible repeat (first | refine blk_drewN ?_ _ | refine blk_drew ?_ | refine blk_alloc ?_ _)); refine blk_far ?_ NB160_161.out _; (with_reducible repeat (first | refine blk_drewN ?_ _ | refine blk_drew ?_ | refine blk_alloc ?_ _)); exact BK160.out⟩, ⟨by (with_reducible repeat (first | refine blk_drewN ?_ _ | refine blk_drew ?_ | refine blk_alloc ?_ _)); refine blk_put (cs := #[.int .i64 (wrap64 (x162000_1 + ((rd_T48 l0 x4_1).f0))), .int .i64 x162001_1]) ?_ 1 _ rfl; (with_reducible repeat (first | refine blk_drewN ?_ _ | refine blk_drew ?_ | refine blk_alloc ?_ _)); exact BK161.out⟩, ⟨by repeat (first | (with_reducible first | exact HB.out | apply below_alloc | apply pw_below_drewN | apply below_drew1 | refine below_set ?_ GE160.out | refine below_set ?_ GE161.out) | exact HB.out)⟩⟩
        · rw [if_neg c7] at H
          exact absurd H (by simp)
      · rw [if_neg c6] at H
        have c6b0 : decide (x4_1 < (l0.length : Int)) = false := decide_eq_false c6
        clear c6
        simp only [Option.some.injEq, Prod.mk.injEq] at H
        obtain ⟨rfl, rfl⟩ := H
        have hnb13 := NB161_160.out
        have hnc13 := NB160_161.out
        have hcz14_0 : wr.cell? ⟨gb161, 0, none⟩ = some (.int .i64 x162000_1) := (blk_cell BK161.out 0).trans rfl
        have hcz14_1 : wr.cell? ⟨gb161, 1, none⟩ = some (.int .i64 x162001_1) := (blk_cell BK161.out 1).trans rfl
        have hfz14_0 := blk_frozen BK161.out 0
        have hfz14_1 := blk_frozen BK161.out 1
        have hcz15_0 : wr.cell? ⟨gb160, 0, none⟩ = some (.int .i64 0) := (blk_cell BK160.out 0).trans rfl
        have hcz15_1 : wr.cell? ⟨gb160, 1, none⟩ = some (.int .i64 0) := (blk_cell BK160.out 1).trans rfl
        have hfz15_0 := blk_frozen BK160.out 0
        have hfz15_1 := blk_frozen BK160.out 1
        go_wp2
        refine bodyPost_ret (results_cell_row rfl _ _ gb160 48 #[.int .i64 x162000_1, .int .i64 x162001_1] (0, 0) _ rfl (by (with_reducible repeat (first | refine blk_drewN ?_ _ | refine blk_drew ?_ | refine blk_alloc ?_ _)); refine blk_put (cs := #[.int .i64 x162000_1, .int .i64 0]) ?_ 1 _ rfl; (with_reducible repeat (first | refine blk_drewN ?_ _ | refine blk_drew ?_ | refine blk_alloc ?_ _)); refine blk_put (cs := #[.int .i64 0, .int .i64 0]) ?_ 0 _ rfl; (with_reducible repeat (first | refine blk_drewN ?_ _ | refine blk_drew ?_ | refine blk_alloc ?_ _)); exact BK160.out) Try.underlying48 rfl (by kernel_rfl)) rfl ?_
        exact ⟨by first | rfl | (simp [errW_none, errW_some] <;> rfl) | (simp [*, errW_none, errW_some] <;> rfl), by repeat (first | (with_reducible first | exact HB.out | apply below_alloc | apply pw_below_drewN | apply below_drew1 | refine below_set ?_ GE160.out | refine below_set ?_ GE161.out) | exact HB.out)⟩
noncomputable def bivouacref19_least.f (a0 : Int) (a1 : Int) : Option (Int) := if a0 < a1 then (some a0) else (some a1)
set_option maxHeartbeats 8000000 in
set_option maxRecDepth 100000 in
theorem bivouacref19_least.calls (a0 : Int) (a1 : Int) (r : Int) (w : World) (h : bivouacref19_least.f a0 a1 = some r) :
    Calls Try.prog 84 #[.int .i64 a0, .int .i64 a1] w fun e w' => e = .returned (.int .i64 r) ∧ Drawn0 w w' := by
  have H : (if a0 < a1 then (some a0) else (some a1)) = some r := h
  clear h
  by_cases c3 : a0 < a1
  · rw [if_pos c3] at H
    have c3b0 : decide (a0 < a1) = true := decide_eq_true c3
    clear c3
    obtain rfl := Option.some.inj H
    go_enter Try.func84, Try.ntmps84
    go_wp2
    go_ret
    exact ⟨by first | rfl | (simp; done) | (simp [*]; done), by repeat (first | exact Drawn0.refl _ | apply Drawn0.step)⟩
  · rw [if_neg c3] at H
    have c3b0 : decide (a0 < a1) = false := decide_eq_false c3
    clear c3
    obtain rfl := Option.some.inj H
    go_enter Try.func84, Try.ntmps84
    go_wp2
    go_ret
    exact ⟨by first | rfl | (simp; done) | (simp [*]; done), by repeat (first | exact Drawn0.refl _ | apply Drawn0.step)⟩
end Go.Proofs.Ytikhgdbbbingbaa.MPu
namespace Go.Proofs.Ytikhgdbbbingbaa.MPu
open Go.RowKit Go.Proofs.YtikhgdbbbingbaaW.PrintWords Go.Proofs.YtikhgdbbbingbaaW.PrintLast Go.Proofs.YtikhgdbbbingbaaW.PrintMore
attribute [local go_sem] max2_int min2_int max_two min_two max_three min_three max_four min_four
set_option linter.unusedVariables false
set_option linter.unusedSimpArgs false
mutual
noncomputable def bivouacref19_Serve.j0 : Nat → List (S48) → Int → Int → Int → Int → Int → Int → Int → Option (Int × Int × Int × Int × Int × (List (S48)))
  | 0, _, _, _, _, _, _, _, _ => none
  | k + 1, x2, x10, x11, x12, x165000, x165001, x165002, x165003 => bivouacref19_Serve.l0 k x2 x10 x11 x12 ([] : List (S48)) 0 x165000 x165001 x165002 x165003
noncomputable def bivouacref19_Serve.l0 : Nat → List (S48) → Int → Int → Int → List (S48) → Int → Int → Int → Int → Int → Option (Int × Int × Int × Int × Int × (List (S48)))
  | 0, _, _, _, _, _, _, _, _, _, _ => none
  | k + 1, x2, x10, x11, x12, x14, x15, x165000, x165001, x165002, x165003 => if x15 < (x2.length : Int) then (if 0 ≤ x15 then ((bivouacref19_Part.f ((rd_T48 x2 x15).f0) ((rd_T48 x2 x15).f1) x12).bind fun bt173 => (if x14.length < 8796093022208 then (bivouacref19_Serve.l0 k x2 x10 x11 x12 (x14 ++ [(⟨bt173.1, bt173.2⟩ : S48)]) (wrap64 (x15 + 1)) x165000 x165001 x165002 x165003) else (none))) else (none)) else ((bivouacref19_Sum.f k x14).bind fun bt178 => ((bivouacref19_least.f (wrap64 (x10 - bt178.1)) x165002).bind fun t181 => ((bivouacref19_least.f (wrap64 (x11 - bt178.2)) x165003).bind fun t182 => (some (t181, t182, x165002, x165003, x12, x14)))))
end
noncomputable def bivouacref19_Serve.f (k : Nat) (a0_0 : Int) (a0_1 : Int) (a0_2 : Int) (a0_3 : Int) (a1_0 : Int) (a1_1 : Int) (l2 : List (S48)) : Option (Int × Int × Int × Int × Int × (List (S48))) := (bivouacref19_Sum.f k l2).bind fun bt167 => ((bivouacref19_Scale.f (wrap64 (a0_0 + a1_0)) bt167.1).bind fun t170 => ((bivouacref19_Scale.f (wrap64 (a0_1 + a1_1)) bt167.2).bind fun t171 => (if t171 < t170 then (bivouacref19_Serve.j0 k l2 (wrap64 (a0_0 + a1_0)) (wrap64 (a0_1 + a1_1)) t171 a0_0 a0_1 a0_2 a0_3) else (bivouacref19_Serve.j0 k l2 (wrap64 (a0_0 + a1_0)) (wrap64 (a0_1 + a1_1)) t170 a0_0 a0_1 a0_2 a0_3))))
theorem bivouacref19_Serve.mono_l : ∀ k, (∀ y0 y1 y2 y3 y4 y5 y6 y7, LeO (bivouacref19_Serve.j0 k y0 y1 y2 y3 y4 y5 y6 y7) (bivouacref19_Serve.j0 (k + 1) y0 y1 y2 y3 y4 y5 y6 y7)) ∧ (∀ y0 y1 y2 y3 y4 y5 y6 y7 y8 y9, LeO (bivouacref19_Serve.l0 k y0 y1 y2 y3 y4 y5 y6 y7 y8 y9) (bivouacref19_Serve.l0 (k + 1) y0 y1 y2 y3 y4 y5 y6 y7 y8 y9))
  | 0 => ⟨fun _ _ _ _ _ _ _ _ r h => by simp [bivouacref19_Serve.j0] at h, fun _ _ _ _ _ _ _ _ _ _ r h => by simp [bivouacref19_Serve.l0] at h⟩
  | k + 1 => by
    obtain ⟨ih0, ih1⟩ := bivouacref19_Serve.mono_l k
    refine ⟨?_, ?_⟩
    · intro y0 y1 y2 y3 y4 y5 y6 y7
      unfold bivouacref19_Serve.j0
      repeat' first
      | (with_reducible exact ih0 _ _ _ _ _ _ _ _)
      | (with_reducible exact ih1 _ _ _ _ _ _ _ _ _ _)
      | (with_reducible exact bivouacref19_Sum.mono _ _)
      | (with_reducible exact LeO.refl _)
      | (with_reducible exact LeO.none _)
      | (with_reducible refine LeO.ite ?_ ?_)
      | (with_reducible refine LeO.bind ?_ (fun _ => ?_))
      | exact ih0 _ _ _ _ _ _ _ _
      | exact ih1 _ _ _ _ _ _ _ _ _ _
      | exact bivouacref19_Sum.mono _ _
      | exact LeO.none _
      | refine LeO.ite ?_ ?_
      | refine LeO.bind ?_ (fun _ => ?_)
    · intro y0 y1 y2 y3 y4 y5 y6 y7 y8 y9
      unfold bivouacref19_Serve.l0
      repeat' first
      | (with_reducible exact ih0 _ _ _ _ _ _ _ _)
      | (with_reducible exact ih1 _ _ _ _ _ _ _ _ _ _)
      | (with_reducible exact bivouacref19_Sum.mono _ _)
      | (with_reducible exact LeO.refl _)
      | (with_reducible exact LeO.none _)
      | (with_reducible refine LeO.ite ?_ ?_)
      | (with_reducible refine LeO.bind ?_ (fun _ => ?_))
      | exact ih0 _ _ _ _ _ _ _ _
      | exact ih1 _ _ _ _ _ _ _ _ _ _
      | exact bivouacref19_Sum.mono _ _
      | exact LeO.none _
      | refine LeO.ite ?_ ?_
      | refine LeO.bind ?_ (fun _ => ?_)
theorem bivouacref19_Serve.mono : ∀ a0 a1 a2 a3 a4 a5 a6 k, LeO (bivouacref19_Serve.f k a0 a1 a2 a3 a4 a5 a6) (bivouacref19_Serve.f (k + 1) a0 a1 a2 a3 a4 a5 a6) := by
  intro a0 a1 a2 a3 a4 a5 a6 k
  obtain ⟨ih0, ih1⟩ := bivouacref19_Serve.mono_l k
  unfold bivouacref19_Serve.f
  repeat' first
      | (with_reducible exact ih0 _ _ _ _ _ _ _ _)
      | (with_reducible exact ih1 _ _ _ _ _ _ _ _ _ _)
      | (with_reducible exact bivouacref19_Sum.mono _ _)
      | (with_reducible exact LeO.refl _)
      | (with_reducible exact LeO.none _)
      | (with_reducible refine LeO.ite ?_ ?_)
      | (with_reducible refine LeO.bind ?_ (fun _ => ?_))
      | exact ih0 _ _ _ _ _ _ _ _
      | exact ih1 _ _ _ _ _ _ _ _ _ _
      | exact bivouacref19_Sum.mono _ _
      | exact LeO.none _
      | refine LeO.ite ?_ ?_
      | refine LeO.bind ?_ (fun _ => ?_)
def bivouacref19_Serve.T2 : Bool × List (List Nat × List Nat) := (true, [([], []), ([0], [0]), ([], []), ([2], [2]), ([1, 3], [1, 3]), ([], []), ([5], [5]), ([], []), ([7], [7]), ([6, 8], [6, 8]), ([4, 0, 1, 2, 3, 4], [4]), ([9, 10, 0, 1, 2, 3, 4, 5, 6, 7, 8, 9, 10], [9])])
def bivouacref19_Serve.B2 : List Nat := [0, 1, 0, 4, 15, 0, 32, 0, 128, 480, 31, 2047]
theorem bivouacref19_Serve.tab2 : rtab .any (opsOf Try.f63 2) = bivouacref19_Serve.T2 := by kernel_rfl
theorem bivouacref19_Serve.bits2 : waitsOk bivouacref19_Serve.T2.2 bivouacref19_Serve.B2 = true := by kernel_rfl
def bivouacref19_Serve.T13 : Bool × List (List Nat × List Nat) := (true, [([], []), ([], []), ([1], [1]), ([0, 2], [0, 2]), ([], []), ([4], [4]), ([3, 5], [3, 5]), ([], []), ([], []), ([8], [8]), ([7, 9], [7, 9]), ([], []), ([11], [11]), ([10, 12, 6], [10, 12]), ([], []), ([14], [14]), ([], []), ([16], [16]), ([6, 13, 15, 17], [6, 13, 15, 17]), ([], []), ([], []), ([18, 13, 0, 1, 2, 3, 4, 5, 6, 7, 8, 9, 10, 11, 12, 13, 14, 15, 16, 17, 18], [18]), ([19, 21, 0, 1, 2, 3, 4, 5, 6, 7, 8, 9, 10, 11, 12, 13, 14, 15, 16, 17, 18, 19, 21], [19]), ([20, 22, 0, 1, 2, 3, 4, 5, 6, 7, 8, 9, 10, 11, 12, 13, 14, 15, 16, 17, 18, 19, 20, 21, 22], [20])])
def bivouacref19_Serve.B13 : List Nat := [0, 0, 2, 7, 0, 16, 63, 0, 0, 256, 896, 0, 2048, 8191, 0, 16384, 0, 65536, 262143, 0, 0, 524287, 3145727, 8388607]
theorem bivouacref19_Serve.tab13 : rtab .any (opsOf Try.f63 13) = bivouacref19_Serve.T13 := by kernel_rfl
theorem bivouacref19_Serve.bits13 : waitsOk bivouacref19_Serve.T13.2 bivouacref19_Serve.B13 = true := by kernel_rfl
set_option maxHeartbeats 8000000 in
set_option maxRecDepth 100000 in
theorem bivouacref19_Serve.calls (k : Nat) (a0_0 : Int) (a0_1 : Int) (a0_2 : Int) (a0_3 : Int) (a1_0 : Int) (a1_1 : Int) (A2 : Option Addr) (c2 : Nat) (l2 : List (S48)) (r1 : Int) (r2 : Int) (r3 : Int) (r4 : Int) (r5 : Int) (r6 : List (S48)) (w : World) (hr2 : Kd.C k48 w A2 l2.length l2) (hc2 : l2.length ≤ c2) (h : bivouacref19_Serve.f k a0_0 a0_1 a0_2 a0_3 a1_0 a1_1 l2 = some (r1, r2, r3, r4, r5, r6)) :
    Calls Try.prog 63 #[.agg #[.int .i64 a0_0, .int .i64 a0_1, .int .i64 a0_2, .int .i64 a0_3], .agg #[.int .i64 a1_0, .int .i64 a1_1], .slice A2 l2.length c2] w fun e w' => ∃ v5_ : Value, e = .returned (.tuple #[.agg #[.int .i64 r1, .int .i64 r2, .int .i64 r3, .int .i64 r4], .int .i64 r5, v5_]) ∧ Kd.R k48 48 w' w.heap.size (fun _ => True) v5_ r6 ∧ Below w.heap.size w w' := by
  have hu59 := Try.underlying59
  have hu48 := Try.underlying48
  have HR2 := Aside0.mk hr2
  have HC2 := Aside0.mk hc2
  clear hr2 hc2
  have HB := Aside0.mk (Below.refl w.heap.size w)
  have H : ((bivouacref19_Sum.f k l2).bind fun bt167 => ((bivouacref19_Scale.f (wrap64 (a0_0 + a1_0)) bt167.1).bind fun t170 => ((bivouacref19_Scale.f (wrap64 (a0_1 + a1_1)) bt167.2).bind fun t171 => (if t171 < t170 then (bivouacref19_Serve.j0 k l2 (wrap64 (a0_0 + a1_0)) (wrap64 (a0_1 + a1_1)) t171 a0_0 a0_1 a0_2 a0_3) else (bivouacref19_Serve.j0 k l2 (wrap64 (a0_0 + a1_0)) (wrap64 (a0_1 + a1_1)) t170 a0_0 a0_1 a0_2 a0_3))))) = some (r1, r2, r3, r4, r5, r6) := h
  clear h
  replace H := Option.bind_eq_some_iff.mp H
  obtain ⟨⟨t167, t168⟩, A40, H⟩ := H
  replace H : ((bivouacref19_Scale.f (wrap64 (a0_0 + a1_0)) t167).bind fun t170 => ((bivouacref19_Scale.f (wrap64 (a0_1 + a1_1)) t168).bind fun t171 => (if t171 < t170 then (bivouacref19_Serve.j0 k l2 (wrap64 (a0_0 + a1_0)) (wrap64 (a0_1 + a1_1)) t171 a0_0 a0_1 a0_2 a0_3) else (bivouacref19_Serve.j0 k l2 (wrap64 (a0_0 + a1_0)) (wrap64 (a0_1 + a1_1)) t170 a0_0 a0_1 a0_2 a0_3)))) = some (r1, r2, r3, r4, r5, r6) := H
  have A4 := Aside0.mk A40
  clear A40
  replace H := Option.bind_eq_some_iff.mp H
  obtain ⟨t170, A50, H⟩ := H
  replace H : ((bivouacref19_Scale.f (wrap64 (a0_1 + a1_1)) t168).bind fun t171 => (if t171 < t170 then (bivouacref19_Serve.j0 k l2 (wrap64 (a0_0 + a1_0)) (wrap64 (a0_1 + a1_1)) t171 a0_0 a0_1 a0_2 a0_3) else (bivouacref19_Serve.j0 k l2 (wrap64 (a0_0 + a1_0)) (wrap64 (a0_1 + a1_1)) t170 a0_0 a0_1 a0_2 a0_3))) = some (r1, r2, r3, r4, r5, r6) := H
  have A5 := Aside0.mk A50
  clear A50
  replace H := Option.bind_eq_some_iff.mp H
  obtain ⟨t171, A60, H⟩ := H
  replace H : (if t171 < t170 then (bivouacref19_Serve.j0 k l2 (wrap64 (a0_0 + a1_0)) (wrap64 (a0_1 + a1_1)) t171 a0_0 a0_1 a0_2 a0_3) else (bivouacref19_Serve.j0 k l2 (wrap64 (a0_0 + a1_0)) (wrap64 (a0_1 + a1_1)) t170 a0_0 a0_1 a0_2 a0_3)) = some (r1, r2, r3, r4, r5, r6) := H
  have A6 := Aside0.mk A60
  clear A60
  have HC7 := Aside0.mk H
  clear H
  go_enter Try.func63, Try.ntmps63
  try go_wp2_with (first | ((with_reducible refine gate_dst (N := 3) rfl ?_); refine box_event ?hg (N := 3) ?hd (cs := #[.int .i64 a0_0, .int .i64 a0_1, .int .i64 a0_2, .int .i64 a0_3]) (t := 59) ?hr ?_; (case hd => rfl); (case hg => rfl); (case hr => first | (go_simp; done) | (go_simp; rfl)); intro gb164 hg w8 hbox hb; have n0_ := Aside0.mk (below_step (by repeat (first | (with_reducible first | exact HB.out | apply below_alloc | apply pw_below_drewN | apply below_drew1) | exact HB.out)) hb); have n1_ := Aside0.mk (hbox); have n2_ := Aside0.mk ((by rw [hg]; exact (below_size (by repeat (first | (with_reducible first | exact HB.out | apply below_alloc | apply pw_below_drewN | apply below_drew1) | exact HB.out))) : w.heap.size ≤ gb164)); have n3_ := Aside0.mk ((by rw [hg]; exact (below_size (by repeat (first | (with_reducible first | exact HB.out | apply below_alloc | apply pw_below_drewN | apply below_drew1) | exact HB.out))) : w.heap.size ≤ gb164)); clear HB; have HB := n0_; have BK164 := n1_; have GW164 := n2_; have GE164 := n3_; clear n0_ n1_ n2_ n3_; clear hb hbox hg) | ((with_reducible refine gate_dst (N := 4) rfl ?_); refine box_event ?hg (N := 4) ?hd (cs := #[.int .i64 a1_0, .int .i64 a1_1]) (t := 48) ?hr ?_; (case hd => rfl); (case hg => rfl); (case hr => first | (go_simp; done) | (go_simp; rfl)); intro gb165 hg w9 hbox hb; have n0_ := Aside0.mk (blk_below (g := gb164) (o := .cells #[.int .i64 a0_0, .int .i64 a0_1, .int .i64 a0_2, .int .i64 a0_3] 59 (0, 0)) (by (with_reducible repeat (first | refine blk_drewN ?_ _ | refine blk_drew ?_ | refine blk_alloc ?_ _)); exact BK164.out) hb); have n1_ := Aside0.mk (below_step (by repeat (first | (with_reducible first | exact HB.out | apply below_alloc | apply pw_below_drewN | apply below_drew1 | refine below_set ?_ GE164.out) | exact HB.out)) hb); have n2_ := Aside0.mk (hbox); have n3_ := Aside0.mk ((by rw [hg]; exact (below_size (by repeat (first | (with_reducible first | exact HB.out | apply below_alloc | apply pw_below_drewN | apply below_drew1 | refine below_set ?_ GE164.out) | exact HB.out))) : w.heap.size ≤ gb165)); have n4_ := Aside0.mk ((by rw [hg]; exact (below_size (by repeat (first | (with_reducible first | exact HB.out | apply below_alloc | apply pw_below_drewN | apply below_drew1 | refine below_set ?_ GE164.out) | exact HB.out))) : w.heap.size ≤ gb165)); have n5_ := Aside0.mk ((by rw [hg]; exact Nat.ne_of_lt (blk_lt (g := gb164) (o := .cells #[.int .i64 a0_0, .int .i64 a0_1, .int .i64 a0_2, .int .i64 a0_3] 59 (0, 0)) (by (with_reducible repeat (first | refine blk_drewN ?_ _ | refine blk_drew ?_ | refine blk_alloc ?_ _)); exact BK164.out)) : gb164 ≠ gb165)); have n6_ := Aside0.mk ((by rw [hg]; exact Nat.ne_of_gt (blk_lt (g := gb164) (o := .cells #[.int .i64 a0_0, .int .i64 a0_1, .int .i64 a0_2, .int .i64 a0_3] 59 (0, 0)) (by (with_reducible repeat (first | refine blk_drewN ?_ _ | refine blk_drew ?_ | refine blk_alloc ?_ _)); exact BK164.out)) : gb165 ≠ gb164)); clear BK164; clear HB; have BK164 := n0_; have HB := n1_; have BK165 := n2_; have GW165 := n3_; have GE165 := n4_; have NB164_165 := n5_; have NB165_164 := n6_; clear n0_ n1_ n2_ n3_ n4_ n5_ n6_; clear hb hbox hg) | ((with_reducible refine gate_dst (N := 6) rfl ?_); refine box_event ?hg (N := 6) ?hd (cs := #[.int .i64 0, .int .i64 0, .int .i64 0, .int .i64 0]) (t := 59) ?hr ?_; (case hd => rfl); (case hg => rfl); (case hr => first | (go_simp; done) | (go_simp; rfl)); intro gb166 hg w10 hbox hb; have n0_ := Aside0.mk (blk_below (g := gb164) (o := .cells #[.int .i64 a0_0, .int .i64 a0_1, .int .i64 a0_2, .int .i64 a0_3] 59 (0, 0)) (by (with_reducible repeat (first | refine blk_drewN ?_ _ | refine blk_drew ?_ | refine blk_alloc ?_ _)); exact BK164.out) hb); have n1_ := Aside0.mk (blk_below (g := gb165) (o := .cells #[.int .i64 a1_0, .int .i64 a1_1] 48 (0, 0)) (by (with_reducible repeat (first | refine blk_drewN ?_ _ | refine blk_drew ?_ | refine blk_alloc ?_ _)); exact BK165.out) hb); have n2_ := Aside0.mk (below_step (by repeat (first | (with_reducible first | exact HB.out | apply below_alloc | apply pw_below_drewN | apply below_drew1 | refine below_set ?_ GE164.out | refine below_set ?_ GE165.out) | exact HB.out)) hb); have n3_ := Aside0.mk (hbox); have n4_ := Aside0.mk ((by rw [hg]; exact (below_size (by repeat (first | (with_reducible first | exact HB.out | apply below_alloc | apply pw_below_drewN | apply below_drew1 | refine below_set ?_ GE164.out | refine below_set ?_ GE165.out) | exact HB.out))) : w.heap.size ≤ gb166)); have n5_ := Aside0.mk ((by rw [hg]; exact (below_size (by repeat (first | (with_reducible first | exact HB.out | apply below_alloc | apply pw_below_drewN | apply below_drew1 | refine below_set ?_ GE164.out | refine below_set ?_ GE165.out) | exact HB.out))) : w.heap.size ≤ gb166)); have n6_ := Aside0.mk ((by rw [hg]; exact Nat.ne_of_lt (blk_lt (g := gb164) (o := .cells #[.int .i64 a0_0, .int .i64 a0_1, .int .i64 a0_2, .int .i64 a0_3] 59 (0, 0)) (by (with_reducible repeat (first | refine blk_drewN ?_ _ | refine blk_drew ?_ | refine blk_alloc ?_ _)); exact BK164.out)) : gb164 ≠ gb166)); have n7_ := Aside0.mk ((by rw [hg]; exact Nat.ne_of_gt (blk_lt (g := gb164) (o := .cells #[.int .i64 a0_0, .int .i64 a0_1, .int .i64 a0_2, .int .i64 a0_3] 59 (0, 0)) (by (with_reducible repeat (first | refine blk_drewN ?_ _ | refine blk_drew ?_ | refine blk_alloc ?_ _)); exact BK164.out)) : gb166 ≠ gb164)); have n8_ := Aside0.mk ((by rw [hg]; exact Nat.ne_of_lt (blk_lt (g := gb165) (o := .cells #[.int .i64 a1_0, .int .i64 a1_1] 48 (0, 0)) (by (with_reducible repeat (first | refine blk_drewN ?_ _ | refine blk_drew ?_ | refine blk_alloc ?_ _)); exact BK165.out)) : gb165 ≠ gb166)); have n9_ := Aside0.mk ((by rw [hg]; exact Nat.ne_of_gt (blk_lt (g := gb165) (o := .cells #[.int .i64 a1_0, .int .i64 a1_1] 48 (0, 0)) (by (with_reducible repeat (first | refine blk_drewN ?_ _ | refine blk_drew ?_ | refine blk_alloc ?_ _)); exact BK165.out)) : gb166 ≠ gb165)); clear BK164; clear BK165; clear HB; have BK164 := n0_; have BK165 := n1_; have HB := n2_; have BK166 := n3_; have GW166 := n4_; have GE166 := n5_; have NB164_166 := n6_; have NB166_164 := n7_; have NB165_166 := n8_; have NB166_165 := n9_; clear n0_ n1_ n2_ n3_ n4_ n5_ n6_ n7_ n8_ n9_; clear hb hbox hg) | ((with_reducible refine gate_callee (f := 64) rfl ?_); refine goesL_ (some 18) rfl rfl Try.func64 (by kernel_rfl) rfl #[.slice A2 l2.length c2] rfl (by (try simp only [List.map_toArray, List.map_cons, List.map_nil]); first | done | rfl | (simp only [List.length_drop, List.length_take]; rfl)) ?_; (with_reducible refine (bivouacref19_Sum.calls k _ _ l2 t167 t168 _ ?side1 ?side2 A4.out).mono ?_); (case side1 => repeat (first | exact (Kd.C_below HR2.out HB.out) | (with_reducible refine Kd.C_alloc ?_ _) | (with_reducible refine Kd.C_drewN ?_ _) | (with_reducible refine Kd.C_drew ?_))); (case side2 => exact HC2.out); rintro e w11 ⟨rfl, hb⟩; refine ⟨_, rfl, ?_⟩; have n0_ := Aside0.mk (blk_below (g := gb164) (o := .cells #[.int .i64 a0_0, .int .i64 a0_1, .int .i64 a0_2, .int .i64 a0_3] 59 (0, 0)) (by (with_reducible repeat (first | refine blk_drewN ?_ _ | refine blk_drew ?_ | refine blk_alloc ?_ _)); exact BK164.out) hb); have n1_ := Aside0.mk (blk_below (g := gb165) (o := .cells #[.int .i64 a1_0, .int .i64 a1_1] 48 (0, 0)) (by (with_reducible repeat (first | refine blk_drewN ?_ _ | refine blk_drew ?_ | refine blk_alloc ?_ _)); exact BK165.out) hb); have n2_ := Aside0.mk (blk_below (g := gb166) (o := .cells #[.int .i64 0, .int .i64 0, .int .i64 0, .int .i64 0] 59 (0, 0)) (by (with_reducible repeat (first | refine blk_drewN ?_ _ | refine blk_drew ?_ | refine blk_alloc ?_ _)); exact BK166.out) hb); have n3_ := Aside0.mk (below_step (by repeat (first | (with_reducible first | exact HB.out | apply below_alloc | apply pw_below_drewN | apply below_drew1 | refine below_set ?_ GE164.out | refine below_set ?_ GE165.out | refine below_set ?_ GE166.out) | exact HB.out)) hb); clear BK164; clear BK165; clear BK166; clear HB; have BK164 := n0_; have BK165 := n1_; have BK166 := n2_; have HB := n3_; clear n0_ n1_ n2_ n3_; (try clear hb); (try clear hb2); (try clear hk); (try clear hi)) | ((with_reducible refine gate_dst (N := 9) rfl ?_); refine box_event ?hg (N := 9) ?hd (cs := #[.int .i64 0, .int .i64 0]) (t := 48) ?hr ?_; (case hd => rfl); (case hg => rfl); (case hr => first | (go_simp; done) | (go_simp; rfl)); intro gb169 hg w12 hbox hb; have n0_ := Aside0.mk (blk_below (g := gb164) (o := .cells #[.int .i64 a0_0, .int .i64 a0_1, .int .i64 a0_2, .int .i64 a0_3] 59 (0, 0)) (by (with_reducible repeat (first | refine blk_drewN ?_ _ | refine blk_drew ?_ | refine blk_alloc ?_ _)); exact BK164.out) hb); have n1_ := Aside0.mk (blk_below (g := gb165) (o := .cells #[.int .i64 a1_0, .int .i64 a1_1] 48 (0, 0)) (by (with_reducible repeat (first | refine blk_drewN ?_ _ | refine blk_drew ?_ | refine blk_alloc ?_ _)); exact BK165.out) hb); have n2_ := Aside0.mk (blk_below (g := gb166) (o := .cells #[.int .i64 0, .int .i64 0, .int .i64 0, .int .i64 0] 59 (0, 0)) (by (with_reducible repeat (first | refine blk_drewN ?_ _ | refine blk_drew ?_ | refine blk_alloc ?_ _)); exact BK166.out) hb); have n3_ := Aside0.mk (below_step (by repeat (first | (with_reducible first | exact HB.out | apply below_alloc | apply pw_below_drewN | apply below_drew1 | refine below_set ?_ GE164.out | refine below_set ?_ GE165.out | refine below_set ?_ GE166.out) | exact HB.out)) hb); have n4_ := Aside0.mk (hbox); have n5_ := Aside0.mk ((by rw [hg]; exact (below_size (by repeat (first | (with_reducible first | exact HB.out | apply below_alloc | apply pw_below_drewN | apply below_drew1 | refine below_set ?_ GE164.out | refine below_set ?_ GE165.out | refine below_set ?_ GE166.out) | exact HB.out))) : w.heap.size ≤ gb169)); have n6_ := Aside0.mk ((by rw [hg]; exact (below_size (by repeat (first | (with_reducible first | exact HB.out | apply below_alloc | apply pw_below_drewN | apply below_drew1 | refine below_set ?_ GE164.out | refine below_set ?_ GE165.out | refine below_set ?_ GE166.out) | exact HB.out))) : w.heap.size ≤ gb169)); have n7_ := Aside0.mk ((by rw [hg]; exact Nat.ne_of_lt (blk_lt (g := gb164) (o := .cells #[.int .i64 a0_0, .int .i64 a0_1, .int .i64 a0_2, .int .i64 a0_3] 59 (0, 0)) (by (with_reducible repeat (first | refine blk_drewN ?_ _ | refine blk_drew ?_ | refine blk_alloc ?_ _)); exact BK164.out)) : gb164 ≠ gb169)); have n8_ := Aside0.mk ((by rw [hg]; exact Nat.ne_of_gt (blk_lt (g := gb164) (o := .cells #[.int .i64 a0_0, .int .i64 a0_1, .int .i64 a0_2, .int .i64 a0_3] 59 (0, 0)) (by (with_reducible repeat (first | refine blk_drewN ?_ _ | refine blk_drew ?_ | refine blk_alloc ?_ _)); exact BK164.out)) : gb169 ≠ gb164)); have n9_ := Aside0.mk ((by rw [hg]; exact Nat.ne_of_lt (blk_lt (g := gb165) (o := .cells #[.int .i64 a1_0, .int .i64 a1_1] 48 (0, 0)) (by (with_reducible repeat (first | refine blk_drewN ?_ _ | refine blk_drew ?_ | refine blk_alloc ?_ _)); exact BK165.out)) : gb165 ≠ gb169)); have n10_ := Aside0.mk ((by rw [hg]; exact Nat.ne_of_gt (blk_lt (g := gb165) (o := .cells #[.int .i64 a1_0, .int .i64 a1_1] 48 (0, 0)) (by (with_reducible repeat (first | refine blk_drewN ?_ _ | refine blk_drew ?_ | refine blk_alloc ?_ _)); exact BK165.out)) : gb169 ≠ gb165)); have n11_ := Aside0.mk ((by rw [hg]; exact Nat.ne_of_lt (blk_lt (g := gb166) (o := .cells #[.int .i64 0, .int .i64 0, .int .i64 0, .int .i64 0] 59 (0, 0)) (by (with_reducible repeat (first | refine blk_drewN ?_ _ | refine blk_drew ?_ | refine blk_alloc ?_ _)); exact BK166.out)) : gb166 ≠ gb169)); have n12_ := Aside0.mk ((by rw [hg]; exact Nat.ne_of_gt (blk_lt (g := gb166) (o := .cells #[.int .i64 0, .int .i64 0, .int .i64 0, .int .i64 0] 59 (0, 0)) (by (with_reducible repeat (first | refine blk_drewN ?_ _ | refine blk_drew ?_ | refine blk_alloc ?_ _)); exact BK166.out)) : gb169 ≠ gb166)); clear BK164; clear BK165; clear BK166; clear HB; have BK164 := n0_; have BK165 := n1_; have BK166 := n2_; have HB := n3_; have BK169 := n4_; have GW169 := n5_; have GE169 := n6_; have NB164_169 := n7_; have NB169_164 := n8_; have NB165_169 := n9_; have NB169_165 := n10_; have NB166_169 := n11_; have NB169_166 := n12_; clear n0_ n1_ n2_ n3_ n4_ n5_ n6_ n7_ n8_ n9_ n10_ n11_ n12_; clear hb hbox hg; have hnb13 := NB169_164.out; have hnc13 := NB164_169.out; have hnb14 := NB169_165.out; have hnc14 := NB165_169.out; have hnb15 := NB169_166.out; have hnc15 := NB166_169.out; have hcz16_0 : w12.cell? ⟨gb169, 0, none⟩ = some (.int .i64 0) := (blk_cell BK169.out 0).trans rfl; have hcz16_1 : w12.cell? ⟨gb169, 1, none⟩ = some (.int .i64 0) := (blk_cell BK169.out 1).trans rfl; have hfz16_0 := blk_frozen BK169.out 0; have hfz16_1 := blk_frozen BK169.out 1))
  have n0_ : Aside0 (((w12.setCell ⟨gb169, 0, none⟩ (.int .i64 t167)).setCell ⟨gb169, 1, none⟩ (.int .i64 t168)).heap[gb164]? = some (.cells #[.int .i64 a0_0, .int .i64 a0_1, .int .i64 a0_2, .int .i64 a0_3] 59 (0, 0))) := ⟨by (with_reducible repeat (first | refine blk_drewN ?_ _ | refine blk_drew ?_ | refine blk_alloc ?_ _)); refine blk_far ?_ NB164_169.out _; (with_reducible repeat (first | refine blk_drewN ?_ _ | refine blk_drew ?_ | refine blk_alloc ?_ _)); refine blk_far ?_ NB164_169.out _; (with_reducible repeat (first | refine blk_drewN ?_ _ | refine blk_drew ?_ | refine blk_alloc ?_ _)); exact BK164.out⟩
  have n1_ : Aside0 (((w12.setCell ⟨gb169, 0, none⟩ (.int .i64 t167)).setCell ⟨gb169, 1, none⟩ (.int .i64 t168)).heap[gb165]? = some (.cells #[.int .i64 a1_0, .int .i64 a1_1] 48 (0, 0))) := ⟨by (with_reducible repeat (first | refine blk_drewN ?_ _ | refine blk_drew ?_ | refine blk_alloc ?_ _)); refine blk_far ?_ NB165_169.out _; (with_reducible repeat (first | refine blk_drewN ?_ _ | refine blk_drew ?_ | refine blk_alloc ?_ _)); refine blk_far ?_ NB165_169.out _; (with_reducible repeat (first | refine blk_drewN ?_ _ | refine blk_drew ?_ | refine blk_alloc ?_ _)); exact BK165.out⟩
  have n2_ : Aside0 (((w12.setCell ⟨gb169, 0, none⟩ (.int .i64 t167)).setCell ⟨gb169, 1, none⟩ (.int .i64 t168)).heap[gb166]? = some (.cells #[.int .i64 0, .int .i64 0, .int .i64 0, .int .i64 0] 59 (0, 0))) := ⟨by (with_reducible repeat (first | refine blk_drewN ?_ _ | refine blk_drew ?_ | refine blk_alloc ?_ _)); refine blk_far ?_ NB166_169.out _; (with_reducible repeat (first | refine blk_drewN ?_ _ | refine blk_drew ?_ | refine blk_alloc ?_ _)); refine blk_far ?_ NB166_169.out _; (with_reducible repeat (first | refine blk_drewN ?_ _ | refine blk_drew ?_ | refine blk_alloc ?_ _)); exact BK166.out⟩
  have n3_ : Aside0 (((w12.setCell ⟨gb169, 0, none⟩ (.int .i64 t167)).setCell ⟨gb169, 1, none⟩ (.int .i64 t168)).heap[gb169]? = some (.cells #[.int .i64 t167, .int .i64 t168] 48 (0, 0))) := ⟨by (with_reducible repeat (first | refine blk_drewN ?_ _ | refine blk_drew ?_ | refine blk_alloc ?_ _)); refine blk_put (cs := #[.int .i64 t167, .int .i64 0]) ?_ 1 _ rfl; (with_reducible repeat (first | refine blk_drewN ?_ _ | refine blk_drew ?_ | refine blk_alloc ?_ _)); refine blk_put (cs := #[.int .i64 0, .int .i64 0]) ?_ 0 _ rfl; (with_reducible repeat (first | refine blk_drewN ?_ _ | refine blk_drew ?_ | refine blk_alloc ?_ _)); exact BK169.out⟩
  have n4_ : Aside0 (Below w.heap.size w ((w12.setCell ⟨gb169, 0, none⟩ (.int .i64 t167)).setCell ⟨gb169, 1, none⟩ (.int .i64 t168))) := ⟨by repeat (first | (with_reducible first | exact HB.out | apply below_alloc | apply pw_below_drewN | apply below_drew1 | refine below_set ?_ GE164.out | refine below_set ?_ GE165.out | refine below_set ?_ GE166.out | refine below_set ?_ GE169.out) | exact HB.out)⟩
  (try clear BK164)
  (try clear BK165)
  (try clear BK166)
  (try clear BK169)
  (try clear HB)
  generalize ((w12.setCell ⟨gb169, 0, none⟩ (.int .i64 t167)).setCell ⟨gb169, 1, none⟩ (.int .i64 t168)) = w17 at n0_ n1_ n2_ n3_ n4_ ⊢
  have BK164 := n0_
  have BK165 := n1_
  have BK166 := n2_
  have BK169 := n3_
  have HB := n4_
  clear n0_ n1_ n2_ n3_ n4_
  have n0_ := Aside0.mk (blk_drew BK164.out)
  have n1_ := Aside0.mk (blk_drew BK165.out)
  have n2_ := Aside0.mk (blk_drew BK166.out)
  have n3_ := Aside0.mk (blk_drew BK169.out)
  have n4_ := Aside0.mk (below_drew1 HB.out)
  clear BK164
  clear BK165
  clear BK166
  clear BK169
  clear HB
  have BK164 := n0_
  have BK165 := n1_
  have BK166 := n2_
  have BK169 := n3_
  have HB := n4_
  clear n0_ n1_ n2_ n3_ n4_
  refine start_ (n := 12) (S := fun w' => w'.cell? ⟨gb164, 0, none⟩ = some (.int .i64 a0_0) ∧ w'.cell? ⟨gb164, 1, none⟩ = some (.int .i64 a0_1) ∧ w'.cell? ⟨gb164, 2, none⟩ = some (.int .i64 a0_2) ∧ w'.cell? ⟨gb164, 3, none⟩ = some (.int .i64 a0_3) ∧ w'.cell? ⟨gb165, 0, none⟩ = some (.int .i64 a1_0) ∧ w'.cell? ⟨gb165, 1, none⟩ = some (.int .i64 a1_1)) (ds := []) #[false, false, false, false, false, false, false, false, false, false, false, false] (by kernel_rfl) rfl rfl ⟨(blk_cell BK164.out 0).trans rfl, (blk_cell BK164.out 1).trans rfl, (blk_cell BK164.out 2).trans rfl, (blk_cell BK164.out 3).trans rfl, (blk_cell BK165.out 0).trans rfl, (blk_cell BK165.out 1).trans rfl⟩ (fun hHeld => ?_); refine with_tabW bivouacref19_Serve.tab2 bivouacref19_Serve.bits2 (fun HT_ HW_ => ?_)
  generalize w17.drew = w18 at BK164 BK165 BK166 BK169 HB hHeld ⊢
  refine pure_ (i := 0) (N := some 19) (v := ?_) (a' := ?_) #[true, false, false, false, false, false, false, false, false, false, false, false] rfl rfl (any_of HT_.out (by kernel_rfl)) (fun _ _ _ h => h) (Or.inl ⟨by rfl, ?_⟩) ?_ ?_
  rotate_left
  · intro w'
    go_simp
    with_reducible rfl
  rotate_left
  · simp only [Act.put, List.setIfInBounds_toArray, List.set_cons_zero, List.set_cons_succ, i64_w, i32_w]
    rfl
  refine pure_ (i := 2) (N := some 21) (v := ?_) (a' := ?_) #[true, false, true, false, false, false, false, false, false, false, false, false] rfl rfl (any_of HT_.out (by kernel_rfl)) (fun _ _ _ h => h) (Or.inl ⟨by rfl, ?_⟩) ?_ ?_
  rotate_left
  · intro w'
    go_simp
    with_reducible rfl
  rotate_left
  · simp only [Act.put, List.setIfInBounds_toArray, List.set_cons_zero, List.set_cons_succ, i64_w, i32_w]
    rfl
  refine pure_ (i := 5) (N := some 24) (v := ?_) (a' := ?_) #[true, false, true, false, false, true, false, false, false, false, false, false] rfl rfl (any_of HT_.out (by kernel_rfl)) (fun _ _ _ h => h) (Or.inl ⟨by rfl, ?_⟩) ?_ ?_
  rotate_left
  · intro w'
    go_simp
    with_reducible rfl
  rotate_left
  · simp only [Act.put, List.setIfInBounds_toArray, List.set_cons_zero, List.set_cons_succ, i64_w, i32_w]
    rfl
  refine pure_ (i := 7) (N := some 26) (v := ?_) (a' := ?_) #[true, false, true, false, false, true, false, true, false, false, false, false] rfl rfl (any_of HT_.out (by kernel_rfl)) (fun _ _ _ h => h) (Or.inl ⟨by rfl, ?_⟩) ?_ ?_
  rotate_left
  · intro w'
    go_simp
    with_reducible rfl
  rotate_left
  · simp only [Act.put, List.setIfInBounds_toArray, List.set_cons_zero, List.set_cons_succ, i64_w, i32_w]
    rfl
  refine take_ (i := 1) (N := some 20) (v := ?_) (a' := ?_) #[true, true, true, false, false, true, false, true, false, false, false, false] rfl rfl (take_ofW HT_.out HW_.out (by kernel_rfl)) (fun _ _ _ h => h) (Or.inl ⟨by rfl, ?_⟩) hHeld ?_ ?_
  rotate_left
  · rintro w' ⟨s0, s1, s2, s3, s4, s5⟩
    go_simp
    with_reducible rfl
  rotate_left
  · simp only [Act.put, List.setIfInBounds_toArray, List.set_cons_zero, List.set_cons_succ, i64_w, i32_w]
    rfl
  refine take_ (i := 3) (N := some 22) (v := ?_) (a' := ?_) #[true, true, true, true, false, true, false, true, false, false, false, false] rfl rfl (take_ofW HT_.out HW_.out (by kernel_rfl)) (fun _ _ _ h => h) (Or.inl ⟨by rfl, ?_⟩) hHeld ?_ ?_
  rotate_left
  · rintro w' ⟨s0, s1, s2, s3, s4, s5⟩
    go_simp
    with_reducible rfl
  rotate_left
  · simp only [Act.put, List.setIfInBounds_toArray, List.set_cons_zero, List.set_cons_succ, i64_w, i32_w]
    rfl
  refine pure_ (i := 4) (N := some 23) (v := ?_) (a' := ?_) #[true, true, true, true, true, true, false, true, false, false, false, false] rfl rfl (any_of HT_.out (by kernel_rfl)) (fun _ _ _ h => h) (Or.inl ⟨by rfl, ?_⟩) ?_ ?_
  rotate_left
  · intro w'
    go_simp
    with_reducible rfl
  rotate_left
  · simp only [Act.put, List.setIfInBounds_toArray, List.set_cons_zero, List.set_cons_succ, i64_w, i32_w]
    rfl
  refine pure_ (i := 10) (N := some 10) (v := ?_) (a' := ?_) #[true, true, true, true, true, true, false, true, false, false, true, false] rfl rfl (any_of HT_.out (by kernel_rfl)) (fun _ _ _ h => h) (Or.inl ⟨by rfl, ?_⟩) ?_ ?_
  rotate_left
  · intro w'
    go_simp
    with_reducible rfl
  rotate_left
  · simp only [Act.put, List.setIfInBounds_toArray, List.set_cons_zero, List.set_cons_succ, i64_w, i32_w]
    rfl
  refine take_ (i := 6) (N := some 25) (v := ?_) (a' := ?_) #[true, true, true, true, true, true, true, true, false, false, true, false] rfl rfl (take_ofW HT_.out HW_.out (by kernel_rfl)) (fun _ _ _ h => h) (Or.inl ⟨by rfl, ?_⟩) hHeld ?_ ?_
  rotate_left
  · rintro w' ⟨s0, s1, s2, s3, s4, s5⟩
    go_simp
    with_reducible rfl
  rotate_left
  · simp only [Act.put, List.setIfInBounds_toArray, List.set_cons_zero, List.set_cons_succ, i64_w, i32_w]
    rfl
  refine take_ (i := 8) (N := some 27) (v := ?_) (a' := ?_) #[true, true, true, true, true, true, true, true, true, false, true, false] rfl rfl (take_ofW HT_.out HW_.out (by kernel_rfl)) (fun _ _ _ h => h) (Or.inl ⟨by rfl, ?_⟩) hHeld ?_ ?_
  rotate_left
  · rintro w' ⟨s0, s1, s2, s3, s4, s5⟩
    go_simp
    with_reducible rfl
  rotate_left
  · simp only [Act.put, List.setIfInBounds_toArray, List.set_cons_zero, List.set_cons_succ, i64_w, i32_w]
    rfl
  refine pure_ (i := 9) (N := some 28) (v := ?_) (a' := ?_) #[true, true, true, true, true, true, true, true, true, true, true, false] rfl rfl (any_of HT_.out (by kernel_rfl)) (fun _ _ _ h => h) (Or.inl ⟨by rfl, ?_⟩) ?_ ?_
  rotate_left
  · intro w'
    go_simp
    with_reducible rfl
  rotate_left
  · simp only [Act.put, List.setIfInBounds_toArray, List.set_cons_zero, List.set_cons_succ, i64_w, i32_w]
    rfl
  refine pure_ (i := 11) (N := some 11) (v := ?_) (a' := ?_) #[true, true, true, true, true, true, true, true, true, true, true, true] rfl rfl (any_of HT_.out (by kernel_rfl)) (fun _ _ _ h => h) (Or.inl ⟨by rfl, ?_⟩) ?_ ?_
  rotate_left
  · intro w'
    go_simp
    with_reducible rfl
  rotate_left
  · simp only [Act.put, List.setIfInBounds_toArray, List.set_cons_zero, List.set_cons_succ, i64_w, i32_w]
    rfl
  refine done_ (done_of HT_.out (by kernel_rfl)) ?_
  have hcz19_0 : w18.cell? ⟨gb169, 0, none⟩ = some (.int .i64 t167) := (blk_cell BK169.out 0).trans rfl
  have hcz19_1 : w18.cell? ⟨gb169, 1, none⟩ = some (.int .i64 t168) := (blk_cell BK169.out 1).trans rfl
  have hfz19_0 := blk_frozen BK169.out 0
  have hfz19_1 := blk_frozen BK169.out 1
  go_upto_if 39 with (first | ((with_reducible refine gate_callee (f := 53) rfl ?_); refine goesL_ (some 32) rfl rfl Try.func53 (by kernel_rfl) rfl #[.int .i64 (wrap64 (a0_0 + a1_0)), .int .i64 t167] rfl (by (try simp only [List.map_toArray, List.map_cons, List.map_nil]); first | done | rfl | (simp only [List.length_drop, List.length_take]; rfl)) ?_; (with_reducible refine (bivouacref19_Scale.calls (wrap64 (a0_0 + a1_0)) t167 t170 _ A5.out).mono ?_); rintro e w' ⟨rfl, ⟨nd, rfl⟩⟩; refine ⟨_, rfl, ?_⟩) | ((with_reducible refine gate_callee (f := 53) rfl ?_); refine goesL_ (some 36) rfl rfl Try.func53 (by kernel_rfl) rfl #[.int .i64 (wrap64 (a0_1 + a1_1)), .int .i64 t168] rfl (by (try simp only [List.map_toArray, List.map_cons, List.map_nil]); first | done | rfl | (simp only [List.length_drop, List.length_take]; rfl)) ?_; (with_reducible refine (bivouacref19_Scale.calls (wrap64 (a0_1 + a1_1)) t168 t171 _ A6.out).mono ?_); rintro e w' ⟨rfl, ⟨nd, rfl⟩⟩; refine ⟨_, rfl, ?_⟩))
  (try simp only [Act.put, List.setIfInBounds_toArray, List.set_cons_zero, List.set_cons_succ])
  go_cut [12] (fun v12 wc => ∃ (kq : Nat) (x12_6 : Int), v12 = .int .i64 x12_6 ∧ Aside0 (bivouacref19_Serve.j0 kq l2 (wrap64 (a0_0 + a1_0)) (wrap64 (a0_1 + a1_1)) x12_6 a0_0 a0_1 a0_2 a0_3 = some (r1, r2, r3, r4, r5, r6)) ∧ Aside0 (kq ≤ k) ∧ Aside0 (wc.heap[gb164]? = some (.cells #[.int .i64 a0_0, .int .i64 a0_1, .int .i64 a0_2, .int .i64 a0_3] 59 (0, 0))) ∧ Aside0 (wc.heap[gb165]? = some (.cells #[.int .i64 a1_0, .int .i64 a1_1] 48 (0, 0))) ∧ Aside0 (wc.heap[gb166]? = some (.cells #[.int .i64 0, .int .i64 0, .int .i64 0, .int .i64 0] 59 (0, 0))) ∧ Aside0 (wc.heap[gb169]? = some (.cells #[.int .i64 t167, .int .i64 t168] 48 (0, 0))) ∧ Aside0 (Below w.heap.size w wc))
  case first =>
    have H := HC7.out
    clear HC7
    by_cases c20 : t171 < t170
    · rw [if_pos c20] at H
      have c20b0 : decide (t171 < t170) = true := decide_eq_true c20
      clear c20
      (first | rw [c20b0] | (simp only [i64_w, i32_w]; rw [c20b0]) | skip)
      have H' := Aside0.mk H
      clear H
      go_wp2
      go_meet
      case rel => exact ⟨_, (t171), (by first | rfl | (simp; done) | (simp [*]; done)), H', ⟨by first | omega | exact Nat.le_refl _⟩, ⟨by (with_reducible repeat (first | refine blk_drewN ?_ _ | refine blk_drew ?_ | refine blk_alloc ?_ _)); exact BK164.out⟩, ⟨by (with_reducible repeat (first | refine blk_drewN ?_ _ | refine blk_drew ?_ | refine blk_alloc ?_ _)); exact BK165.out⟩, ⟨by (with_reducible repeat (first | refine blk_drewN ?_ _ | refine blk_drew ?_ | refine blk_alloc ?_ _)); exact BK166.out⟩, ⟨by (with_reducible repeat (first | refine blk_drewN ?_ _ | refine blk_drew ?_ | refine blk_alloc ?_ _)); exact BK169.out⟩, ⟨by repeat (first | (with_reducible first | exact HB.out | apply below_alloc | apply pw_below_drewN | apply below_drew1 | refine below_set ?_ GE164.out | refine below_set ?_ GE165.out | refine below_set ?_ GE166.out | refine below_set ?_ GE169.out) | exact HB.out)⟩⟩
    · rw [if_neg c20] at H
      have c20b0 : decide (t171 < t170) = false := decide_eq_false c20
      clear c20
      (first | rw [c20b0] | (simp only [i64_w, i32_w]; rw [c20b0]) | skip)
      have H' := Aside0.mk H
      clear H
      go_wp2
      go_meet
      case rel => exact ⟨_, (t170), (by first | rfl | (simp; done) | (simp [*]; done)), H', ⟨by first | omega | exact Nat.le_refl _⟩, ⟨by (with_reducible repeat (first | refine blk_drewN ?_ _ | refine blk_drew ?_ | refine blk_alloc ?_ _)); exact BK164.out⟩, ⟨by (with_reducible repeat (first | refine blk_drewN ?_ _ | refine blk_drew ?_ | refine blk_alloc ?_ _)); exact BK165.out⟩, ⟨by (with_reducible repeat (first | refine blk_drewN ?_ _ | refine blk_drew ?_ | refine blk_alloc ?_ _)); exact BK166.out⟩, ⟨by (with_reducible repeat (first | refine blk_drewN ?_ _ | refine blk_drew ?_ | refine blk_alloc ?_ _)); exact BK169.out⟩, ⟨by repeat (first | (with_reducible first | exact HB.out | apply below_alloc | apply pw_below_drewN | apply below_drew1 | refine below_set ?_ GE164.out | refine below_set ?_ GE165.out | refine below_set ?_ GE166.out | refine below_set ?_ GE169.out) | exact HB.out)⟩⟩
  case rest =>
    clear HC7
    try clear c1
    try clear c2
    try clear p2
    try clear c5
    try clear c6
    try clear p6
    try clear c13
    try clear c14
    try clear c15
    try clear c20
    try clear c20b0
    try clear hcz16_0
    try clear hcz16_1
    try clear hcz19_0
    try clear hcz19_1
    try clear hfz16_0
    try clear hfz16_1
    try clear hfz19_0
    try clear hfz19_1
    obtain ⟨kq, x12_6, rfl, HA, HJ6, BK164, BK165, BK166, BK169, HB⟩ := hcut
    cases kq with
    | zero => exact absurd HA.out (by simp [bivouacref19_Serve.j0])
    | succ kj6 =>
      have H := HA.out
      clear HA
      simp only [bivouacref19_Serve.j0] at H
      have H' := Aside0.mk H
      clear H
      go_wp2
      go_loopg [14, 15] kj6 (fun kq v14 v15 w' => ∃ (x14_2 : List (S48)) (x15_2 : Int), v15 = .int .i64 x15_2 ∧ Aside0 (bivouacref19_Serve.l0 kq l2 (wrap64 (a0_0 + a1_0)) (wrap64 (a0_1 + a1_1)) x12_6 x14_2 x15_2 a0_0 a0_1 a0_2 a0_3 = some (r1, r2, r3, r4, r5, r6)) ∧ Aside0 (kq ≤ kj6) ∧ Aside0 (Kd.R k48 48 w' w.heap.size (fun k_ => k_ ≠ gb165 ∧ k_ ≠ gb169) v14 x14_2) ∧ Aside0 (w'.heap[gb164]? = some (.cells #[.int .i64 a0_0, .int .i64 a0_1, .int .i64 a0_2, .int .i64 a0_3] 59 (0, 0))) ∧ Aside0 (w'.heap[gb165]? = some (.cells #[.int .i64 a1_0, .int .i64 a1_1] 48 (0, 0))) ∧ Aside0 (w'.heap[gb166]? = some (.cells #[.int .i64 0, .int .i64 0, .int .i64 0, .int .i64 0] 59 (0, 0))) ∧ Aside0 (w'.heap[gb169]? = some (.cells #[.int .i64 t167, .int .i64 t168] 48 (0, 0))) ∧ Aside0 (Below w.heap.size w w'))
      case atStart => exact ⟨(([] : List (S48))), (0), (by first | rfl | (simp; done) | (simp [*]; done)), H', ⟨Nat.le_refl _⟩, ⟨by first | exact Kd.R_nil _ _ _ _ _ | exact Kd.N_nil _ _ _ _ _ | exact Kd.V_nil _ _ _ _ _ | exact Kd.Q_nil _ _ _ _ _ | exact Kd.S_nil _ _ _ _ _⟩, ⟨by (with_reducible repeat (first | refine blk_drewN ?_ _ | refine blk_drew ?_ | refine blk_alloc ?_ _)); exact BK164.out⟩, ⟨by (with_reducible repeat (first | refine blk_drewN ?_ _ | refine blk_drew ?_ | refine blk_alloc ?_ _)); exact BK165.out⟩, ⟨by (with_reducible repeat (first | refine blk_drewN ?_ _ | refine blk_drew ?_ | refine blk_alloc ?_ _)); exact BK166.out⟩, ⟨by (with_reducible repeat (first | refine blk_drewN ?_ _ | refine blk_drew ?_ | refine blk_alloc ?_ _)); exact BK169.out⟩, ⟨by repeat (first | (with_reducible first | exact HB.out | apply below_alloc | apply pw_below_drewN | apply below_drew1 | refine below_set ?_ GE164.out | refine below_set ?_ GE165.out | refine below_set ?_ GE166.out | refine below_set ?_ GE169.out) | exact HB.out)⟩⟩
      case round =>
        clear H'
        try clear c1
        try clear c2
        try clear p2
        try clear c5
        try clear c6
        try clear p6
        try clear c13
        try clear c14
        try clear c15
        try clear c20
        try clear c20b0
        try clear hcz16_0
        try clear hcz16_1
        try clear hcz19_0
        try clear hcz19_1
        try clear hfz16_0
        try clear hfz16_1
        try clear hfz19_0
        try clear hfz19_1
        try clear p2
        try clear p6
        obtain ⟨x14_2, x15_2, rfl, HA, HK2, HO_14, BK164, BK165, BK166, BK169, HB⟩ := hrel
        cases gk with
        | zero => exact absurd HA.out (by simp [bivouacref19_Serve.l0])
        | succ k2 =>
          have H := HA.out
          clear HA
          simp only [bivouacref19_Serve.l0] at H
          by_cases c21 : x15_2 < (l2.length : Int)
          · rw [if_pos c21] at H
            have c21b0 : decide (x15_2 < (l2.length : Int)) = true := decide_eq_true c21
            clear c21
            by_cases c22 : 0 ≤ x15_2
            · rw [if_pos c22] at H
              have c22b0 : decide (0 ≤ x15_2) = true := decide_eq_true c22
              clear c22
              replace H := Option.bind_eq_some_iff.mp H
              obtain ⟨⟨t173, t174⟩, A230, H⟩ := H
              replace H : (if x14_2.length < 8796093022208 then (bivouacref19_Serve.l0 k2 l2 (wrap64 (a0_0 + a1_0)) (wrap64 (a0_1 + a1_1)) x12_6 (x14_2 ++ [(⟨t173, t174⟩ : S48)]) (wrap64 (x15_2 + 1)) a0_0 a0_1 a0_2 a0_3) else (none)) = some (r1, r2, r3, r4, r5, r6) := H
              have A23 := Aside0.mk A230
              clear A230
              by_cases c24 : x14_2.length < 8796093022208
              · rw [if_pos c24] at H
                have LMc24 := Aside0.mk c24
                clear c24
                obtain ⟨y175, hy175⟩ : ∃ y_ : List (S48), y_ = (x14_2 ++ [(⟨t173, t174⟩ : S48)]) := ⟨_, rfl⟩
                replace H : (bivouacref19_Serve.l0 k2 l2 (wrap64 (a0_0 + a1_0)) (wrap64 (a0_1 + a1_1)) x12_6 y175 (wrap64 (x15_2 + 1)) a0_0 a0_1 a0_2 a0_3) = some (r1, r2, r3, r4, r5, r6) := by first | (rw [hy175]; with_reducible exact H) | (have H2_ := (Option.bind_some _ _).symm.trans H; rw [hy175]; with_reducible exact H2_) | (have H2_ := (Option.bind_some _ _).symm.trans H; with_reducible exact H2_) | with_reducible exact H | (rw [hy175]; exact H) | exact H
                have Ny175 := Aside0.mk hy175
                clear hy175
                have H' := Aside0.mk H
                clear H
                have p172 : 0 ≤ (x15_2 : Int) := of_decide_eq_true (by first | (with_reducible assumption) | assumption)
                have q172 : x15_2 < (l2.length : Int) := of_decide_eq_true (by first | (with_reducible assumption) | assumption)
                obtain ⟨ad172, e172, hx172_0, hx172_1⟩ := at_T48 HR2.out x15_2 p172 q172
                cases e172
                replace hx172_0 := (HB.out.cell (World.block_lt_of_cell? w _ hx172_0)).trans hx172_0
                replace hx172_1 := (HB.out.cell (World.block_lt_of_cell? w _ hx172_1)).trans hx172_1
                replace p172 := eq_true p172
                replace q172 := eq_true q172
                go_wp2_with (first | ((with_reducible refine gate_callee (f := 57) rfl ?_); refine goesL_ (some 53) rfl rfl Try.func57 (by kernel_rfl) rfl #[.agg #[.int .i64 ((rd_T48 l2 x15_2).f0), .int .i64 ((rd_T48 l2 x15_2).f1)], .int .i64 x12_6] rfl (by (try simp only [List.map_toArray, List.map_cons, List.map_nil]); first | done | rfl | (simp only [List.length_drop, List.length_take]; rfl)) ?_; (with_reducible refine (bivouacref19_Part.calls ((rd_T48 l2 x15_2).f0) ((rd_T48 l2 x15_2).f1) x12_6 t173 t174 _ A23.out).mono ?_); rintro e w25 ⟨rfl, hb⟩; refine ⟨_, rfl, ?_⟩; have n0_ := Aside0.mk (Kd.R_below (by (with_reducible repeat (first | apply Kd.R_alloc | apply Kd.R_drewN | apply Kd.R_drew)); exact HO_14.out) hb); have n1_ := Aside0.mk (blk_below (g := gb164) (o := .cells #[.int .i64 a0_0, .int .i64 a0_1, .int .i64 a0_2, .int .i64 a0_3] 59 (0, 0)) (by (with_reducible repeat (first | refine blk_drewN ?_ _ | refine blk_drew ?_ | refine blk_alloc ?_ _)); exact BK164.out) hb); have n2_ := Aside0.mk (blk_below (g := gb165) (o := .cells #[.int .i64 a1_0, .int .i64 a1_1] 48 (0, 0)) (by (with_reducible repeat (first | refine blk_drewN ?_ _ | refine blk_drew ?_ | refine blk_alloc ?_ _)); exact BK165.out) hb); have n3_ := Aside0.mk (blk_below (g := gb166) (o := .cells #[.int .i64 0, .int .i64 0, .int .i64 0, .int .i64 0] 59 (0, 0)) (by (with_reducible repeat (first | refine blk_drewN ?_ _ | refine blk_drew ?_ | refine blk_alloc ?_ _)); exact BK166.out) hb); have n4_ := Aside0.mk (blk_below (g := gb169) (o := .cells #[.int .i64 t167, .int .i64 t168] 48 (0, 0)) (by (with_reducible repeat (first | refine blk_drewN ?_ _ | refine blk_drew ?_ | refine blk_alloc ?_ _)); exact BK169.out) hb); have n5_ := Aside0.mk (below_step (by repeat (first | (with_reducible first | exact HB.out | apply below_alloc | apply pw_below_drewN | apply below_drew1 | refine below_set ?_ GE164.out | refine below_set ?_ GE165.out | refine below_set ?_ GE166.out | refine below_set ?_ GE169.out) | exact HB.out)) hb); clear HO_14; clear BK164; clear BK165; clear BK166; clear BK169; clear HB; have HO_14 := n0_; have BK164 := n1_; have BK165 := n2_; have BK166 := n3_; have BK169 := n4_; have HB := n5_; clear n0_ n1_ n2_ n3_ n4_ n5_; (try clear hb); (try clear hb2); (try clear hk); (try clear hi)) | ((with_reducible refine gate_builtin (b := .append) (xs := #[.tmp 47, .tmp 54]) rfl ?_); at_builtin; refine Kd.R_append k48 (w0 := w) w.heap.size rfl (.tmp 47) (.tmp 54) 60 48 (.agg #[(.int .i64 0), (.int .i64 0)]) 16 rfl Try.underlying60 info48 rfl (by decide) (by omega) u14 x14_2 (⟨t173, t174⟩ : S48) [.int .i64 t173, .int .i64 t174] (fun k_ => k_ ≠ gb165 ∧ k_ ≠ gb169) (fun _ => False) rfl rfl ?aP (fun _ hk => hk.elim) ?aF ?aO ?aB ?aS ?aL ?_; (case aP => exact k48_mkM _ _ _ (⟨t173, t174⟩ : S48)); (case aB => exact (by repeat (first | (with_reducible first | exact HB.out | apply below_alloc | apply pw_below_drewN | apply below_drew1 | refine below_set ?_ GE164.out | refine below_set ?_ GE165.out | refine below_set ?_ GE166.out | refine below_set ?_ GE169.out) | exact HB.out))); (case aF => exact (fun k_ hk => ⟨Kd.freshB (g := gb165) (o := .cells #[.int .i64 a1_0, .int .i64 a1_1] 48 (0, 0)) (by (with_reducible repeat (first | refine blk_drewN ?_ _ | refine blk_drew ?_ | refine blk_alloc ?_ _)); exact BK165.out) k_ hk, Kd.freshB (g := gb169) (o := .cells #[.int .i64 t167, .int .i64 t168] 48 (0, 0)) (by (with_reducible repeat (first | refine blk_drewN ?_ _ | refine blk_drew ?_ | refine blk_alloc ?_ _)); exact BK169.out) k_ hk⟩)); (case aO => exact (by (with_reducible repeat (first | apply Kd.R_alloc | apply Kd.R_drewN | apply Kd.R_drew)); exact HO_14.out)); (case aS => exact (below_size (by repeat (first | (with_reducible first | exact HB.out | apply below_alloc | apply pw_below_drewN | apply below_drew1 | refine below_set ?_ GE164.out | refine below_set ?_ GE165.out | refine below_set ?_ GE166.out | refine below_set ?_ GE169.out) | exact HB.out)))); (case aL => have := LMc24.out; omega); intro v176 w26 ho hb hg hat; rw [← Ny175.out] at ho; have n0_ := Aside0.mk (blk_grown (g := gb164) (o := .cells #[.int .i64 a0_0, .int .i64 a0_1, .int .i64 a0_2, .int .i64 a0_3] 59 (0, 0)) (by (with_reducible repeat (first | refine blk_drewN ?_ _ | refine blk_drew ?_ | refine blk_alloc ?_ _)); exact BK164.out) hg (Kd.R_ne HO_14.out BK164.out (by decide))); have n1_ := Aside0.mk (blk_grown (g := gb165) (o := .cells #[.int .i64 a1_0, .int .i64 a1_1] 48 (0, 0)) (by (with_reducible repeat (first | refine blk_drewN ?_ _ | refine blk_drew ?_ | refine blk_alloc ?_ _)); exact BK165.out) hg (Kd.R_away HO_14.out (fun _ hk => hk.1))); have n2_ := Aside0.mk (blk_grown (g := gb166) (o := .cells #[.int .i64 0, .int .i64 0, .int .i64 0, .int .i64 0] 59 (0, 0)) (by (with_reducible repeat (first | refine blk_drewN ?_ _ | refine blk_drew ?_ | refine blk_alloc ?_ _)); exact BK166.out) hg (Kd.R_ne HO_14.out BK166.out (by decide))); have n3_ := Aside0.mk (blk_grown (g := gb169) (o := .cells #[.int .i64 t167, .int .i64 t168] 48 (0, 0)) (by (with_reducible repeat (first | refine blk_drewN ?_ _ | refine blk_drew ?_ | refine blk_alloc ?_ _)); exact BK169.out) hg (Kd.R_away HO_14.out (fun _ hk => hk.2))); have n4_ := Aside0.mk (hb); have n5_ := Aside0.mk (ho); clear BK164; clear BK165; clear BK166; clear BK169; clear HB; clear HO_14; have BK164 := n0_; have BK165 := n1_; have BK166 := n2_; have BK169 := n3_; have HB := n4_; have HO177 := n5_; clear n0_ n1_ n2_ n3_ n4_ n5_; clear ho hb hg hat))
                go_roundg k2
                case measure => have := HJ6.out; have := HK2.out; omega
                case rel => exact ⟨(y175), (wrap64 (x15_2 + 1)), (by first | rfl | (simp; done) | (simp [*]; done)), H', ⟨by have := HJ6.out; have := HK2.out; omega⟩, ⟨by (with_reducible repeat (first | apply Kd.R_alloc | apply Kd.R_drewN | apply Kd.R_drew)); exact HO177.out⟩, ⟨by (with_reducible repeat (first | refine blk_drewN ?_ _ | refine blk_drew ?_ | refine blk_alloc ?_ _)); exact BK164.out⟩, ⟨by (with_reducible repeat (first | refine blk_drewN ?_ _ | refine blk_drew ?_ | refine blk_alloc ?_ _)); exact BK165.out⟩, ⟨by (with_reducible repeat (first | refine blk_drewN ?_ _ | refine blk_drew ?_ | refine blk_alloc ?_ _)); exact BK166.out⟩, ⟨by (with_reducible repeat (first | refine blk_drewN ?_ _ | refine blk_drew ?_ | refine blk_alloc ?_ _)); exact BK169.out⟩, ⟨by repeat (first | (with_reducible first | exact HB.out | apply below_alloc | apply pw_below_drewN | apply below_drew1 | refine below_set ?_ GE164.out | refine below_set ?_ GE165.out | refine below_set ?_ GE166.out | refine below_set ?_ GE169.out) | exact HB.out)⟩⟩
              · rw [if_neg c24] at H
                exact absurd H (by simp)
            · rw [if_neg c22] at H
              exact absurd H (by simp)
          · rw [if_neg c21] at H
            have c21b0 : decide (x15_2 < (l2.length : Int)) = false := decide_eq_false c21
            clear c21
            replace H := Option.bind_eq_some_iff.mp H
            obtain ⟨⟨t178, t179⟩, A270, H⟩ := H
            replace H : ((bivouacref19_least.f (wrap64 ((wrap64 (a0_0 + a1_0)) - t178)) a0_2).bind fun t181 => ((bivouacref19_least.f (wrap64 ((wrap64 (a0_1 + a1_1)) - t179)) a0_3).bind fun t182 => (some (t181, t182, a0_2, a0_3, x12_6, x14_2)))) = some (r1, r2, r3, r4, r5, r6) := H
            have A27 := Aside0.mk A270
            clear A270
            replace H := Option.bind_eq_some_iff.mp H
            obtain ⟨t181, A280, H⟩ := H
            replace H : ((bivouacref19_least.f (wrap64 ((wrap64 (a0_1 + a1_1)) - t179)) a0_3).bind fun t182 => (some (t181, t182, a0_2, a0_3, x12_6, x14_2))) = some (r1, r2, r3, r4, r5, r6) := H
            have A28 := Aside0.mk A280
            clear A280
            replace H := Option.bind_eq_some_iff.mp H
            obtain ⟨t182, A290, H⟩ := H
            replace H : (some (t181, t182, a0_2, a0_3, x12_6, x14_2)) = some (r1, r2, r3, r4, r5, r6) := H
            have A29 := Aside0.mk A290
            clear A290
            simp only [Option.some.injEq, Prod.mk.injEq] at H
            obtain ⟨rfl, rfl, rfl, rfl, rfl, rfl⟩ := H
            obtain ⟨Ao30, co30, eo30⟩ := Kd.R_slice HO_14.out
            subst eo30
            try go_wp2_with (first | ((with_reducible refine gate_callee (f := 64) rfl ?_); refine goesL_ (some 57) rfl rfl Try.func64 (by kernel_rfl) rfl #[.slice Ao30 x14_2.length co30] rfl (by (try simp only [List.map_toArray, List.map_cons, List.map_nil]); first | done | rfl | (simp only [List.length_drop, List.length_take]; rfl)) ?_; (with_reducible refine (bivouacref19_Sum.calls k2 _ _ x14_2 t178 t179 _ ?side1 ?side2 A27.out).mono ?_); (case side1 => repeat (first | exact (Kd.R_reads' HO_14.out).2.2 | (with_reducible refine Kd.C_alloc ?_ _) | (with_reducible refine Kd.C_drewN ?_ _) | (with_reducible refine Kd.C_drew ?_))); (case side2 => exact (Kd.R_reads' HO_14.out).2.1); rintro e w31 ⟨rfl, hb⟩; refine ⟨_, rfl, ?_⟩; have n0_ := Aside0.mk (Kd.R_below (by (with_reducible repeat (first | apply Kd.R_alloc | apply Kd.R_drewN | apply Kd.R_drew)); exact HO_14.out) hb); have n1_ := Aside0.mk (blk_below (g := gb164) (o := .cells #[.int .i64 a0_0, .int .i64 a0_1, .int .i64 a0_2, .int .i64 a0_3] 59 (0, 0)) (by (with_reducible repeat (first | refine blk_drewN ?_ _ | refine blk_drew ?_ | refine blk_alloc ?_ _)); exact BK164.out) hb); have n2_ := Aside0.mk (blk_below (g := gb165) (o := .cells #[.int .i64 a1_0, .int .i64 a1_1] 48 (0, 0)) (by (with_reducible repeat (first | refine blk_drewN ?_ _ | refine blk_drew ?_ | refine blk_alloc ?_ _)); exact BK165.out) hb); have n3_ := Aside0.mk (blk_below (g := gb166) (o := .cells #[.int .i64 0, .int .i64 0, .int .i64 0, .int .i64 0] 59 (0, 0)) (by (with_reducible repeat (first | refine blk_drewN ?_ _ | refine blk_drew ?_ | refine blk_alloc ?_ _)); exact BK166.out) hb); have n4_ := Aside0.mk (blk_below (g := gb169) (o := .cells #[.int .i64 t167, .int .i64 t168] 48 (0, 0)) (by (with_reducible repeat (first | refine blk_drewN ?_ _ | refine blk_drew ?_ | refine blk_alloc ?_ _)); exact BK169.out) hb); have n5_ := Aside0.mk (below_step (by repeat (first | (with_reducible first | exact HB.out | apply below_alloc | apply pw_below_drewN | apply below_drew1 | refine below_set ?_ GE164.out | refine below_set ?_ GE165.out | refine below_set ?_ GE166.out | refine below_set ?_ GE169.out) | exact HB.out)) hb); clear HO_14; clear BK164; clear BK165; clear BK166; clear BK169; clear HB; have HO_14 := n0_; have BK164 := n1_; have BK165 := n2_; have BK166 := n3_; have BK169 := n4_; have HB := n5_; clear n0_ n1_ n2_ n3_ n4_ n5_; (try clear hb); (try clear hb2); (try clear hk); (try clear hi)) | ((with_reducible refine gate_dst (N := 16) rfl ?_); refine box_event ?hg (N := 16) ?hd (cs := #[.int .i64 0, .int .i64 0]) (t := 48) ?hr ?_; (case hd => rfl); (case hg => rfl); (case hr => first | (go_simp; done) | (go_simp; rfl)); intro gb180 hg w32 hbox hb; have n0_ := Aside0.mk (Kd.R_below (Kd.R_elderB (by (with_reducible repeat (first | apply Kd.R_alloc | apply Kd.R_drewN | apply Kd.R_drew)); exact HO_14.out) gb180 (Nat.le_of_eq hg.symm)) hb); have n1_ := Aside0.mk (blk_below (g := gb164) (o := .cells #[.int .i64 a0_0, .int .i64 a0_1, .int .i64 a0_2, .int .i64 a0_3] 59 (0, 0)) (by (with_reducible repeat (first | refine blk_drewN ?_ _ | refine blk_drew ?_ | refine blk_alloc ?_ _)); exact BK164.out) hb); have n2_ := Aside0.mk (blk_below (g := gb165) (o := .cells #[.int .i64 a1_0, .int .i64 a1_1] 48 (0, 0)) (by (with_reducible repeat (first | refine blk_drewN ?_ _ | refine blk_drew ?_ | refine blk_alloc ?_ _)); exact BK165.out) hb); have n3_ := Aside0.mk (blk_below (g := gb166) (o := .cells #[.int .i64 0, .int .i64 0, .int .i64 0, .int .i64 0] 59 (0, 0)) (by (with_reducible repeat (first | refine blk_drewN ?_ _ | refine blk_drew ?_ | refine blk_alloc ?_ _)); exact BK166.out) hb); have n4_ := Aside0.mk (blk_below (g := gb169) (o := .cells #[.int .i64 t167, .int .i64 t168] 48 (0, 0)) (by (with_reducible repeat (first | refine blk_drewN ?_ _ | refine blk_drew ?_ | refine blk_alloc ?_ _)); exact BK169.out) hb); have n5_ := Aside0.mk (below_step (by repeat (first | (with_reducible first | exact HB.out | apply below_alloc | apply pw_below_drewN | apply below_drew1 | refine below_set ?_ GE164.out | refine below_set ?_ GE165.out | refine below_set ?_ GE166.out | refine below_set ?_ GE169.out) | exact HB.out)) hb); have n6_ := Aside0.mk (hbox); have n7_ := Aside0.mk ((by rw [hg]; exact (below_size (by repeat (first | (with_reducible first | exact HB.out | apply below_alloc | apply pw_below_drewN | apply below_drew1 | refine below_set ?_ GE164.out | refine below_set ?_ GE165.out | refine below_set ?_ GE166.out | refine below_set ?_ GE169.out) | exact HB.out))) : w.heap.size ≤ gb180)); have n8_ := Aside0.mk ((by rw [hg]; exact (below_size (by repeat (first | (with_reducible first | exact HB.out | apply below_alloc | apply pw_below_drewN | apply below_drew1 | refine below_set ?_ GE164.out | refine below_set ?_ GE165.out | refine below_set ?_ GE166.out | refine below_set ?_ GE169.out) | exact HB.out))) : w.heap.size ≤ gb180)); have n9_ := Aside0.mk ((by rw [hg]; exact Nat.ne_of_lt (blk_lt (g := gb164) (o := .cells #[.int .i64 a0_0, .int .i64 a0_1, .int .i64 a0_2, .int .i64 a0_3] 59 (0, 0)) (by (with_reducible repeat (first | refine blk_drewN ?_ _ | refine blk_drew ?_ | refine blk_alloc ?_ _)); exact BK164.out)) : gb164 ≠ gb180)); have n10_ := Aside0.mk ((by rw [hg]; exact Nat.ne_of_gt (blk_lt (g := gb164) (o := .cells #[.int .i64 a0_0, .int .i64 a0_1, .int .i64 a0_2, .int .i64 a0_3] 59 (0, 0)) (by (with_reducible repeat (first | refine blk_drewN ?_ _ | refine blk_drew ?_ | refine blk_alloc ?_ _)); exact BK164.out)) : gb180 ≠ gb164)); have n11_ := Aside0.mk ((by rw [hg]; exact Nat.ne_of_lt (blk_lt (g := gb165) (o := .cells #[.int .i64 a1_0, .int .i64 a1_1] 48 (0, 0)) (by (with_reducible repeat (first | refine blk_drewN ?_ _ | refine blk_drew ?_ | refine blk_alloc ?_ _)); exact BK165.out)) : gb165 ≠ gb180)); have n12_ := Aside0.mk ((by rw [hg]; exact Nat.ne_of_gt (blk_lt (g := gb165) (o := .cells #[.int .i64 a1_0, .int .i64 a1_1] 48 (0, 0)) (by (with_reducible repeat (first | refine blk_drewN ?_ _ | refine blk_drew ?_ | refine blk_alloc ?_ _)); exact BK165.out)) : gb180 ≠ gb165)); have n13_ := Aside0.mk ((by rw [hg]; exact Nat.ne_of_lt (blk_lt (g := gb166) (o := .cells #[.int .i64 0, .int .i64 0, .int .i64 0, .int .i64 0] 59 (0, 0)) (by (with_reducible repeat (first | refine blk_drewN ?_ _ | refine blk_drew ?_ | refine blk_alloc ?_ _)); exact BK166.out)) : gb166 ≠ gb180)); have n14_ := Aside0.mk ((by rw [hg]; exact Nat.ne_of_gt (blk_lt (g := gb166) (o := .cells #[.int .i64 0, .int .i64 0, .int .i64 0, .int .i64 0] 59 (0, 0)) (by (with_reducible repeat (first | refine blk_drewN ?_ _ | refine blk_drew ?_ | refine blk_alloc ?_ _)); exact BK166.out)) : gb180 ≠ gb166)); have n15_ := Aside0.mk ((by rw [hg]; exact Nat.ne_of_lt (blk_lt (g := gb169) (o := .cells #[.int .i64 t167, .int .i64 t168] 48 (0, 0)) (by (with_reducible repeat (first | refine blk_drewN ?_ _ | refine blk_drew ?_ | refine blk_alloc ?_ _)); exact BK169.out)) : gb169 ≠ gb180)); have n16_ := Aside0.mk ((by rw [hg]; exact Nat.ne_of_gt (blk_lt (g := gb169) (o := .cells #[.int .i64 t167, .int .i64 t168] 48 (0, 0)) (by (with_reducible repeat (first | refine blk_drewN ?_ _ | refine blk_drew ?_ | refine blk_alloc ?_ _)); exact BK169.out)) : gb180 ≠ gb169)); clear HO_14; clear BK164; clear BK165; clear BK166; clear BK169; clear HB; have HO_14 := n0_; have BK164 := n1_; have BK165 := n2_; have BK166 := n3_; have BK169 := n4_; have HB := n5_; have BK180 := n6_; have GW180 := n7_; have GE180 := n8_; have NB164_180 := n9_; have NB180_164 := n10_; have NB165_180 := n11_; have NB180_165 := n12_; have NB166_180 := n13_; have NB180_166 := n14_; have NB169_180 := n15_; have NB180_169 := n16_; clear n0_ n1_ n2_ n3_ n4_ n5_ n6_ n7_ n8_ n9_ n10_ n11_ n12_ n13_ n14_ n15_ n16_; clear hb hbox hg; have hnb33 := NB180_164.out; have hnc33 := NB164_180.out; have hnb34 := NB180_165.out; have hnc34 := NB165_180.out; have hnb35 := NB180_166.out; have hnc35 := NB166_180.out; have hnb36 := NB180_169.out; have hnc36 := NB169_180.out; have hcz37_0 : w32.cell? ⟨gb180, 0, none⟩ = some (.int .i64 0) := (blk_cell BK180.out 0).trans rfl; have hcz37_1 : w32.cell? ⟨gb180, 1, none⟩ = some (.int .i64 0) := (blk_cell BK180.out 1).trans rfl; have hfz37_0 := blk_frozen BK180.out 0; have hfz37_1 := blk_frozen BK180.out 1))
            have n0_ : Aside0 (Kd.R k48 48 ((w32.setCell ⟨gb180, 0, none⟩ (.int .i64 t178)).setCell ⟨gb180, 1, none⟩ (.int .i64 t179)) w.heap.size (fun k_ => k_ ≠ gb165 ∧ k_ ≠ gb169 ∧ k_ ≠ gb180) (.slice Ao30 x14_2.length co30) x14_2) := ⟨by (with_reducible repeat (first | apply Kd.R_alloc | apply Kd.R_drewN | apply Kd.R_drew)); exact Kd.R_mono (Kd.R_far (p := ⟨gb180, 1, none⟩) (Kd.R_far (p := ⟨gb180, 0, none⟩) (Kd.R_mono HO_14.out (fun k_ hk => (⟨hk, hk.2⟩ : _ ∧ k_ ≠ gb180))) (fun _ hk => hk.2) (.int .i64 t178)) (fun _ hk => hk.2) (.int .i64 t179)) (fun _ hk => ⟨hk.1.1.1, ⟨hk.1.1.2, hk.1.2⟩⟩)⟩
            have n1_ : Aside0 (((w32.setCell ⟨gb180, 0, none⟩ (.int .i64 t178)).setCell ⟨gb180, 1, none⟩ (.int .i64 t179)).heap[gb164]? = some (.cells #[.int .i64 a0_0, .int .i64 a0_1, .int .i64 a0_2, .int .i64 a0_3] 59 (0, 0))) := ⟨by (with_reducible repeat (first | refine blk_drewN ?_ _ | refine blk_drew ?_ | refine blk_alloc ?_ _)); refine blk_far ?_ NB164_180.out _; (with_reducible repeat (first | refine blk_drewN ?_ _ | refine blk_drew ?_ | refine blk_alloc ?_ _)); refine blk_far ?_ NB164_180.out _; (with_reducible repeat (first | refine blk_drewN ?_ _ | refine blk_drew ?_ | refine blk_alloc ?_ _)); exact BK164.out⟩
            have n2_ : Aside0 (((w32.setCell ⟨gb180, 0, none⟩ (.int .i64 t178)).setCell ⟨gb180, 1, none⟩ (.int .i64 t179)).heap[gb165]? = some (.cells #[.int .i64 a1_0, .int .i64 a1_1] 48 (0, 0))) := ⟨by (with_reducible repeat (first | refine blk_drewN ?_ _ | refine blk_drew ?_ | refine blk_alloc ?_ _)); refine blk_far ?_ NB165_180.out _; (with_reducible repeat (first | refine blk_drewN ?_ _ | refine blk_drew ?_ | refine blk_alloc ?_ _)); refine blk_far ?_ NB165_180.out _; (with_reducible repeat (first | refine blk_drewN ?_ _ | refine blk_drew ?_ | refine blk_alloc ?_ _)); exact BK165.out⟩
            have n3_ : Aside0 (((w32.setCell ⟨gb180, 0, none⟩ (.int .i64 t178)).setCell ⟨gb180, 1, none⟩ (.int .i64 t179)).heap[gb166]? = some (.cells #[.int .i64 0, .int .i64 0, .int .i64 0, .int .i64 0] 59 (0, 0))) := ⟨by (with_reducible repeat (first | refine blk_drewN ?_ _ | refine blk_drew ?_ | refine blk_alloc ?_ _)); refine blk_far ?_ NB166_180.out _; (with_reducible repeat (first | refine blk_drewN ?_ _ | refine blk_drew ?_ | refine blk_alloc ?_ _)); refine blk_far ?_ NB166_180.out _; (with_reducible repeat (first | refine blk_drewN ?_ _ | refine blk_drew ?_ | refine blk_alloc ?_ _)); exact BK166.out⟩
            have n4_ : Aside0 (((w32.setCell ⟨gb180, 0, none⟩ (.int .i64 t178)).setCell ⟨gb180, 1, none⟩ (.int .i64 t179)).heap[gb169]? = some (.cells #[.int .i64 t167, .int .i64 t168] 48 (0, 0))) := ⟨by (with_reducible repeat (first | refine blk_drewN ?_ _ | refine blk_drew ?_ | refine blk_alloc ?_ _)); refine blk_far ?_ NB169_180.out _; (with_reducible repeat (first | refine blk_drewN ?_ _ | refine blk_drew ?_ | refine blk_alloc ?_ _)); refine blk_far ?_ NB169_180.out _; (with_reducible repeat (first | refine blk_drewN ?_ _ | refine blk_drew ?_ | refine blk_alloc ?_ _)); exact BK169.out⟩
            have n5_ : Aside0 (((w32.setCell ⟨gb180, 0, none⟩ (.int .i64 t178)).setCell ⟨gb180, 1, none⟩ (.int .i64 t179)).heap[gb180]? = some (.cells #[.int .i64 t178, .int .i64 t179] 48 (0, 0))) := ⟨by (with_reducible repeat (first | refine blk_drewN ?_ _ | refine blk_drew ?_ | refine blk_alloc ?_ _)); refine blk_put (cs := #[.int .i64 t178, .int .i64 0]) ?_ 1 _ rfl; (with_reducible repeat (first | refine blk_drewN ?_ _ | refine blk_drew ?_ | refine blk_alloc ?_ _)); refine blk_put (cs := #[.int .i64 0, .int .i64 0]) ?_ 0 _ rfl; (with_reducible repeat (first | refine blk_drewN ?_ _ | refine blk_drew ?_ | refine blk_alloc ?_ _)); exact BK180.out⟩
            have n6_ : Aside0 (Below w.heap.size w ((w32.setCell ⟨gb180, 0, none⟩ (.int .i64 t178)).setCell ⟨gb180, 1, none⟩ (.int .i64 t179))) := ⟨by repeat (first | (with_reducible first | exact HB.out | apply below_alloc | apply pw_below_drewN | apply below_drew1 | refine below_set ?_ GE164.out | refine below_set ?_ GE165.out | refine below_set ?_ GE166.out | refine below_set ?_ GE169.out | refine below_set ?_ GE180.out) | exact HB.out)⟩
            (try clear HO_14)
            (try clear BK164)
            (try clear BK165)
            (try clear BK166)
            (try clear BK169)
            (try clear BK180)
            (try clear HB)
            generalize ((w32.setCell ⟨gb180, 0, none⟩ (.int .i64 t178)).setCell ⟨gb180, 1, none⟩ (.int .i64 t179)) = w38 at n0_ n1_ n2_ n3_ n4_ n5_ n6_ ⊢
            have HO_14 := n0_
            have BK164 := n1_
            have BK165 := n2_
            have BK166 := n3_
            have BK169 := n4_
            have BK180 := n5_
            have HB := n6_
            clear n0_ n1_ n2_ n3_ n4_ n5_ n6_
            have n0_ := Aside0.mk (Kd.R_drew HO_14.out)
            have n1_ := Aside0.mk (blk_drew BK164.out)
            have n2_ := Aside0.mk (blk_drew BK165.out)
            have n3_ := Aside0.mk (blk_drew BK166.out)
            have n4_ := Aside0.mk (blk_drew BK169.out)
            have n5_ := Aside0.mk (blk_drew BK180.out)
            have n6_ := Aside0.mk (below_drew1 HB.out)
            clear HO_14
            clear BK164
            clear BK165
            clear BK166
            clear BK169
            clear BK180
            clear HB
            have HO_14 := n0_
            have BK164 := n1_
            have BK165 := n2_
            have BK166 := n3_
            have BK169 := n4_
            have BK180 := n5_
            have HB := n6_
            clear n0_ n1_ n2_ n3_ n4_ n5_ n6_
            refine start_ (n := 24) (S := fun w' => w'.cell? ⟨gb180, 0, none⟩ = some (.int .i64 t178) ∧ w'.cell? ⟨gb180, 1, none⟩ = some (.int .i64 t179) ∧ w'.cell? ⟨gb164, 0, none⟩ = some (.int .i64 a0_0) ∧ w'.cell? ⟨gb164, 1, none⟩ = some (.int .i64 a0_1) ∧ w'.cell? ⟨gb164, 2, none⟩ = some (.int .i64 a0_2) ∧ w'.cell? ⟨gb164, 3, none⟩ = some (.int .i64 a0_3)) (ds := []) #[false, false, false, false, false, false, false, false, false, false, false, false, false, false, false, false, false, false, false, false, false, false, false, false] (by kernel_rfl) rfl rfl ⟨(blk_cell BK180.out 0).trans rfl, (blk_cell BK180.out 1).trans rfl, (blk_cell BK164.out 0).trans rfl, (blk_cell BK164.out 1).trans rfl, (blk_cell BK164.out 2).trans rfl, (blk_cell BK164.out 3).trans rfl⟩ (fun hHeld => ?_); refine with_tabW bivouacref19_Serve.tab13 bivouacref19_Serve.bits13 (fun HT_ HW_ => ?_)
            generalize w38.drew = w39 at HO_14 BK164 BK165 BK166 BK169 BK180 HB hHeld ⊢
            refine pure_ (i := 0) (N := some 58) (v := ?_) (a' := ?_) #[true, false, false, false, false, false, false, false, false, false, false, false, false, false, false, false, false, false, false, false, false, false, false, false] rfl rfl (any_of HT_.out (by kernel_rfl)) (fun _ _ _ h => h) (Or.inl ⟨by rfl, ?_⟩) ?_ ?_
            rotate_left
            · intro w'
              go_simp
              with_reducible rfl
            rotate_left
            · simp only [Act.put, List.setIfInBounds_toArray, List.set_cons_zero, List.set_cons_succ, i64_w, i32_w]
              rfl
            refine pure_ (i := 1) (N := some 59) (v := ?_) (a' := ?_) #[true, true, false, false, false, false, false, false, false, false, false, false, false, false, false, false, false, false, false, false, false, false, false, false] rfl rfl (any_of HT_.out (by kernel_rfl)) (fun _ _ _ h => h) (Or.inl ⟨by rfl, ?_⟩) ?_ ?_
            rotate_left
            · intro w'
              go_simp
              with_reducible rfl
            rotate_left
            · simp only [Act.put, List.setIfInBounds_toArray, List.set_cons_zero, List.set_cons_succ, i64_w, i32_w]
              rfl
            refine pure_ (i := 4) (N := some 62) (v := ?_) (a' := ?_) #[true, true, false, false, true, false, false, false, false, false, false, false, false, false, false, false, false, false, false, false, false, false, false, false] rfl rfl (any_of HT_.out (by kernel_rfl)) (fun _ _ _ h => h) (Or.inl ⟨by rfl, ?_⟩) ?_ ?_
            rotate_left
            · intro w'
              go_simp
              with_reducible rfl
            rotate_left
            · simp only [Act.put, List.setIfInBounds_toArray, List.set_cons_zero, List.set_cons_succ, i64_w, i32_w]
              rfl
            refine pure_ (i := 7) (N := some 65) (v := ?_) (a' := ?_) #[true, true, false, false, true, false, false, true, false, false, false, false, false, false, false, false, false, false, false, false, false, false, false, false] rfl rfl (any_of HT_.out (by kernel_rfl)) (fun _ _ _ h => h) (Or.inl ⟨by rfl, ?_⟩) ?_ ?_
            rotate_left
            · intro w'
              go_simp
              with_reducible rfl
            rotate_left
            · simp only [Act.put, List.setIfInBounds_toArray, List.set_cons_zero, List.set_cons_succ, i64_w, i32_w]
              rfl
            refine pure_ (i := 8) (N := some 66) (v := ?_) (a' := ?_) #[true, true, false, false, true, false, false, true, true, false, false, false, false, false, false, false, false, false, false, false, false, false, false, false] rfl rfl (any_of HT_.out (by kernel_rfl)) (fun _ _ _ h => h) (Or.inl ⟨by rfl, ?_⟩) ?_ ?_
            rotate_left
            · intro w'
              go_simp
              with_reducible rfl
            rotate_left
            · simp only [Act.put, List.setIfInBounds_toArray, List.set_cons_zero, List.set_cons_succ, i64_w, i32_w]
              rfl
            refine pure_ (i := 11) (N := some 69) (v := ?_) (a' := ?_) #[true, true, false, false, true, false, false, true, true, false, false, true, false, false, false, false, false, false, false, false, false, false, false, false] rfl rfl (any_of HT_.out (by kernel_rfl)) (fun _ _ _ h => h) (Or.inl ⟨by rfl, ?_⟩) ?_ ?_
            rotate_left
            · intro w'
              go_simp
              with_reducible rfl
            rotate_left
            · simp only [Act.put, List.setIfInBounds_toArray, List.set_cons_zero, List.set_cons_succ, i64_w, i32_w]
              rfl
            refine pure_ (i := 14) (N := some 72) (v := ?_) (a' := ?_) #[true, true, false, false, true, false, false, true, true, false, false, true, false, false, true, false, false, false, false, false, false, false, false, false] rfl rfl (any_of HT_.out (by kernel_rfl)) (fun _ _ _ h => h) (Or.inl ⟨by rfl, ?_⟩) ?_ ?_
            rotate_left
            · intro w'
              go_simp
              with_reducible rfl
            rotate_left
            · simp only [Act.put, List.setIfInBounds_toArray, List.set_cons_zero, List.set_cons_succ, i64_w, i32_w]
              rfl
            refine pure_ (i := 16) (N := some 74) (v := ?_) (a' := ?_) #[true, true, false, false, true, false, false, true, true, false, false, true, false, false, true, false, true, false, false, false, false, false, false, false] rfl rfl (any_of HT_.out (by kernel_rfl)) (fun _ _ _ h => h) (Or.inl ⟨by rfl, ?_⟩) ?_ ?_
            rotate_left
            · intro w'
              go_simp
              with_reducible rfl
            rotate_left
            · simp only [Act.put, List.setIfInBounds_toArray, List.set_cons_zero, List.set_cons_succ, i64_w, i32_w]
              rfl
            refine pure_ (i := 19) (N := some 77) (v := ?_) (a' := ?_) #[true, true, false, false, true, false, false, true, true, false, false, true, false, false, true, false, true, false, false, true, false, false, false, false] rfl rfl (any_of HT_.out (by kernel_rfl)) (fun _ _ _ h => h) (Or.inl ⟨by rfl, ?_⟩) ?_ ?_
            rotate_left
            · intro w'
              go_simp
              with_reducible rfl
            rotate_left
            · simp only [Act.put, List.setIfInBounds_toArray, List.set_cons_zero, List.set_cons_succ, i64_w, i32_w]
              rfl
            refine pure_ (i := 20) (N := some 78) (v := ?_) (a' := ?_) #[true, true, false, false, true, false, false, true, true, false, false, true, false, false, true, false, true, false, false, true, true, false, false, false] rfl rfl (any_of HT_.out (by kernel_rfl)) (fun _ _ _ h => h) (Or.inl ⟨by rfl, ?_⟩) ?_ ?_
            rotate_left
            · intro w'
              go_simp
              with_reducible rfl
            rotate_left
            · simp only [Act.put, List.setIfInBounds_toArray, List.set_cons_zero, List.set_cons_succ, i64_w, i32_w]
              rfl
            refine take_ (i := 2) (N := some 60) (v := ?_) (a' := ?_) #[true, true, true, false, true, false, false, true, true, false, false, true, false, false, true, false, true, false, false, true, true, false, false, false] rfl rfl (take_ofW HT_.out HW_.out (by kernel_rfl)) (fun _ _ _ h => h) (Or.inl ⟨by rfl, ?_⟩) hHeld ?_ ?_
            rotate_left
            · rintro w' ⟨s0, s1, s2, s3, s4, s5⟩
              go_simp
              with_reducible rfl
            rotate_left
            · simp only [Act.put, List.setIfInBounds_toArray, List.set_cons_zero, List.set_cons_succ, i64_w, i32_w]
              rfl
            refine pure_ (i := 3) (N := some 61) (v := ?_) (a' := ?_) #[true, true, true, true, true, false, false, true, true, false, false, true, false, false, true, false, true, false, false, true, true, false, false, false] rfl rfl (any_of HT_.out (by kernel_rfl)) (fun _ _ _ h => h) (Or.inl ⟨by rfl, ?_⟩) ?_ ?_
            rotate_left
            · intro w'
              go_simp
              with_reducible rfl
            rotate_left
            · simp only [Act.put, List.setIfInBounds_toArray, List.set_cons_zero, List.set_cons_succ, i64_w, i32_w]
              rfl
            refine take_ (i := 5) (N := some 63) (v := ?_) (a' := ?_) #[true, true, true, true, true, true, false, true, true, false, false, true, false, false, true, false, true, false, false, true, true, false, false, false] rfl rfl (take_ofW HT_.out HW_.out (by kernel_rfl)) (fun _ _ _ h => h) (Or.inl ⟨by rfl, ?_⟩) hHeld ?_ ?_
            rotate_left
            · rintro w' ⟨s0, s1, s2, s3, s4, s5⟩
              go_simp
              with_reducible rfl
            rotate_left
            · simp only [Act.put, List.setIfInBounds_toArray, List.set_cons_zero, List.set_cons_succ, i64_w, i32_w]
              rfl
            refine take_ (i := 9) (N := some 67) (v := ?_) (a' := ?_) #[true, true, true, true, true, true, false, true, true, true, false, true, false, false, true, false, true, false, false, true, true, false, false, false] rfl rfl (take_ofW HT_.out HW_.out (by kernel_rfl)) (fun _ _ _ h => h) (Or.inl ⟨by rfl, ?_⟩) hHeld ?_ ?_
            rotate_left
            · rintro w' ⟨s0, s1, s2, s3, s4, s5⟩
              go_simp
              with_reducible rfl
            rotate_left
            · simp only [Act.put, List.setIfInBounds_toArray, List.set_cons_zero, List.set_cons_succ, i64_w, i32_w]
              rfl
            refine pure_ (i := 10) (N := some 68) (v := ?_) (a' := ?_) #[true, true, true, true, true, true, false, true, true, true, true, true, false, false, true, false, true, false, false, true, true, false, false, false] rfl rfl (any_of HT_.out (by kernel_rfl)) (fun _ _ _ h => h) (Or.inl ⟨by rfl, ?_⟩) ?_ ?_
            rotate_left
            · intro w'
              go_simp
              with_reducible rfl
            rotate_left
            · simp only [Act.put, List.setIfInBounds_toArray, List.set_cons_zero, List.set_cons_succ, i64_w, i32_w]
              rfl
            refine take_ (i := 12) (N := some 70) (v := ?_) (a' := ?_) #[true, true, true, true, true, true, false, true, true, true, true, true, true, false, true, false, true, false, false, true, true, false, false, false] rfl rfl (take_ofW HT_.out HW_.out (by kernel_rfl)) (fun _ _ _ h => h) (Or.inl ⟨by rfl, ?_⟩) hHeld ?_ ?_
            rotate_left
            · rintro w' ⟨s0, s1, s2, s3, s4, s5⟩
              go_simp
              with_reducible rfl
            rotate_left
            · simp only [Act.put, List.setIfInBounds_toArray, List.set_cons_zero, List.set_cons_succ, i64_w, i32_w]
              rfl
            refine take_ (i := 15) (N := some 73) (v := ?_) (a' := ?_) #[true, true, true, true, true, true, false, true, true, true, true, true, true, false, true, true, true, false, false, true, true, false, false, false] rfl rfl (take_ofW HT_.out HW_.out (by kernel_rfl)) (fun _ _ _ h => h) (Or.inl ⟨by rfl, ?_⟩) hHeld ?_ ?_
            rotate_left
            · rintro w' ⟨s0, s1, s2, s3, s4, s5⟩
              go_simp
              with_reducible rfl
            rotate_left
            · simp only [Act.put, List.setIfInBounds_toArray, List.set_cons_zero, List.set_cons_succ, i64_w, i32_w]
              rfl
            refine take_ (i := 17) (N := some 75) (v := ?_) (a' := ?_) #[true, true, true, true, true, true, false, true, true, true, true, true, true, false, true, true, true, true, false, true, true, false, false, false] rfl rfl (take_ofW HT_.out HW_.out (by kernel_rfl)) (fun _ _ _ h => h) (Or.inl ⟨by rfl, ?_⟩) hHeld ?_ ?_
            rotate_left
            · rintro w' ⟨s0, s1, s2, s3, s4, s5⟩
              go_simp
              with_reducible rfl
            rotate_left
            · simp only [Act.put, List.setIfInBounds_toArray, List.set_cons_zero, List.set_cons_succ, i64_w, i32_w]
              rfl
            refine one_ (i := 6) (N := some 64) #[true, true, true, true, true, true, true, true, true, true, true, true, true, false, true, true, true, true, false, true, true, false, false, false] rfl rfl (one_of HT_.out (by kernel_rfl)) (by decide) (fun K hK => ?_)
            refine goes_ Try.func84 (by kernel_rfl) rfl #[.int .i64 (wrap64 ((wrap64 (a0_0 + a1_0)) - t178)), .int .i64 a0_2] (by rfl) rfl rfl (by (try simp only [List.map_toArray, List.map_cons, List.map_nil]); first | done | rfl | (simp only [List.length_drop, List.length_take]; rfl)) ?_
            with_reducible refine (bivouacref19_least.calls (wrap64 ((wrap64 (a0_0 + a1_0)) - t178)) a0_2 t181 _ A28.out).mono ?_
            rintro e w' ⟨rfl, ⟨nd, rfl⟩⟩
            refine ⟨_, rfl, ?_⟩
            refine hK.out _ _ ⟨(blk_cell BK180.out 0).trans rfl, (blk_cell BK180.out 1).trans rfl, (blk_cell BK164.out 0).trans rfl, (blk_cell BK164.out 1).trans rfl, (blk_cell BK164.out 2).trans rfl, (blk_cell BK164.out 3).trans rfl⟩ (fun hHeld => ?_)
            clear hK K
            refine norm_ (a' := ?_) ?_ ?_
            rotate_left
            · show Act.put _ (some 64) _ = _
              simp only [Act.put, List.setIfInBounds_toArray, List.set_cons_zero, List.set_cons_succ, i64_w, i32_w]
              rfl
            refine one_ (i := 13) (N := some 71) #[true, true, true, true, true, true, true, true, true, true, true, true, true, true, true, true, true, true, false, true, true, false, false, false] rfl rfl (one_of HT_.out (by kernel_rfl)) (by decide) (fun K hK => ?_)
            refine goes_ Try.func84 (by kernel_rfl) rfl #[.int .i64 (wrap64 ((wrap64 (a0_1 + a1_1)) - t179)), .int .i64 a0_3] (by rfl) rfl rfl (by (try simp only [List.map_toArray, List.map_cons, List.map_nil]); first | done | rfl | (simp only [List.length_drop, List.length_take]; rfl)) ?_
            with_reducible refine (bivouacref19_least.calls (wrap64 ((wrap64 (a0_1 + a1_1)) - t179)) a0_3 t182 _ A29.out).mono ?_
            rintro e w' ⟨rfl, ⟨nd, rfl⟩⟩
            refine ⟨_, rfl, ?_⟩
            refine hK.out _ _ ⟨(blk_cell BK180.out 0).trans rfl, (blk_cell BK180.out 1).trans rfl, (blk_cell BK164.out 0).trans rfl, (blk_cell BK164.out 1).trans rfl, (blk_cell BK164.out 2).trans rfl, (blk_cell BK164.out 3).trans rfl⟩ (fun hHeld => ?_)
            clear hK K
            refine norm_ (a' := ?_) ?_ ?_
            rotate_left
            · show Act.put _ (some 71) _ = _
              simp only [Act.put, List.setIfInBounds_toArray, List.set_cons_zero, List.set_cons_succ, i64_w, i32_w]
              rfl
            refine pure_ (i := 18) (N := some 76) (v := ?_) (a' := ?_) #[true, true, true, true, true, true, true, true, true, true, true, true, true, true, true, true, true, true, true, true, true, false, false, false] rfl rfl (any_of HT_.out (by kernel_rfl)) (fun _ _ _ h => h) (Or.inl ⟨by rfl, ?_⟩) ?_ ?_
            rotate_left
            · intro w'
              go_simp
              with_reducible rfl
            rotate_left
            · simp only [Act.put, List.setIfInBounds_toArray, List.set_cons_zero, List.set_cons_succ, i64_w, i32_w]
              rfl
            refine one_ (i := 21) (N := none) #[true, true, true, true, true, true, true, true, true, true, true, true, true, true, true, true, true, true, true, true, true, true, false, false] rfl rfl (one_of HT_.out (by kernel_rfl)) (by decide) (fun K hK => ?_)
            have hs40 : w39.cell? ⟨gb166, 0, none⟩ = some (.int .i64 0) := (blk_cell BK166.out 0).trans rfl
            have hfs40 := blk_frozen BK166.out 0
            have hns40_0 := NB164_166.out
            have hns40_1 := NB165_166.out
            have hns40_3 := NB169_166.out
            have hns40_4 := NB180_166.out
            have hms40_0 := NB166_164.out
            have hms40_1 := NB166_165.out
            have hms40_3 := NB166_169.out
            have hms40_4 := NB166_180.out
            have hs41 : w39.cell? ⟨gb166, 1, none⟩ = some (.int .i64 0) := (blk_cell BK166.out 1).trans rfl
            have hfs41 := blk_frozen BK166.out 1
            have hns41_0 := NB164_166.out
            have hns41_1 := NB165_166.out
            have hns41_3 := NB169_166.out
            have hns41_4 := NB180_166.out
            have hms41_0 := NB166_164.out
            have hms41_1 := NB166_165.out
            have hms41_3 := NB166_169.out
            have hms41_4 := NB166_180.out
            have hs42 : w39.cell? ⟨gb166, 2, none⟩ = some (.int .i64 0) := (blk_cell BK166.out 2).trans rfl
            have hfs42 := blk_frozen BK166.out 2
            have hns42_0 := NB164_166.out
            have hns42_1 := NB165_166.out
            have hns42_3 := NB169_166.out
            have hns42_4 := NB180_166.out
            have hms42_0 := NB166_164.out
            have hms42_1 := NB166_165.out
            have hms42_3 := NB166_169.out
            have hms42_4 := NB166_180.out
            have hs43 : w39.cell? ⟨gb166, 3, none⟩ = some (.int .i64 0) := (blk_cell BK166.out 3).trans rfl
            have hfs43 := blk_frozen BK166.out 3
            have hns43_0 := NB164_166.out
            have hns43_1 := NB165_166.out
            have hns43_3 := NB169_166.out
            have hns43_4 := NB180_166.out
            have hms43_0 := NB166_164.out
            have hms43_1 := NB166_165.out
            have hms43_3 := NB166_169.out
            have hms43_4 := NB166_180.out
            refine skip_ (w1 := ?_) (by rfl) rfl ?_ ?_
            rotate_left
            · go_simp
              rfl
            refine hK.out _ _ ⟨((cell_far (p := ⟨gb166, _, none⟩) NB180_166.out _).trans (((cell_far (p := ⟨gb166, _, none⟩) NB180_166.out _).trans (((cell_far (p := ⟨gb166, _, none⟩) NB180_166.out _).trans (((cell_far (p := ⟨gb166, _, none⟩) NB180_166.out _).trans (hHeld.1)))))))), ((cell_far (p := ⟨gb166, _, none⟩) NB180_166.out _).trans (((cell_far (p := ⟨gb166, _, none⟩) NB180_166.out _).trans (((cell_far (p := ⟨gb166, _, none⟩) NB180_166.out _).trans (((cell_far (p := ⟨gb166, _, none⟩) NB180_166.out _).trans (hHeld.2.1)))))))), ((cell_far (p := ⟨gb166, _, none⟩) NB164_166.out _).trans (((cell_far (p := ⟨gb166, _, none⟩) NB164_166.out _).trans (((cell_far (p := ⟨gb166, _, none⟩) NB164_166.out _).trans (((cell_far (p := ⟨gb166, _, none⟩) NB164_166.out _).trans (hHeld.2.2.1)))))))), ((cell_far (p := ⟨gb166, _, none⟩) NB164_166.out _).trans (((cell_far (p := ⟨gb166, _, none⟩) NB164_166.out _).trans (((cell_far (p := ⟨gb166, _, none⟩) NB164_166.out _).trans (((cell_far (p := ⟨gb166, _, none⟩) NB164_166.out _).trans (hHeld.2.2.2.1)))))))), ((cell_far (p := ⟨gb166, _, none⟩) NB164_166.out _).trans (((cell_far (p := ⟨gb166, _, none⟩) NB164_166.out _).trans (((cell_far (p := ⟨gb166, _, none⟩) NB164_166.out _).trans (((cell_far (p := ⟨gb166, _, none⟩) NB164_166.out _).trans (hHeld.2.2.2.2.1)))))))), ((cell_far (p := ⟨gb166, _, none⟩) NB164_166.out _).trans (((cell_far (p := ⟨gb166, _, none⟩) NB164_166.out _).trans (((cell_far (p := ⟨gb166, _, none⟩) NB164_166.out _).trans (((cell_far (p := ⟨gb166, _, none⟩) NB164_166.out _).trans (hHeld.2.2.2.2.2))))))))⟩ (fun hHeld => ?_)
            clear hK K
            refine pure_ (i := 22) (N := some 7) (v := ?_) (a' := ?_) #[true, true, true, true, true, true, true, true, true, true, true, true, true, true, true, true, true, true, true, true, true, true, true, false] rfl rfl (any_of HT_.out (by kernel_rfl)) (fun _ _ _ h => h) (Or.inl ⟨by rfl, ?_⟩) ?_ ?_
            rotate_left
            · intro w'
              go_simp
              with_reducible rfl
            rotate_left
            · simp only [Act.put, List.setIfInBounds_toArray, List.set_cons_zero, List.set_cons_succ, i64_w, i32_w]
              rfl
            refine pure_ (i := 23) (N := some 8) (v := ?_) (a' := ?_) #[true, true, true, true, true, true, true, true, true, true, true, true, true, true, true, true, true, true, true, true, true, true, true, true] rfl rfl (any_of HT_.out (by kernel_rfl)) (fun _ _ _ h => h) (Or.inl ⟨by rfl, ?_⟩) ?_ ?_
            rotate_left
            · intro w'
              go_simp
              with_reducible rfl
            rotate_left
            · simp only [Act.put, List.setIfInBounds_toArray, List.set_cons_zero, List.set_cons_succ, i64_w, i32_w]
              rfl
            refine done_ (done_of HT_.out (by kernel_rfl)) ?_
            try go_wp2
            refine bodyPost_ret (results_ctt rfl _ _ gb166 59 #[.int .i64 t181, .int .i64 t182, .int .i64 a0_2, .int .i64 a0_3] (0, 0) _ rfl (by (with_reducible repeat (first | refine blk_drewN ?_ _ | refine blk_drew ?_ | refine blk_alloc ?_ _)); refine blk_put (cs := #[.int .i64 t181, .int .i64 t182, .int .i64 a0_2, .int .i64 0]) ?_ 3 _ rfl; (with_reducible repeat (first | refine blk_drewN ?_ _ | refine blk_drew ?_ | refine blk_alloc ?_ _)); refine blk_put (cs := #[.int .i64 t181, .int .i64 t182, .int .i64 0, .int .i64 0]) ?_ 2 _ rfl; (with_reducible repeat (first | refine blk_drewN ?_ _ | refine blk_drew ?_ | refine blk_alloc ?_ _)); refine blk_put (cs := #[.int .i64 t181, .int .i64 0, .int .i64 0, .int .i64 0]) ?_ 1 _ rfl; (with_reducible repeat (first | refine blk_drewN ?_ _ | refine blk_drew ?_ | refine blk_alloc ?_ _)); refine blk_put (cs := #[.int .i64 0, .int .i64 0, .int .i64 0, .int .i64 0]) ?_ 0 _ rfl; (with_reducible repeat (first | refine blk_drewN ?_ _ | refine blk_drew ?_ | refine blk_alloc ?_ _)); exact BK166.out) Try.underlying59 rfl (by kernel_rfl)) rfl ?_
            exact ⟨_, by first | rfl | (simp [errW_none, errW_some] <;> rfl) | (simp [*, errW_none, errW_some] <;> rfl), by (with_reducible repeat (first | apply Kd.R_alloc | apply Kd.R_drewN | apply Kd.R_drew)); exact Kd.R_mono (Kd.R_far (p := ⟨gb166, 3, none⟩) (Kd.R_far (p := ⟨gb166, 2, none⟩) (Kd.R_far (p := ⟨gb166, 1, none⟩) (Kd.R_far (p := ⟨gb166, 0, none⟩) (Kd.R_types HO_14.out BK166.out (by decide)) (fun _ hk => hk.2) (.int .i64 t181)) (fun _ hk => hk.2) (.int .i64 t182)) (fun _ hk => hk.2) (.int .i64 a0_2)) (fun _ hk => hk.2) (.int .i64 a0_3)) (fun _ hk => trivial), by repeat (first | (with_reducible first | exact HB.out | apply below_alloc | apply pw_below_drewN | apply below_drew1 | refine below_set ?_ GE164.out | refine below_set ?_ GE165.out | refine below_set ?_ GE166.out | refine below_set ?_ GE169.out | refine below_set ?_ GE180.out) | exact HB.out)⟩
end Go.Proofs.Ytikhgdbbbingbaa.MPu
