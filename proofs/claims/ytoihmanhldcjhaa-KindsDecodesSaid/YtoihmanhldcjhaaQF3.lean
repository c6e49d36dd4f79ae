/- What the claim's proof leans on: texts of this claim, laid together. -/
import Derived.Test.YtoihmanhldcjhaaQF2
import Derived.Test.YtoihmanhldcjhaaProg
import Derived.Below
import Ieee.Arith
import GoSem.Core.Float
import Derived.WalkKit
import Derived.WalkSpells
import Derived.WalkLawsBesides
import Derived.Lib.Hide
import Derived.RegionTactic
import Derived.ChangeAlike
import Derived.Defers
import Derived.Recover
import Derived.Tactics2
import Derived.Laws.Externs
import Derived.Laws.FloatArith
import Derived.Laws.Pointers
namespace Go.Proofs.Ytoihmanhldcjhaa.Id
open Go
set_option linter.unusedVariables false
theorem get8 {α : Type} (a0 a1 a2 a3 a4 a5 a6 a7 : α) (l : List α) (n : Nat) : (a0 :: a1 :: a2 :: a3 :: a4 :: a5 :: a6 :: a7 :: l)[n + 8]? = l[n]? := by simp
theorem b_true (b : Bool) : (b == true) = b := by cases b <;> rfl
theorem b_false (b : Bool) : (b == false) = !b := by cases b <;> rfl
theorem del_nil (id : Nat) : del id [] = [] := rfl
theorem del_cons (id k : Nat) (b : Blk) (F : Hp) : del id ((k, b) :: F) = if k = id then del id F else (k, b) :: del id F := by
  unfold del; rw [List.filter_cons]; by_cases h : k = id <;> simp [h]
theorem remN_none : ∀ F : Hp, remN [] F = F
  | [] => rfl
  | (k, b) :: F => by rw [remN]; simp [hasN, remN_none F]
theorem ite_some_bool (c x y : Bool) : (if c = true then some (Value.bool x) else some (Value.bool y)) = some (Value.bool (if c = true then x else y)) := by cases c <;> rfl
theorem pj_Res_v (v : Value) (F : Hp) (nx : Nat) (vc : Prop) : (Res.mk v F nx vc).v = v := rfl
theorem pj_Res_F (v : Value) (F : Hp) (nx : Nat) (vc : Prop) : (Res.mk v F nx vc).F = F := rfl
theorem pj_Res_nx (v : Value) (F : Hp) (nx : Nat) (vc : Prop) : (Res.mk v F nx vc).nx = nx := rfl
theorem pj_Res_vc (v : Value) (F : Hp) (nx : Nat) (vc : Prop) : (Res.mk v F nx vc).vc = vc := rfl
theorem pj_St_n (n : Nat) (fr : List (Nat × Value)) (F : Hp) (nx : Nat) (ds : List Deferred) : (St.mk n fr F nx ds).n = n := rfl
theorem pj_St_fr (n : Nat) (fr : List (Nat × Value)) (F : Hp) (nx : Nat) (ds : List Deferred) : (St.mk n fr F nx ds).fr = fr := rfl
theorem pj_St_F (n : Nat) (fr : List (Nat × Value)) (F : Hp) (nx : Nat) (ds : List Deferred) : (St.mk n fr F nx ds).F = F := rfl
theorem pj_St_nx (n : Nat) (fr : List (Nat × Value)) (F : Hp) (nx : Nat) (ds : List Deferred) : (St.mk n fr F nx ds).nx = nx := rfl
theorem pj_St_ds (n : Nat) (fr : List (Nat × Value)) (F : Hp) (nx : Nat) (ds : List Deferred) : (St.mk n fr F nx ds).ds = ds := rfl
theorem pj_Blk_cells (cells : List Value) (elem : TypeId) (sz : Nat) (ro loose : Bool) : (Blk.mk cells elem sz ro loose).cells = cells := rfl
theorem pj_Blk_elem (cells : List Value) (elem : TypeId) (sz : Nat) (ro loose : Bool) : (Blk.mk cells elem sz ro loose).elem = elem := rfl
theorem pj_Blk_sz (cells : List Value) (elem : TypeId) (sz : Nat) (ro loose : Bool) : (Blk.mk cells elem sz ro loose).sz = sz := rfl
theorem pj_Blk_ro (cells : List Value) (elem : TypeId) (sz : Nat) (ro loose : Bool) : (Blk.mk cells elem sz ro loose).ro = ro := rfl
theorem pj_Blk_loose (cells : List Value) (elem : TypeId) (sz : Nat) (ro loose : Bool) : (Blk.mk cells elem sz ro loose).loose = loose := rfl
theorem pj_Plan_wr (wr : List (Nat × Nat)) (anc : List (List Nat)) (ch : List (Nat × List Nat)) (ac nw fl : List (List Nat)) : (Plan.mk wr anc ch ac nw fl).wr = wr := rfl
theorem pj_Plan_anc (wr : List (Nat × Nat)) (anc : List (List Nat)) (ch : List (Nat × List Nat)) (ac nw fl : List (List Nat)) : (Plan.mk wr anc ch ac nw fl).anc = anc := rfl
theorem pj_Plan_ch (wr : List (Nat × Nat)) (anc : List (List Nat)) (ch : List (Nat × List Nat)) (ac nw fl : List (List Nat)) : (Plan.mk wr anc ch ac nw fl).ch = ch := rfl
theorem pj_Plan_ac (wr : List (Nat × Nat)) (anc : List (List Nat)) (ch : List (Nat × List Nat)) (ac nw fl : List (List Nat)) : (Plan.mk wr anc ch ac nw fl).ac = ac := rfl
theorem pj_Plan_nw (wr : List (Nat × Nat)) (anc : List (List Nat)) (ch : List (Nat × List Nat)) (ac nw fl : List (List Nat)) : (Plan.mk wr anc ch ac nw fl).nw = nw := rfl
theorem pj_Plan_fl (wr : List (Nat × Nat)) (anc : List (List Nat)) (ch : List (Nat × List Nat)) (ac nw fl : List (List Nat)) : (Plan.mk wr anc ch ac nw fl).fl = fl := rfl
theorem RN : type_of% (
  And.intro (@crun.eq_1) (
  And.intro (@crun.eq_2) (
  And.intro (@crun.eq_3) (
  And.intro (@crun.eq_4) (
  And.intro (@crun.eq_5) (
  And.intro (@crun.eq_6) (
  And.intro (@crun.eq_7) (
  And.intro (@crun.eq_8) (
  And.intro (@crun.eq_9) (
  And.intro (@crun.eq_10) (
  And.intro (@crun.eq_11) (
  And.intro (@crun.eq_12) (
  And.intro (@crun.eq_13) (
  And.intro (@crun.eq_14) (
  And.intro (@crun.eq_15) (
  And.intro (@popB.eq_1) (
  And.intro (@popB.eq_2) (
  And.intro (@popB.eq_3) (
  And.intro (@popB.eq_4) (
  And.intro (@popB.eq_5) (
  And.intro (@evs.eq_1) (
  And.intro (@evs.eq_2) (
  And.intro (@rck.eq_1) (
  And.intro (@rck.eq_2) (
  And.intro (@drun.eq_1) (
  And.intro (@drun.eq_2) (
  And.intro (@endFr.eq_1) (
  And.intro (@endFr.eq_2) (
  And.intro (@opD.eq_def) (
  And.intro (@guardD.eq_def) (
  And.intro (@stepD.icallD.eq_def) (
  And.intro (@isMaker.eq_def) (
  And.intro (@CRJ.eq_def) (
  And.intro (@retQ.eq_def) (
  And.intro (@leL.eq_1) (
  And.intro (@leL.eq_2) (
  And.intro (@irun.eq_1) (
  And.intro (@irun.eq_2) (
  And.intro (@iguard.eq_def) (
  And.intro (@gslot.eq_def) (
  And.intro (@icall.eq_def) (
  And.intro (@idefer.eq_def) (
  And.intro (@St.put.eq_def) (
  And.intro (@iop.eq_def) (
  And.intro (@one1.eq_def) (
  And.intro (@one2.eq_def) (
  And.intro (@opv.eq_def) (
  And.intro (@iov.eq_def) (
  And.intro (@iargs.eq_1) (
  And.intro (@iargs.eq_2) (
  And.intro (@iparts.eq_1) (
  And.intro (@iparts.eq_2) (
  And.intro (@flat.eq_def) (
  And.intro (@flat1.eq_def) (
  And.intro (@look.eq_1) (
  And.intro (@look.eq_2) (
  And.intro (@iload.eq_def) (
  And.intro (@istore.eq_def) (
  And.intro (@ifieldAddr.eq_def) (
  And.intro (@iindexAddr.eq_def) (
  And.intro (@ipart.eq_def) (
  And.intro (@ifield.eq_def) (
  And.intro (@iindex.eq_def) (
  And.intro (@iun.eq_def) (
  And.intro (@iconv.eq_def) (
  And.intro (@ilen.eq_def) (
  And.intro (@inil.eq_def) (
  And.intro (@iextract.eq_def) (
  And.intro (@iassert.eq_def) (
  And.intro (@imakeIface.eq_def) (
  And.intro (@ibuiltin.eq_def) (
  And.intro (@ibinOp.eq_def) (
  And.intro (@ibin.eq_def) (
  And.intro (@ishift.eq_def) (
  And.intro (@isShift.eq_def) (
  And.intro (@istr.eq_def) (
  And.intro (@ibuild.eq_def) (
  And.intro (@ibuildSlice.eq_def) (
  And.intro (@iplaces.eq_1) (
  And.intro (@iplaces.eq_2) (
  And.intro (@ifill.eq_1) (
  And.intro (@ifill.eq_2) (
  And.intro (@rep.eq_1) (
  And.intro (@rep.eq_2) (
  And.intro (@putc.eq_def) (
  And.intro (@imakeSlice.eq_def) (
  And.intro (@islice.eq_def) (
  And.intro (@iopt.eq_def) (
  And.intro (@isrc.eq_def) (
  And.intro (@iappend.eq_def) (
  And.intro (@isRow.eq_def) (
  And.intro (@isTup.eq_def) (
  And.intro (@splice.eq_def) (
  And.intro (@hasN.eq_1) (
  And.intro (@hasN.eq_2) (
  And.intro (@remN.eq_1) (
  And.intro (@remN.eq_2) (
  And.intro (@inilEq.eq_def) (
  And.intro (@inilOp.eq_def) (
  And.intro (@ieqOp.eq_def) (
  And.intro (@ieqCells.eq_1) (
  And.intro (@ieqCells.eq_2) (
  And.intro (@ieqCells.eq_3) (
  And.intro (@isConst.eq_def) (
  And.intro (@istring.eq_def) (
  And.intro (@iress.eq_1) (
  And.intro (@iress.eq_2) (
  And.intro (@iress.eq_3) (
  And.intro (@ires.eq_def) (
  And.intro (@params.eq_1) (
  And.intro (@params.eq_2) (
  And.intro (@pj_Res_v) (
  And.intro (@pj_Res_F) (
  And.intro (@pj_Res_nx) (
  And.intro (@pj_Res_vc) (
  And.intro (@pj_St_n) (
  And.intro (@pj_St_fr) (
  And.intro (@pj_St_F) (
  And.intro (@pj_St_nx) (
  And.intro (@pj_St_ds) (
  And.intro (@pj_Blk_cells) (
  And.intro (@pj_Blk_elem) (
  And.intro (@pj_Blk_sz) (
  And.intro (@pj_Blk_ro) (
  And.intro (@pj_Blk_loose) (
  And.intro (@pj_Plan_wr) (
  And.intro (@pj_Plan_anc) (
  And.intro (@pj_Plan_ch) (
  And.intro (@pj_Plan_ac) (
  And.intro (@pj_Plan_nw) (
  And.intro (@pj_Plan_fl) (
  And.intro (@und_eq) (
  And.intro (@Plan.an.eq_1) (
  And.intro (@List.getD_cons_zero.{0}) (
  And.intro (@List.getD_cons_succ.{0}) (
  And.intro (@List.contains_cons.{0}) (
  And.intro (@List.contains_nil.{0}) (
  And.intro (@Bool.true_or) (
  And.intro (@Bool.false_or) (
  And.intro (@Bool.or_true) (
  And.intro (@Bool.or_false) (
  And.intro (@Go.Value.cells.eq_1) (
  And.intro (@Go.Value.cells.eq_2) (
  And.intro (@List.getElem?_cons_zero.{0}) (
  And.intro (@List.getElem?_cons_succ.{0}) (
  And.intro (@List.getElem?_toArray.{0}) (
  And.intro (@if_true.{1}) (
  And.intro (@if_false.{1}) (
  And.intro (@List.all_cons.{0}) (
  And.intro (@List.all_nil.{0}) (
  And.intro (@Bool.and_self) (
  And.intro (@Bool.true_and) (
  And.intro (@Bool.and_true) (
  And.intro (@List.length_cons.{0}) (
  And.intro (@List.length_nil.{0}) (
  And.intro (@Nat.zero_add) (
  And.intro (@Nat.add_zero) (
  And.intro (@List.take_succ_cons.{0}) (
  And.intro (@List.take_zero.{0}) (
  And.intro (@List.drop_succ_cons.{0}) (
  And.intro (@List.drop_zero.{0}) (
  And.intro (@List.set_cons_zero.{0}) (
  And.intro (@List.set_cons_succ.{0}) (
  And.intro (@List.map_cons.{0,0}) (
  And.intro (@List.map_nil.{0,0}) (
  And.intro (@List.append_eq.{0}) (
  And.intro (@List.toList_toArray.{0}) (
  And.intro (@List.cons_append.{0}) (
  And.intro (@List.nil_append.{0}) (
  And.intro (@List.append_nil.{0}) (
  And.intro (@Option.getD_some.{0}) (
  And.intro (@Option.getD_none.{0}) (
  And.intro (@Int.toNat_natCast) (
  And.intro (@Int.toNat_zero) (
  And.intro (@Nat.zero_mul) (
  And.intro (@Nat.mul_one) (
  And.intro (@Nat.one_mul) (
  And.intro (@beq_self_eq_true.{0}) (
  And.intro (@remN_none) (
  And.intro (@del_nil) (
  And.intro (@del_cons) (
  And.intro (@b_true) (
  And.intro (@b_false) (
  And.intro (@Bool.not_true) (
  And.intro (@Bool.not_false) (
  And.intro (@and_true) (
  And.intro (@true_and) (
  And.intro (@ite_some_bool) (
  (@undef.eq_1)))))))))))))))))))))))))))))))))))))))))))))))))))))))))))))))))))))))))))))))))))))))))))))))))))))))))))))))))))))))))))))))))))))))))))))))))))))))))))))))))))))))))))))))))))))))))))))) := (
  And.intro (@crun.eq_1) (
  And.intro (@crun.eq_2) (
  And.intro (@crun.eq_3) (
  And.intro (@crun.eq_4) (
  And.intro (@crun.eq_5) (
  And.intro (@crun.eq_6) (
  And.intro (@crun.eq_7) (
  And.intro (@crun.eq_8) (
  And.intro (@crun.eq_9) (
  And.intro (@crun.eq_10) (
  And.intro (@crun.eq_11) (
  And.intro (@crun.eq_12) (
  And.intro (@crun.eq_13) (
  And.intro (@crun.eq_14) (
  And.intro (@crun.eq_15) (
  And.intro (@popB.eq_1) (
  And.intro (@popB.eq_2) (
  And.intro (@popB.eq_3) (
  And.intro (@popB.eq_4) (
  And.intro (@popB.eq_5) (
  And.intro (@evs.eq_1) (
  And.intro (@evs.eq_2) (
  And.intro (@rck.eq_1) (
  And.intro (@rck.eq_2) (
  And.intro (@drun.eq_1) (
  And.intro (@drun.eq_2) (
  And.intro (@endFr.eq_1) (
  And.intro (@endFr.eq_2) (
  And.intro (@opD.eq_def) (
  And.intro (@guardD.eq_def) (
  And.intro (@stepD.icallD.eq_def) (
  And.intro (@isMaker.eq_def) (
  And.intro (@CRJ.eq_def) (
  And.intro (@retQ.eq_def) (
  And.intro (@leL.eq_1) (
  And.intro (@leL.eq_2) (
  And.intro (@irun.eq_1) (
  And.intro (@irun.eq_2) (
  And.intro (@iguard.eq_def) (
  And.intro (@gslot.eq_def) (
  And.intro (@icall.eq_def) (
  And.intro (@idefer.eq_def) (
  And.intro (@St.put.eq_def) (
  And.intro (@iop.eq_def) (
  And.intro (@one1.eq_def) (
  And.intro (@one2.eq_def) (
  And.intro (@opv.eq_def) (
  And.intro (@iov.eq_def) (
  And.intro (@iargs.eq_1) (
  And.intro (@iargs.eq_2) (
  And.intro (@iparts.eq_1) (
  And.intro (@iparts.eq_2) (
  And.intro (@flat.eq_def) (
  And.intro (@flat1.eq_def) (
  And.intro (@look.eq_1) (
  And.intro (@look.eq_2) (
  And.intro (@iload.eq_def) (
  And.intro (@istore.eq_def) (
  And.intro (@ifieldAddr.eq_def) (
  And.intro (@iindexAddr.eq_def) (
  And.intro (@ipart.eq_def) (
  And.intro (@ifield.eq_def) (
  And.intro (@iindex.eq_def) (
  And.intro (@iun.eq_def) (
  And.intro (@iconv.eq_def) (
  And.intro (@ilen.eq_def) (
  And.intro (@inil.eq_def) (
  And.intro (@iextract.eq_def) (
  And.intro (@iassert.eq_def) (
  And.intro (@imakeIface.eq_def) (
  And.intro (@ibuiltin.eq_def) (
  And.intro (@ibinOp.eq_def) (
  And.intro (@ibin.eq_def) (
  And.intro (@ishift.eq_def) (
  And.intro (@isShift.eq_def) (
  And.intro (@istr.eq_def) (
  And.intro (@ibuild.eq_def) (
  And.intro (@ibuildSlice.eq_def) (
  And.intro (@iplaces.eq_1) (
  And.intro (@iplaces.eq_2) (
  And.intro (@ifill.eq_1) (
  And.intro (@ifill.eq_2) (
  And.intro (@rep.eq_1) (
  And.intro (@rep.eq_2) (
  And.intro (@putc.eq_def) (
  And.intro (@imakeSlice.eq_def) (
  And.intro (@islice.eq_def) (
  And.intro (@iopt.eq_def) (
  And.intro (@isrc.eq_def) (
  And.intro (@iappend.eq_def) (
  And.intro (@isRow.eq_def) (
  And.intro (@isTup.eq_def) (
  And.intro (@splice.eq_def) (
  And.intro (@hasN.eq_1) (
  And.intro (@hasN.eq_2) (
  And.intro (@remN.eq_1) (
  And.intro (@remN.eq_2) (
  And.intro (@inilEq.eq_def) (
  And.intro (@inilOp.eq_def) (
  And.intro (@ieqOp.eq_def) (
  And.intro (@ieqCells.eq_1) (
  And.intro (@ieqCells.eq_2) (
  And.intro (@ieqCells.eq_3) (
  And.intro (@isConst.eq_def) (
  And.intro (@istring.eq_def) (
  And.intro (@iress.eq_1) (
  And.intro (@iress.eq_2) (
  And.intro (@iress.eq_3) (
  And.intro (@ires.eq_def) (
  And.intro (@params.eq_1) (
  And.intro (@params.eq_2) (
  And.intro (@pj_Res_v) (
  And.intro (@pj_Res_F) (
  And.intro (@pj_Res_nx) (
  And.intro (@pj_Res_vc) (
  And.intro (@pj_St_n) (
  And.intro (@pj_St_fr) (
  And.intro (@pj_St_F) (
  And.intro (@pj_St_nx) (
  And.intro (@pj_St_ds) (
  And.intro (@pj_Blk_cells) (
  And.intro (@pj_Blk_elem) (
  And.intro (@pj_Blk_sz) (
  And.intro (@pj_Blk_ro) (
  And.intro (@pj_Blk_loose) (
  And.intro (@pj_Plan_wr) (
  And.intro (@pj_Plan_anc) (
  And.intro (@pj_Plan_ch) (
  And.intro (@pj_Plan_ac) (
  And.intro (@pj_Plan_nw) (
  And.intro (@pj_Plan_fl) (
  And.intro (@und_eq) (
  And.intro (@Plan.an.eq_1) (
  And.intro (@List.getD_cons_zero.{0}) (
  And.intro (@List.getD_cons_succ.{0}) (
  And.intro (@List.contains_cons.{0}) (
  And.intro (@List.contains_nil.{0}) (
  And.intro (@Bool.true_or) (
  And.intro (@Bool.false_or) (
  And.intro (@Bool.or_true) (
  And.intro (@Bool.or_false) (
  And.intro (@Go.Value.cells.eq_1) (
  And.intro (@Go.Value.cells.eq_2) (
  And.intro (@List.getElem?_cons_zero.{0}) (
  And.intro (@List.getElem?_cons_succ.{0}) (
  And.intro (@List.getElem?_toArray.{0}) (
  And.intro (@if_true.{1}) (
  And.intro (@if_false.{1}) (
  And.intro (@List.all_cons.{0}) (
  And.intro (@List.all_nil.{0}) (
  And.intro (@Bool.and_self) (
  And.intro (@Bool.true_and) (
  And.intro (@Bool.and_true) (
  And.intro (@List.length_cons.{0}) (
  And.intro (@List.length_nil.{0}) (
  And.intro (@Nat.zero_add) (
  And.intro (@Nat.add_zero) (
  And.intro (@List.take_succ_cons.{0}) (
  And.intro (@List.take_zero.{0}) (
  And.intro (@List.drop_succ_cons.{0}) (
  And.intro (@List.drop_zero.{0}) (
  And.intro (@List.set_cons_zero.{0}) (
  And.intro (@List.set_cons_succ.{0}) (
  And.intro (@List.map_cons.{0,0}) (
  And.intro (@List.map_nil.{0,0}) (
  And.intro (@List.append_eq.{0}) (
  And.intro (@List.toList_toArray.{0}) (
  And.intro (@List.cons_append.{0}) (
  And.intro (@List.nil_append.{0}) (
  And.intro (@List.append_nil.{0}) (
  And.intro (@Option.getD_some.{0}) (
  And.intro (@Option.getD_none.{0}) (
  And.intro (@Int.toNat_natCast) (
  And.intro (@Int.toNat_zero) (
  And.intro (@Nat.zero_mul) (
  And.intro (@Nat.mul_one) (
  And.intro (@Nat.one_mul) (
  And.intro (@beq_self_eq_true.{0}) (
  And.intro (@remN_none) (
  And.intro (@del_nil) (
  And.intro (@del_cons) (
  And.intro (@b_true) (
  And.intro (@b_false) (
  And.intro (@Bool.not_true) (
  And.intro (@Bool.not_false) (
  And.intro (@and_true) (
  And.intro (@true_and) (
  And.intro (@ite_some_bool) (
  (@undef.eq_1))))))))))))))))))))))))))))))))))))))))))))))))))))))))))))))))))))))))))))))))))))))))))))))))))))))))))))))))))))))))))))))))))))))))))))))))))))))))))))))))))))))))))))))))))))))))))))))
end Go.Proofs.Ytoihmanhldcjhaa.Id
namespace Go.Proofs.Ytoihmanhldcjhaa.Id
open Go
set_option linter.unusedSimpArgs false
set_option linter.unusedVariables false
theorem inf2 : (tbOf Try.prog).inf 2 = some ((1, (8, (.int .i64 0)))) := by kernel_rfl
theorem inf3 : (tbOf Try.prog).inf 3 = some ((1, (8, (.int .i64 0)))) := by kernel_rfl
theorem inf4 : (tbOf Try.prog).inf 4 = some ((1, (1, (.bool false)))) := by kernel_rfl
theorem inf5 : (tbOf Try.prog).inf 5 = some ((1, (1, (.int .u8 0)))) := by kernel_rfl
theorem inf6 : (tbOf Try.prog).inf 6 = some ((1, (1, (.int .u8 0)))) := by kernel_rfl
theorem inf7 : (tbOf Try.prog).inf 7 = some ((4, (24, (.agg #[(.int .i64 0), (.int .i64 0), (.bool false), (.int .u8 0)])))) := by kernel_rfl
theorem inf8 : (tbOf Try.prog).inf 8 = some ((4, (24, (.agg #[(.int .i64 0), (.int .i64 0), (.bool false), (.int .u8 0)])))) := by kernel_rfl
theorem inf9 : (tbOf Try.prog).inf 9 = some ((1, (16, (.string .empty)))) := by kernel_rfl
theorem inf10 : (tbOf Try.prog).inf 10 = some ((1, (16, (.string .empty)))) := by kernel_rfl
theorem inf11 : (tbOf Try.prog).inf 11 = some ((1, (16, (.string .empty)))) := by kernel_rfl
theorem inf12 : (tbOf Try.prog).inf 12 = some ((1, (8, (.int .u64 0)))) := by kernel_rfl
theorem inf13 : (tbOf Try.prog).inf 13 = some ((2, (24, (.agg #[(.string .empty), (.int .u64 0)])))) := by kernel_rfl
theorem inf14 : (tbOf Try.prog).inf 14 = some ((2, (24, (.agg #[(.string .empty), (.int .u64 0)])))) := by kernel_rfl
theorem inf15 : (tbOf Try.prog).inf 15 = some ((1, (8, (.pointer none)))) := by kernel_rfl
theorem inf16 : (tbOf Try.prog).inf 16 = some ((1, (8, (.pointer none)))) := by kernel_rfl
theorem inf17 : (tbOf Try.prog).inf 17 = some ((1, (8, (.pointer none)))) := by kernel_rfl
theorem inf18 : (tbOf Try.prog).inf 18 = some ((1, (8, (.agg #[(.pointer none)])))) := by kernel_rfl
theorem inf19 : (tbOf Try.prog).inf 19 = some ((1, (8, (.agg #[(.pointer none)])))) := by kernel_rfl
theorem inf20 : (tbOf Try.prog).inf 20 = some ((1, (16, .nilIface))) := by kernel_rfl
theorem inf21 : (tbOf Try.prog).inf 21 = some ((1, (4, (.int .i32 0)))) := by kernel_rfl
theorem inf23 : (tbOf Try.prog).inf 23 = some ((1, (24, (.slice none 0 0)))) := by kernel_rfl
theorem inf24 : (tbOf Try.prog).inf 24 = some ((1, (24, (.slice none 0 0)))) := by kernel_rfl
theorem inf25 : (tbOf Try.prog).inf 25 = some ((2, (48, (.agg #[(.slice none 0 0), (.slice none 0 0)])))) := by kernel_rfl
theorem inf26 : (tbOf Try.prog).inf 26 = some ((2, (48, (.agg #[(.slice none 0 0), (.slice none 0 0)])))) := by kernel_rfl
theorem inf28 : (tbOf Try.prog).inf 28 = some ((1, (8, (.int .i64 0)))) := by kernel_rfl
theorem inf34 : (tbOf Try.prog).inf 34 = some ((1, (24, (.slice none 0 0)))) := by kernel_rfl
theorem inf43 : (tbOf Try.prog).inf 43 = some ((1, (8, (.int .u64 0)))) := by kernel_rfl
theorem inf45 : (tbOf Try.prog).inf 45 = some ((20, (160, (.agg #[(.int .i64 0), (.int .i64 0), (.int .i64 0), (.int .i64 0), (.int .i64 0), (.int .i64 0), (.int .i64 0), (.int .i64 0), (.int .i64 0), (.int .i64 0), (.int .i64 0), (.int .i64 0), (.int .i64 0), (.int .i64 0), (.int .i64 0), (.int .i64 0), (.int .i64 0), (.int .i64 0), (.int .i64 0), (.int .i64 0)])))) := by kernel_rfl
theorem inf46 : (tbOf Try.prog).inf 46 = some ((20, (160, (.agg #[(.int .i64 0), (.int .i64 0), (.int .i64 0), (.int .i64 0), (.int .i64 0), (.int .i64 0), (.int .i64 0), (.int .i64 0), (.int .i64 0), (.int .i64 0), (.int .i64 0), (.int .i64 0), (.int .i64 0), (.int .i64 0), (.int .i64 0), (.int .i64 0), (.int .i64 0), (.int .i64 0), (.int .i64 0), (.int .i64 0)])))) := by kernel_rfl
theorem inf50 : (tbOf Try.prog).inf 50 = some ((6, (48, (.agg #[(.int .i64 0), (.int .i64 0), (.int .i64 0), (.int .i64 0), (.int .i64 0), (.bool false)])))) := by kernel_rfl
theorem inf51 : (tbOf Try.prog).inf 51 = some ((6, (48, (.agg #[(.int .i64 0), (.int .i64 0), (.int .i64 0), (.int .i64 0), (.int .i64 0), (.bool false)])))) := by kernel_rfl
theorem inf53 : (tbOf Try.prog).inf 53 = some ((1, (24, (.slice none 0 0)))) := by kernel_rfl
theorem inf56 : (tbOf Try.prog).inf 56 = some ((1, (24, (.slice none 0 0)))) := by kernel_rfl
theorem inf59 : (tbOf Try.prog).inf 59 = some ((2, (16, (.agg #[(.int .i64 0), (.int .i64 0)])))) := by kernel_rfl
theorem inf60 : (tbOf Try.prog).inf 60 = some ((2, (16, (.agg #[(.int .i64 0), (.int .i64 0)])))) := by kernel_rfl
theorem inf61 : (tbOf Try.prog).inf 61 = some ((1, (8, (.pointer none)))) := by kernel_rfl
theorem inf62 : (tbOf Try.prog).inf 62 = some ((2, (32, (.agg #[(.slice none 0 0), (.int .i64 0)])))) := by kernel_rfl
theorem inf63 : (tbOf Try.prog).inf 63 = some ((2, (32, (.agg #[(.slice none 0 0), (.int .i64 0)])))) := by kernel_rfl
theorem inf67 : (tbOf Try.prog).inf 67 = some ((8, (64, (.agg #[(.int .i64 0), (.int .i64 0), (.int .i64 0), (.int .i64 0), (.int .i64 0), (.int .i64 0), (.int .i64 0), (.int .i64 0)])))) := by kernel_rfl
theorem inf73 : (tbOf Try.prog).inf 73 = some ((1, (8, (.pointer none)))) := by kernel_rfl
theorem inf74 : (tbOf Try.prog).inf 74 = some ((1, (8, (.int .u64 0)))) := by kernel_rfl
theorem inf75 : (tbOf Try.prog).inf 75 = some ((1, (8, (.float .f64 0)))) := by kernel_rfl
theorem TY : type_of% (And.intro inf2 (And.intro inf3 (And.intro inf4 (And.intro inf5 (And.intro inf6 (And.intro inf7 (And.intro inf8 (And.intro inf9 (And.intro inf10 (And.intro inf11 (And.intro inf12 (And.intro inf13 (And.intro inf14 (And.intro inf15 (And.intro inf16 (And.intro inf17 (And.intro inf18 (And.intro inf19 (And.intro inf20 (And.intro inf21 (And.intro inf23 (And.intro inf24 (And.intro inf25 (And.intro inf26 (And.intro inf28 (And.intro inf34 (And.intro inf43 (And.intro inf45 (And.intro inf46 (And.intro inf50 (And.intro inf51 (And.intro inf53 (And.intro inf56 (And.intro inf59 (And.intro inf60 (And.intro inf61 (And.intro inf62 (And.intro inf63 (And.intro inf67 (And.intro inf73 (And.intro inf74 (And.intro inf75 (And.intro Try.underlying2 (And.intro Try.underlying3 (And.intro Try.underlying4 (And.intro Try.underlying5 (And.intro Try.underlying6 (And.intro Try.underlying7 (And.intro Try.underlying8 (And.intro Try.underlying9 (And.intro Try.underlying10 (And.intro Try.underlying11 (And.intro Try.underlying12 (And.intro Try.underlying13 (And.intro Try.underlying14 (And.intro Try.underlying15 (And.intro Try.underlying16 (And.intro Try.underlying17 (And.intro Try.underlying18 (And.intro Try.underlying19 (And.intro Try.underlying20 (And.intro Try.underlying21 (And.intro Try.underlying23 (And.intro Try.underlying24 (And.intro Try.underlying25 (And.intro Try.underlying26 (And.intro Try.underlying28 (And.intro Try.underlying34 (And.intro Try.underlying43 (And.intro Try.underlying45 (And.intro Try.underlying46 (And.intro Try.underlying50 (And.intro Try.underlying51 (And.intro Try.underlying53 (And.intro Try.underlying56 (And.intro Try.underlying59 (And.intro Try.underlying60 (And.intro Try.underlying61 (And.intro Try.underlying62 (And.intro Try.underlying63 (And.intro Try.underlying67 (And.intro Try.underlying73 (And.intro Try.underlying74 (Try.underlying75)))))))))))))))))))))))))))))))))))))))))))))))))))))))))))))))))))))))))))))))))))) := (And.intro inf2 (And.intro inf3 (And.intro inf4 (And.intro inf5 (And.intro inf6 (And.intro inf7 (And.intro inf8 (And.intro inf9 (And.intro inf10 (And.intro inf11 (And.intro inf12 (And.intro inf13 (And.intro inf14 (And.intro inf15 (And.intro inf16 (And.intro inf17 (And.intro inf18 (And.intro inf19 (And.intro inf20 (And.intro inf21 (And.intro inf23 (And.intro inf24 (And.intro inf25 (And.intro inf26 (And.intro inf28 (And.intro inf34 (And.intro inf43 (And.intro inf45 (And.intro inf46 (And.intro inf50 (And.intro inf51 (And.intro inf53 (And.intro inf56 (And.intro inf59 (And.intro inf60 (And.intro inf61 (And.intro inf62 (And.intro inf63 (And.intro inf67 (And.intro inf73 (And.intro inf74 (And.intro inf75 (And.intro Try.underlying2 (And.intro Try.underlying3 (And.intro Try.underlying4 (And.intro Try.underlying5 (And.intro Try.underlying6 (And.intro Try.underlying7 (And.intro Try.underlying8 (And.intro Try.underlying9 (And.intro Try.underlying10 (And.intro Try.underlying11 (And.intro Try.underlying12 (And.intro Try.underlying13 (And.intro Try.underlying14 (And.intro Try.underlying15 (And.intro Try.underlying16 (And.intro Try.underlying17 (And.intro Try.underlying18 (And.intro Try.underlying19 (And.intro Try.underlying20 (And.intro Try.underlying21 (And.intro Try.underlying23 (And.intro Try.underlying24 (And.intro Try.underlying25 (And.intro Try.underlying26 (And.intro Try.underlying28 (And.intro Try.underlying34 (And.intro Try.underlying43 (And.intro Try.underlying45 (And.intro Try.underlying46 (And.intro Try.underlying50 (And.intro Try.underlying51 (And.intro Try.underlying53 (And.intro Try.underlying56 (And.intro Try.underlying59 (And.intro Try.underlying60 (And.intro Try.underlying61 (And.intro Try.underlying62 (And.intro Try.underlying63 (And.intro Try.underlying67 (And.intro Try.underlying73 (And.intro Try.underlying74 (Try.underlying75))))))))))))))))))))))))))))))))))))))))))))))))))))))))))))))))))))))))))))))))))))
def bys (l : List UInt8) : List Value := l.map fun b => .int .u8 b.toNat
theorem bys_get {l : List UInt8} {j : Nat} (h : j < l.length) : (bys l)[j]? = some (Value.int .u8 l[j].toNat) := by simp [bys, h]
def le : List UInt8 → Nat
  | [] => 0
  | b :: l => b.toNat + 256 * le l
theorem le_lt : ∀ l : List UInt8, le l < 256 ^ l.length
  | [] => by simp [le]
  | b :: l => by
    have := le_lt l
    have hb : b.toNat < 256 := b.toNat_lt
    simp only [le, List.length_cons, Nat.pow_succ]
    omega
theorem le_snoc : ∀ (l : List UInt8) (b : UInt8), le (l ++ [b]) = le l + b.toNat * 256 ^ l.length
  | [], b => by simp [le]
  | c :: l, b => by
    simp only [List.cons_append, le, le_snoc l b, List.length_cons, Nat.pow_succ]
    rw [Nat.mul_add]
    have : 256 * (b.toNat * 256 ^ l.length) = b.toNat * (256 ^ l.length * 256) := by rw [Nat.mul_comm (256 ^ l.length) 256, ← Nat.mul_assoc, ← Nat.mul_assoc, Nat.mul_comm 256]
    omega
theorem or_le (v : Nat) (b j : Nat) (hb : b < 256) (hj : j < 8) (hv : v < 256 ^ j) :
    IntKind.u64.wrap (((BitVec.ofInt IntKind.u64.bits (v : Int) ||| BitVec.ofInt IntKind.u64.bits (IntKind.u64.wrap (IntKind.u64.wrap (b : Int) * 2 ^ min (8 * j) IntKind.u64.bits))).toNat : Nat) : Int) = ((v + b * 256 ^ j : Nat) : Int) := by
  have e1 : IntKind.u64.bits = 64 := rfl
  rw [e1]
  have e2 : min (8 * j) 64 = 8 * j := by omega
  rw [e2]
  have hp : (256 : Nat) ^ j = 2 ^ (8 * j) := by rw [Nat.pow_mul]
  have hle : 256 ^ (j + 1) ≤ (256 : Nat) ^ 8 := Nat.pow_le_pow_right (by omega) (by omega)
  have hbj : b * 256 ^ j ≤ 255 * 256 ^ j := Nat.mul_le_mul_right _ (by omega)
  have h8 : (256 : Nat) ^ 8 = 18446744073709551616 := by decide
  rw [Nat.pow_succ] at hle
  rw [h8] at hle
  have w0 : IntKind.u64.wrap (b : Int) = b := by simp [IntKind.wrap, IntKind.bits, IntKind.signed]; omega
  rw [w0]
  have e3 : ((b : Int) * 2 ^ (8 * j)) = ((b * 256 ^ j : Nat) : Int) := by rw [hp]; simp
  rw [e3]
  generalize hx : b * 256 ^ j = x at *
  have w1 : ∀ n : Nat, n < 18446744073709551616 → IntKind.u64.wrap (n : Int) = n := by
    intro n hn; simp [IntKind.wrap, IntKind.bits, IntKind.signed]; omega
  rw [w1 x (by omega)]
  have w2 : (BitVec.ofInt 64 (v : Int) ||| BitVec.ofInt 64 (x : Int)).toNat = v + x := by
    rw [BitVec.toNat_or]
    simp only [BitVec.toNat_ofInt, Int.toNat_emod, Int.toNat_natCast]
    have a1 : ((v : Int) % ((2 ^ 64 : Nat) : Int)).toNat = v := by omega
    have a2 : ((x : Int) % ((2 ^ 64 : Nat) : Int)).toNat = x := by omega
    rw [a1, a2, ← hx, hp, Nat.mul_comm b]
    rw [Nat.or_comm, ← Nat.two_pow_add_eq_or_of_lt (by omega), Nat.add_comm]
  rw [w2, w1 _ (by omega)]
end Go.Proofs.Ytoihmanhldcjhaa.Id
namespace Go.Proofs.Ytoihmanhldcjhaa.Id
open Go
set_option linter.unusedSimpArgs false
set_option linter.unusedVariables false
def btw (a b : Int) (l : List Int) : Bool := l.all fun x => decide (a ≤ x ∧ x ≤ b)
def ints (l : List Int) : List Value := l.map (Value.int .i64)
theorem ints_get {l : List Int} {j : Nat} (h : j < l.length) : (ints l)[j]? = some (Value.int .i64 l[j]) := by simp [ints, h]
theorem btw_take {a b : Int} {l : List Int} {j : Nat} (h : j < l.length) : btw a b (l.take (j + 1)) = (btw a b (l.take j) && decide (a ≤ l[j] ∧ l[j] ≤ b)) := by
  unfold btw; rw [List.take_succ_eq_append_getElem h, List.all_append]; simp
theorem btw_no {a b : Int} {l : List Int} {j : Nat} (h : j < l.length) (hn : ¬ (a ≤ l[j] ∧ l[j] ≤ b)) : btw a b l = false := by
  unfold btw; rw [List.all_eq_false]; exact ⟨l[j], List.getElem_mem h, by simpa using hn⟩
set_option maxRecDepth 100000 in
theorem between_c (a b : Int) (l : List Int) (id : Nat) (nx : Nat) (ro loose : Bool) (e : TypeId) (hl : l.length ≤ 1000) :
    CallW Try.prog 19 [.int .i64 a, .int .i64 b, .slice (some ⟨id, 0, none⟩) l.length l.length] [(id, ⟨ints l, e, 1, ro, loose⟩)] nx (Ret (.bool (btw a b l)) [(id, ⟨ints l, e, 1, ro, loose⟩)] nx) := by
  refine CallW_go (tbOk _) 24 [.tmp 6] Try.func19 rfl (by decide) rfl rfl (by simp) fun hlt => ?_
  simp only [params, Nat.zero_add, Nat.reduceAdd]
  refine JS_go (tbOk _) 99 fun x hx => ?_
  simp only [RN, ↓reduceIte, ↓get8, reduceCtorEq, Nat.reduceLT, Nat.reduceEqDiff, Nat.reduceAdd, Nat.reduceMul, Nat.reduceLeDiff, Nat.reduceSub, Int.reduceToNat, Int.reduceNeg, Nat.reduceBEq, TY] at hx
  subst hx
  refine ⟨_, _, rfl, by first | trivial | omega | (simp only [and_true, true_and]; omega), ?_⟩
  refine at_loop ?_
  refine JS_loop (S := fun x : { j : Nat // j ≤ l.length ∧ btw a b (l.take j) = true } => { n := 24, fr := [(11, Value.int IntKind.i64 x.1), (10, Value.int IntKind.i64 l.length), (9, Value.slice (some { block := id, off := 0 }) l.length l.length), (0, Value.int IntKind.i64 a), (1, Value.int IntKind.i64 b)], F := [(id, { cells := ints l, elem := e, sz := 1, ro := ro, loose := loose })], nx := nx, ds := [] })
    (fun j => l.length - j.1) ⟨0, Nat.zero_le _, rfl⟩ ?_ ?_
  · exact le_of rfl (by simp only [RN, ↓reduceIte, ↓get8, reduceCtorEq, Nat.reduceLT, Nat.reduceEqDiff, Nat.reduceAdd, Nat.reduceMul, Nat.reduceLeDiff, Nat.reduceSub, Int.reduceToNat, Int.reduceNeg, Nat.reduceBEq]; trivial) (by simp only [RN, ↓reduceIte, ↓get8, reduceCtorEq, Nat.reduceLT, Nat.reduceEqDiff, Nat.reduceAdd, Nat.reduceMul, Nat.reduceLeDiff, Nat.reduceSub, Int.reduceToNat, Int.reduceNeg, Nat.reduceBEq]) (Nat.le_refl _) rfl
  rintro ⟨j, hj, hb⟩
  dsimp only
  refine JS_go (tbOk _) 99 fun x hx => ?_
  simp only [RN, ↓reduceIte, ↓get8, reduceCtorEq, Nat.reduceLT, Nat.reduceEqDiff, Nat.reduceAdd, Nat.reduceMul, Nat.reduceLeDiff, Nat.reduceSub, Int.reduceToNat, Int.reduceNeg, Nat.reduceBEq, TY] at hx
  subst hx
  refine ⟨_, _, rfl, by first | trivial | omega | (simp only [and_true, true_and]; omega), ?_⟩
  refine at_cond (fun hlt2 => ?_) (fun hge => ?_)
  · have hlt3 : j < l.length := by simpa using hlt2
    have hbt := btw_take (a := a) (b := b) hlt3
    rw [hb, Bool.true_and] at hbt
    by_cases c1 : l[j] < a
    · have d1 : decide (l[j] < a) = true := by simpa using c1
      refine JS_go (tbOk _) 99 fun x hx => ?_
      simp only [RN, ↓reduceIte, ↓get8, reduceCtorEq, Nat.reduceLT, Nat.reduceEqDiff, Nat.reduceAdd, Nat.reduceMul, Nat.reduceLeDiff, Nat.reduceSub, Int.reduceToNat, Int.reduceNeg, Nat.reduceBEq, TY, ints_get hlt3, d1] at hx
      subst hx
      refine ⟨_, _, rfl, by first | trivial | omega | (simp only [and_true, true_and]; omega), ?_⟩
      refine at_cond (fun _ => ?_) (fun h => nomatch h)
      refine JS_go (tbOk _) 99 fun x hx => ?_
      simp only [RN, ↓reduceIte, ↓get8, reduceCtorEq, Nat.reduceLT, Nat.reduceEqDiff, Nat.reduceAdd, Nat.reduceMul, Nat.reduceLeDiff, Nat.reduceSub, Int.reduceToNat, Int.reduceNeg, Nat.reduceBEq, TY] at hx
      subst hx
      refine ⟨_, _, rfl, by first | trivial | omega | (simp only [and_true, true_and]; omega), ?_⟩
      refine at_ret ?_
      repeat (first | refine in_ret ?_ | refine in_retI ?_)
      refine ret_end (by simp only [RN, ↓reduceIte, ↓get8, reduceCtorEq, Nat.reduceLT, Nat.reduceEqDiff, Nat.reduceAdd, Nat.reduceMul, Nat.reduceLeDiff, Nat.reduceSub, Int.reduceToNat, Int.reduceNeg, Nat.reduceBEq]; rfl) rfl trivial (fun _ _ h => h) ?_
      exact ⟨by rw [btw_no hlt3 (by omega)], rfl, rfl⟩
    · have d1 : decide (l[j] < a) = false := decide_eq_false c1
      refine JS_go (tbOk _) 99 fun x hx => ?_
      simp only [RN, ↓reduceIte, ↓get8, reduceCtorEq, Nat.reduceLT, Nat.reduceEqDiff, Nat.reduceAdd, Nat.reduceMul, Nat.reduceLeDiff, Nat.reduceSub, Int.reduceToNat, Int.reduceNeg, Nat.reduceBEq, TY, ints_get hlt3, d1] at hx
      subst hx
      refine ⟨_, _, rfl, by first | trivial | omega | (simp only [and_true, true_and]; omega), ?_⟩
      refine at_cond (fun h => ?_) (fun h => ?_)
      · skip
        refine JS_go (tbOk _) 99 fun x hx => ?_
        simp only [RN, ↓reduceIte, ↓get8, reduceCtorEq, Nat.reduceLT, Nat.reduceEqDiff, Nat.reduceAdd, Nat.reduceMul, Nat.reduceLeDiff, Nat.reduceSub, Int.reduceToNat, Int.reduceNeg, Nat.reduceBEq, TY] at hx
        subst hx
        refine ⟨_, _, rfl, by first | trivial | omega | (simp only [and_true, true_and]; omega), ?_⟩
        have h := of_decide_eq_true h
        refine at_ret ?_
        repeat (first | refine in_ret ?_ | refine in_retI ?_)
        refine ret_end (by simp only [RN, ↓reduceIte, ↓get8, reduceCtorEq, Nat.reduceLT, Nat.reduceEqDiff, Nat.reduceAdd, Nat.reduceMul, Nat.reduceLeDiff, Nat.reduceSub, Int.reduceToNat, Int.reduceNeg, Nat.reduceBEq]; rfl) rfl trivial (fun _ _ h => h) ?_
        exact ⟨by rw [btw_no hlt3 (by omega)], rfl, rfl⟩
      · skip
        refine JS_go (tbOk _) 99 fun x hx => ?_
        simp only [RN, ↓reduceIte, ↓get8, reduceCtorEq, Nat.reduceLT, Nat.reduceEqDiff, Nat.reduceAdd, Nat.reduceMul, Nat.reduceLeDiff, Nat.reduceSub, Int.reduceToNat, Int.reduceNeg, Nat.reduceBEq, TY] at hx
        subst hx
        refine ⟨_, _, rfl, by first | trivial | omega | (simp only [and_true, true_and]; omega), ?_⟩
        have h := of_decide_eq_false h
        have hw : IntKind.i64.wrap ((j : Int) + 1) = ((j + 1 : Nat) : Int) := by simp [IntKind.wrap, IntKind.bits, IntKind.signed]; omega
        refine at_done (in_next ⟨j + 1, hlt3, by rw [hbt, decide_eq_true_eq]; omega⟩ (by show l.length - (j + 1) < l.length - j; omega) (le_of rfl (by simp only [RN, ↓reduceIte, ↓get8, reduceCtorEq, Nat.reduceLT, Nat.reduceEqDiff, Nat.reduceAdd, Nat.reduceMul, Nat.reduceLeDiff, Nat.reduceSub, Int.reduceToNat, Int.reduceNeg, Nat.reduceBEq, hw]; first | done | trivial) (by simp only [RN, ↓reduceIte, ↓get8, reduceCtorEq, Nat.reduceLT, Nat.reduceEqDiff, Nat.reduceAdd, Nat.reduceMul, Nat.reduceLeDiff, Nat.reduceSub, Int.reduceToNat, Int.reduceNeg, Nat.reduceBEq]) (Nat.le_refl _) rfl))
  · have hj2 : j = l.length := by simp at hge; omega
    subst hj2
    rw [List.take_length] at hb
    refine JS_go (tbOk _) 99 fun x hx => ?_
    simp only [RN, ↓reduceIte, ↓get8, reduceCtorEq, Nat.reduceLT, Nat.reduceEqDiff, Nat.reduceAdd, Nat.reduceMul, Nat.reduceLeDiff, Nat.reduceSub, Int.reduceToNat, Int.reduceNeg, Nat.reduceBEq, TY] at hx
    subst hx
    refine ⟨_, _, rfl, by first | trivial | omega | (simp only [and_true, true_and]; omega), ?_⟩
    refine at_exit (in_exit (by simp only [RN, ↓reduceIte, ↓get8, reduceCtorEq, Nat.reduceLT, Nat.reduceEqDiff, Nat.reduceAdd, Nat.reduceMul, Nat.reduceLeDiff, Nat.reduceSub, Int.reduceToNat, Int.reduceNeg, Nat.reduceBEq]; rfl) ?_)
    refine JS_go (tbOk _) 99 fun x hx => ?_
    simp only [RN, ↓reduceIte, ↓get8, reduceCtorEq, Nat.reduceLT, Nat.reduceEqDiff, Nat.reduceAdd, Nat.reduceMul, Nat.reduceLeDiff, Nat.reduceSub, Int.reduceToNat, Int.reduceNeg, Nat.reduceBEq, TY] at hx
    subst hx
    refine ⟨_, _, rfl, by first | trivial | omega | (simp only [and_true, true_and]; omega), ?_⟩
    refine at_ret ?_
    repeat (first | refine in_ret ?_ | refine in_retI ?_)
    refine ret_end (by simp only [RN, ↓reduceIte, ↓get8, reduceCtorEq, Nat.reduceLT, Nat.reduceEqDiff, Nat.reduceAdd, Nat.reduceMul, Nat.reduceLeDiff, Nat.reduceSub, Int.reduceToNat, Int.reduceNeg, Nat.reduceBEq]; rfl) rfl trivial (fun _ _ h => h) ?_
    exact ⟨by rw [hb], rfl, rfl⟩
def rdH (bs : List UInt8) (ln cp : Nat) (at_ : Nat) (r b : Nat) (ro loose : Bool) : Hp := [(r, ⟨[.slice (some ⟨b, 0, none⟩) ln cp, .int .i64 at_], 63, 2, false, false⟩), (b, ⟨bys bs, 5, 1, ro, loose⟩)]
set_option maxRecDepth 100000 in
theorem num_c (bs : List UInt8) (ln cp : Nat) (at_ size : Nat) (r b : Nat) (nx : Nat) (ro loose : Bool) (hs : size ≤ 8) (ha : at_ + size ≤ ln) (hl : ln ≤ bs.length ∧ ln ≤ 1000000) (hrb : ¬ b = r) :
    CallW Try.prog 39 [.pointer (some ⟨r, 0, none⟩), .int .i64 (size : Int)] (rdH bs ln cp at_ r b ro loose) nx (Ret (.int .u64 (le ((bs.drop at_).take size))) (rdH bs ln cp (at_ + size) r b ro loose) nx) := by
  have hbr := hrb
  unfold rdH
  refine CallW_go (tbOk _) 39 [.tmp 4] Try.func39 rfl (by decide) rfl rfl (by simp) fun hlt => ?_
  simp only [params, Nat.zero_add, Nat.reduceAdd]
  refine JS_go (tbOk _) 99 fun x hx => ?_
  simp only [RN, ↓reduceIte, ↓get8, reduceCtorEq, Nat.reduceLT, Nat.reduceEqDiff, Nat.reduceAdd, Nat.reduceMul, Nat.reduceLeDiff, Nat.reduceSub, Int.reduceToNat, Int.reduceNeg, Nat.reduceBEq, TY] at hx
  subst hx
  refine ⟨_, _, rfl, by first | trivial | omega | (simp only [and_true, true_and]; omega), ?_⟩
  refine at_loop ?_
  refine JS_loop (S := fun x : { j : Nat // j ≤ size } => { n := 39, fr := [(8, Value.int IntKind.i64 x.1), (7, Value.int IntKind.i64 size), (5, .int .u64 (le ((bs.drop at_).take x.1))), (0, .pointer (some ⟨r, 0, none⟩)), (1, Value.int IntKind.i64 size)], F := [(r, ⟨[.slice (some ⟨b, 0, none⟩) ln cp, .int .i64 at_], 63, 2, false, false⟩), (b, ⟨bys bs, 5, 1, ro, loose⟩)], nx := nx, ds := [] })
    (fun j => size - j.1) ⟨0, Nat.zero_le _⟩ ?_ ?_
  · exact le_of rfl (by simp only [RN, ↓reduceIte, ↓get8, reduceCtorEq, Nat.reduceLT, Nat.reduceEqDiff, Nat.reduceAdd, Nat.reduceMul, Nat.reduceLeDiff, Nat.reduceSub, Int.reduceToNat, Int.reduceNeg, Nat.reduceBEq, le]; first | done | trivial) (by simp only [RN, ↓reduceIte, ↓get8, reduceCtorEq, Nat.reduceLT, Nat.reduceEqDiff, Nat.reduceAdd, Nat.reduceMul, Nat.reduceLeDiff, Nat.reduceSub, Int.reduceToNat, Int.reduceNeg, Nat.reduceBEq, hbr]; first | done | trivial) (Nat.le_refl _) rfl
  rintro ⟨j, hj⟩
  dsimp only
  refine JS_go (tbOk _) 99 fun x hx => ?_
  simp only [RN, ↓reduceIte, ↓get8, reduceCtorEq, Nat.reduceLT, Nat.reduceEqDiff, Nat.reduceAdd, Nat.reduceMul, Nat.reduceLeDiff, Nat.reduceSub, Int.reduceToNat, Int.reduceNeg, Nat.reduceBEq, TY] at hx
  subst hx
  refine ⟨_, _, rfl, by first | trivial | omega | (simp only [and_true, true_and]; omega), ?_⟩
  refine at_cond (fun hlt2 => ?_) (fun hge => ?_)
  · have hlt3 : j < size := by simpa using hlt2
    refine JS_go (tbOk _) 99 fun x hx => ?_
    simp only [RN, ↓reduceIte, ↓get8, reduceCtorEq, Nat.reduceLT, Nat.reduceEqDiff, Nat.reduceAdd, Nat.reduceMul, Nat.reduceLeDiff, Nat.reduceSub, Int.reduceToNat, Int.reduceNeg, Nat.reduceBEq, TY, hbr] at hx
    subst hx
    refine ⟨_, _, rfl, by first | trivial | omega | (simp only [and_true, true_and]; omega), ?_⟩
    rw [CRJ]
    refine JS_draw (tbOk _) { wr := [(11, 0), (12, 1), (13, 2), (14, 3), (15, 4), (16, 5), (17, 6), (18, 7), (19, 8), (20, 9), (21, 10), (22, 11), (23, 12), (24, 13), (25, 14), (26, 15), (27, 16), (28, 17), (5, 18)], anc := [[], [], [1], [1, 2], [1, 2, 3], [], [5], [5, 6], [5, 6, 7], [], [5, 6, 7, 8, 9], [1, 2, 3, 4, 5, 6, 7, 8, 9, 10], [1, 2, 3, 4, 5, 6, 7, 8, 9, 10, 11], [1, 2, 3, 4, 5, 6, 7, 8, 9, 10, 11, 12], [], [14], [1, 2, 3, 4, 5, 6, 7, 8, 9, 10, 11, 12, 13, 14, 15], [0, 1, 2, 3, 4, 5, 6, 7, 8, 9, 10, 11, 12, 13, 14, 15, 16], [0, 1, 2, 3, 4, 5, 6, 7, 8, 9, 10, 11, 12, 13, 14, 15, 16, 17]], ch := [], ac := [[0, 1, 2, 3, 4, 5, 6, 7, 8, 9, 10, 11, 12, 13, 14, 15, 16, 17, 18]], nw := [[0, 1, 2, 3, 4, 5, 6, 7, 8, 9, 10, 11, 12, 13, 14, 15, 16, 17, 18]], fl := [[]] } (by kernel_rfl) (by kernel_rfl) (by kernel_rfl) (by kernel_rfl) ?_
    have hj2 : at_ + j < bs.length := by omega
    have w1 : IntKind.i64.wrap ((at_ : Int) + (j : Int)) = ((at_ + j : Nat) : Int) := by simp [IntKind.wrap, IntKind.bits, IntKind.signed]; omega
    have w2 : IntKind.i64.wrap (8 * (j : Int)) = ((8 * j : Nat) : Int) := by simp [IntKind.wrap, IntKind.bits, IntKind.signed]; omega
    have w3 : IntKind.i64.wrap ((j : Int) + 1) = ((j + 1 : Nat) : Int) := by simp [IntKind.wrap, IntKind.bits, IntKind.signed]; omega
    have hd : (bs.drop at_).take (j + 1) = (bs.drop at_).take j ++ [bs[at_ + j]] := by
      rw [List.take_succ_eq_append_getElem (by simp; omega)]; simp
    have hlv := le_lt ((bs.drop at_).take j)
    have hln : ((bs.drop at_).take j).length = j := by simp; omega
    rw [hln] at hlv
    have w4 := or_le (le ((bs.drop at_).take j)) bs[at_ + j].toNat j bs[at_ + j].toNat_lt (by omega) hlv
    have w5 := le_snoc ((bs.drop at_).take j) bs[at_ + j]
    rw [hln, ← hd] at w5
    rw [← w5] at w4
    refine JS_go (tbOk _) 99 fun x hx => ?_
    simp only [RN, ↓reduceIte, ↓get8, reduceCtorEq, Nat.reduceLT, Nat.reduceEqDiff, Nat.reduceAdd, Nat.reduceMul, Nat.reduceLeDiff, Nat.reduceSub, Int.reduceToNat, Int.reduceNeg, Nat.reduceBEq, TY, hbr, w1, w2, w3, w4, bys_get hj2] at hx
    subst hx
    refine ⟨_, _, rfl, by first | trivial | omega | (simp only [and_true, true_and]; omega), ?_⟩
    exact at_done (in_next ⟨j + 1, hlt3⟩ (by show size - (j + 1) < size - j; omega) (le_of rfl (by simp only [RN, ↓reduceIte, ↓get8, reduceCtorEq, Nat.reduceLT, Nat.reduceEqDiff, Nat.reduceAdd, Nat.reduceMul, Nat.reduceLeDiff, Nat.reduceSub, Int.reduceToNat, Int.reduceNeg, Nat.reduceBEq, hbr]; first | done | trivial) (by simp only [RN, ↓reduceIte, ↓get8, reduceCtorEq, Nat.reduceLT, Nat.reduceEqDiff, Nat.reduceAdd, Nat.reduceMul, Nat.reduceLeDiff, Nat.reduceSub, Int.reduceToNat, Int.reduceNeg, Nat.reduceBEq, hbr]; first | done | trivial) (Nat.le_refl _) rfl))
  · have hj2 : j = size := by simp at hge; omega
    subst hj2
    have w1 : IntKind.i64.wrap ((at_ : Int) + (j : Int)) = ((at_ + j : Nat) : Int) := by simp [IntKind.wrap, IntKind.bits, IntKind.signed]; omega
    refine JS_go (tbOk _) 99 fun x hx => ?_
    simp only [RN, ↓reduceIte, ↓get8, reduceCtorEq, Nat.reduceLT, Nat.reduceEqDiff, Nat.reduceAdd, Nat.reduceMul, Nat.reduceLeDiff, Nat.reduceSub, Int.reduceToNat, Int.reduceNeg, Nat.reduceBEq, TY] at hx
    subst hx
    refine ⟨_, _, rfl, by first | trivial | omega | (simp only [and_true, true_and]; omega), ?_⟩
    refine at_exit (in_exit (by simp only [RN, ↓reduceIte, ↓get8, reduceCtorEq, Nat.reduceLT, Nat.reduceEqDiff, Nat.reduceAdd, Nat.reduceMul, Nat.reduceLeDiff, Nat.reduceSub, Int.reduceToNat, Int.reduceNeg, Nat.reduceBEq]; rfl) ?_)
    refine JS_go (tbOk _) 99 fun x hx => ?_
    simp only [RN, ↓reduceIte, ↓get8, reduceCtorEq, Nat.reduceLT, Nat.reduceEqDiff, Nat.reduceAdd, Nat.reduceMul, Nat.reduceLeDiff, Nat.reduceSub, Int.reduceToNat, Int.reduceNeg, Nat.reduceBEq, TY, hbr, w1] at hx
    subst hx
    refine ⟨_, _, rfl, by first | trivial | omega | (simp only [and_true, true_and]; omega), ?_⟩
    first | refine at_ret ?_ | refine at_done ?_
    repeat (first | refine in_ret ?_ | refine in_retI ?_)
    first | refine ret_endK (by simp only [RN, ↓reduceIte, ↓get8, reduceCtorEq, Nat.reduceLT, Nat.reduceEqDiff, Nat.reduceAdd, Nat.reduceMul, Nat.reduceLeDiff, Nat.reduceSub, Int.reduceToNat, Int.reduceNeg, Nat.reduceBEq]; rfl) rfl trivial ?_ | refine nrm_endK (by simp only [RN, ↓reduceIte, ↓get8, reduceCtorEq, Nat.reduceLT, Nat.reduceEqDiff, Nat.reduceAdd, Nat.reduceMul, Nat.reduceLeDiff, Nat.reduceSub, Int.reduceToNat, Int.reduceNeg, Nat.reduceBEq]; rfl) rfl trivial ?_ | refine ret_endK (by simp only [RN, ↓reduceIte, ↓get8, reduceCtorEq, Nat.reduceLT, Nat.reduceEqDiff, Nat.reduceAdd, Nat.reduceMul, Nat.reduceLeDiff, Nat.reduceSub, Int.reduceToNat, Int.reduceNeg, Nat.reduceBEq, TY, hbr]; rfl) rfl (by first | trivial | omega) ?_
    refine ⟨_, ?_, rfl, rfl, rfl⟩
    exact leL_look (by simp only [RN, ↓reduceIte, ↓get8, reduceCtorEq, Nat.reduceLT, Nat.reduceEqDiff, Nat.reduceAdd, Nat.reduceMul, Nat.reduceLeDiff, Nat.reduceSub, Int.reduceToNat, Int.reduceNeg, Nat.reduceBEq, hbr]; first | done | trivial)
end Go.Proofs.Ytoihmanhldcjhaa.Id
namespace Go.Proofs.Ytoihmanhldcjhaa.Id
open Go
set_option linter.unusedSimpArgs false
set_option linter.unusedVariables false
theorem wrap_i64 (n : Nat) (h : n < 9223372036854775808) : IntKind.i64.wrap (n : Int) = n := by simp [IntKind.wrap, IntKind.bits, IntKind.signed]; omega
theorem le_le (l : List UInt8) (k : Nat) (hk : k ≤ 7) : le (l.take k) < 9223372036854775808 := by
  have h := le_lt (l.take k)
  have h2 : (l.take k).length ≤ 7 := by simp; omega
  have : (256 : Nat) ^ (l.take k).length ≤ 256 ^ 7 := Nat.pow_le_pow_right (by omega) h2
  have : (256 : Nat) ^ 7 = 72057594037927936 := by decide
  omega
set_option maxRecDepth 100000 in
theorem one_c (bs : List UInt8) (ln cp : Nat) (at_ : Nat) (r b : Nat) (nx : Nat) (ro loose : Bool) (ha : at_ + 1 ≤ ln) (hl : ln ≤ bs.length ∧ ln ≤ 1000000) (hrb : ¬ b = r) :
    CallW Try.prog 30 [.pointer (some ⟨r, 0, none⟩)] (rdH bs ln cp at_ r b ro loose) nx (Ret (.int .i64 (le ((bs.drop at_).take 1))) (rdH bs ln cp (at_ + 1) r b ro loose) nx) := by
  have hN := num_c bs ln cp at_ 1 r b nx ro loose (by omega) ha hl hrb
  have w1 := wrap_i64 _ (le_le (bs.drop at_) 1 (by omega))
  unfold rdH at hN ⊢
  refine CallW_go (tbOk _) 6 [.tmp 2] Try.func30 rfl (by decide) rfl rfl (by simp) fun hlt => ?_
  simp only [params, Nat.zero_add, Nat.reduceAdd]
  refine JS_go (tbOk _) 99 fun x hx => ?_
  simp only [RN, ↓reduceIte, ↓get8, reduceCtorEq, Nat.reduceLT, Nat.reduceEqDiff, Nat.reduceAdd, Nat.reduceMul, Nat.reduceLeDiff, Nat.reduceSub, Int.reduceToNat, Int.reduceNeg, Nat.reduceBEq, TY] at hx
  subst hx
  refine ⟨_, _, rfl, by first | trivial | omega | (simp only [and_true, true_and]; omega), ?_⟩
  refine at_callK (hN) (by simp only [RN, ↓reduceIte, ↓get8, reduceCtorEq, Nat.reduceLT, Nat.reduceEqDiff, Nat.reduceAdd, Nat.reduceMul, Nat.reduceLeDiff, Nat.reduceSub, Int.reduceToNat, Int.reduceNeg, Nat.reduceBEq, hrb]; first | done | trivial) (by simp only [RN, ↓reduceIte, ↓get8, reduceCtorEq, Nat.reduceLT, Nat.reduceEqDiff, Nat.reduceAdd, Nat.reduceMul, Nat.reduceLeDiff, Nat.reduceSub, Int.reduceToNat, Int.reduceNeg, Nat.reduceBEq, hrb]; rfl) ?_
  refine JS_go (tbOk _) 99 fun x hx => ?_
  simp only [RN, ↓reduceIte, ↓get8, reduceCtorEq, Nat.reduceLT, Nat.reduceEqDiff, Nat.reduceAdd, Nat.reduceMul, Nat.reduceLeDiff, Nat.reduceSub, Int.reduceToNat, Int.reduceNeg, Nat.reduceBEq, TY, w1] at hx
  subst hx
  refine ⟨_, _, rfl, by first | trivial | omega | (simp only [and_true, true_and]; omega), ?_⟩
  first | refine at_ret ?_ | refine at_done ?_
  repeat (first | refine in_ret ?_ | refine in_retI ?_)
  first | refine ret_endK (by simp only [RN, ↓reduceIte, ↓get8, reduceCtorEq, Nat.reduceLT, Nat.reduceEqDiff, Nat.reduceAdd, Nat.reduceMul, Nat.reduceLeDiff, Nat.reduceSub, Int.reduceToNat, Int.reduceNeg, Nat.reduceBEq]; rfl) rfl trivial ?_ | refine nrm_endK (by simp only [RN, ↓reduceIte, ↓get8, reduceCtorEq, Nat.reduceLT, Nat.reduceEqDiff, Nat.reduceAdd, Nat.reduceMul, Nat.reduceLeDiff, Nat.reduceSub, Int.reduceToNat, Int.reduceNeg, Nat.reduceBEq]; rfl) rfl trivial ?_ | refine ret_endK (by simp only [RN, ↓reduceIte, ↓get8, reduceCtorEq, Nat.reduceLT, Nat.reduceEqDiff, Nat.reduceAdd, Nat.reduceMul, Nat.reduceLeDiff, Nat.reduceSub, Int.reduceToNat, Int.reduceNeg, Nat.reduceBEq, TY, hrb]; rfl) rfl (by first | trivial | omega) ?_
  refine ⟨_, ?_, rfl, rfl, rfl⟩
  exact leL_look (by simp only [RN, ↓reduceIte, ↓get8, reduceCtorEq, Nat.reduceLT, Nat.reduceEqDiff, Nat.reduceAdd, Nat.reduceMul, Nat.reduceLeDiff, Nat.reduceSub, Int.reduceToNat, Int.reduceNeg, Nat.reduceBEq, hrb]; first | done | trivial)
set_option maxRecDepth 100000 in
theorem two_c (bs : List UInt8) (ln cp : Nat) (at_ : Nat) (r b : Nat) (nx : Nat) (ro loose : Bool) (ha : at_ + 2 ≤ ln) (hl : ln ≤ bs.length ∧ ln ≤ 1000000) (hrb : ¬ b = r) :
    CallW Try.prog 40 [.pointer (some ⟨r, 0, none⟩)] (rdH bs ln cp at_ r b ro loose) nx (Ret (.int .i64 (le ((bs.drop at_).take 2))) (rdH bs ln cp (at_ + 2) r b ro loose) nx) := by
  have hN := num_c bs ln cp at_ 2 r b nx ro loose (by omega) ha hl hrb
  have w1 := wrap_i64 _ (le_le (bs.drop at_) 2 (by omega))
  unfold rdH at hN ⊢
  refine CallW_go (tbOk _) 6 [.tmp 2] Try.func40 rfl (by decide) rfl rfl (by simp) fun hlt => ?_
  simp only [params, Nat.zero_add, Nat.reduceAdd]
  refine JS_go (tbOk _) 99 fun x hx => ?_
  simp only [RN, ↓reduceIte, ↓get8, reduceCtorEq, Nat.reduceLT, Nat.reduceEqDiff, Nat.reduceAdd, Nat.reduceMul, Nat.reduceLeDiff, Nat.reduceSub, Int.reduceToNat, Int.reduceNeg, Nat.reduceBEq, TY] at hx
  subst hx
  refine ⟨_, _, rfl, by first | trivial | omega | (simp only [and_true, true_and]; omega), ?_⟩
  refine at_callK (hN) (by simp only [RN, ↓reduceIte, ↓get8, reduceCtorEq, Nat.reduceLT, Nat.reduceEqDiff, Nat.reduceAdd, Nat.reduceMul, Nat.reduceLeDiff, Nat.reduceSub, Int.reduceToNat, Int.reduceNeg, Nat.reduceBEq, hrb]; first | done | trivial) (by simp only [RN, ↓reduceIte, ↓get8, reduceCtorEq, Nat.reduceLT, Nat.reduceEqDiff, Nat.reduceAdd, Nat.reduceMul, Nat.reduceLeDiff, Nat.reduceSub, Int.reduceToNat, Int.reduceNeg, Nat.reduceBEq, hrb]; rfl) ?_
  refine JS_go (tbOk _) 99 fun x hx => ?_
  simp only [RN, ↓reduceIte, ↓get8, reduceCtorEq, Nat.reduceLT, Nat.reduceEqDiff, Nat.reduceAdd, Nat.reduceMul, Nat.reduceLeDiff, Nat.reduceSub, Int.reduceToNat, Int.reduceNeg, Nat.reduceBEq, TY, w1] at hx
  subst hx
  refine ⟨_, _, rfl, by first | trivial | omega | (simp only [and_true, true_and]; omega), ?_⟩
  first | refine at_ret ?_ | refine at_done ?_
  repeat (first | refine in_ret ?_ | refine in_retI ?_)
  first | refine ret_endK (by simp only [RN, ↓reduceIte, ↓get8, reduceCtorEq, Nat.reduceLT, Nat.reduceEqDiff, Nat.reduceAdd, Nat.reduceMul, Nat.reduceLeDiff, Nat.reduceSub, Int.reduceToNat, Int.reduceNeg, Nat.reduceBEq]; rfl) rfl trivial ?_ | refine nrm_endK (by simp only [RN, ↓reduceIte, ↓get8, reduceCtorEq, Nat.reduceLT, Nat.reduceEqDiff, Nat.reduceAdd, Nat.reduceMul, Nat.reduceLeDiff, Nat.reduceSub, Int.reduceToNat, Int.reduceNeg, Nat.reduceBEq]; rfl) rfl trivial ?_ | refine ret_endK (by simp only [RN, ↓reduceIte, ↓get8, reduceCtorEq, Nat.reduceLT, Nat.reduceEqDiff, Nat.reduceAdd, Nat.reduceMul, Nat.reduceLeDiff, Nat.reduceSub, Int.reduceToNat, Int.reduceNeg, Nat.reduceBEq, TY, hrb]; rfl) rfl (by first | trivial | omega) ?_
  refine ⟨_, ?_, rfl, rfl, rfl⟩
  exact leL_look (by simp only [RN, ↓reduceIte, ↓get8, reduceCtorEq, Nat.reduceLT, Nat.reduceEqDiff, Nat.reduceAdd, Nat.reduceMul, Nat.reduceLeDiff, Nat.reduceSub, Int.reduceToNat, Int.reduceNeg, Nat.reduceBEq, hrb]; first | done | trivial)
end Go.Proofs.Ytoihmanhldcjhaa.Id
namespace Go.Proofs.Ytoihmanhldcjhaa.Id
open Go Go.RowKit
theorem CallW_lift {P : Program} {f : FuncId} {fn : Func} {args : List Value} {v : Value} (nx : Nat) (hf : P.funcs[f]? = some fn) (hb : fn.body.isSome = true) (hname : (fn.name == "runtime.NumGoroutine") = false)
    (ha : args.all flat1 = true) (hv : flat v = true) (h : ∀ w, Calls P f args.toArray w fun e w' => e = .returned v ∧ Below w.heap.size w w') : CallW P f args [] nx (Ret v [] nx) := by
  refine ⟨fun m w args' hh hva => ?_⟩
  have e1 : args'.toList = args := VRs.eq_flat1 hva ha
  have e2 : args' = args.toArray := by rw [← e1]
  rw [e2]
  refine .inl ⟨⟨fn, hf, hb, hname⟩, (h w).mono ?_⟩
  rintro e w' ⟨rfl, hbl⟩
  exact ⟨_, [], nx, m, ⟨rfl, rfl, rfl⟩, ⟨fun _ _ h => (by cases h), hh.top, fun _ _ _ _ _ _ _ h => (by cases h)⟩, ⟨fun _ _ h => h, Nat.le_refl _, hbl.size, fun _ _ _ h => (by cases h), fun b hb _ => hbl.block b hb, hbl.os, hbl.output, hbl.tape⟩, .ret (VR.of_flat hv)⟩
theorem CallW_ext {P : Program} {f : FuncId} {args : List Value} {v : Value} (nx : Nat) (ha : args.all flat1 = true) (hv : flat v = true) (h : ∀ w, (callFunc f args.toArray).run P w = .ok (.value v) w) : CallW P f args [] nx (Ret v [] nx) := by
  refine ⟨fun m w args' hh hva => ?_⟩
  have e1 : args'.toList = args := VRs.eq_flat1 hva ha
  have e2 : args' = args.toArray := by rw [← e1]
  rw [e2]
  exact .inr ⟨v, w, h w, _, [], nx, m, ⟨rfl, rfl, rfl⟩, hh.drop (fun _ _ h => by cases h), (Stp.refl m [] nx w).drop (fun _ _ h => by cases h), .ret (VR.of_flat hv)⟩
end Go.Proofs.Ytoihmanhldcjhaa.Id
namespace Go.Proofs.Ytoihmanhldcjhaa.Rl
open Ieee
set_option linter.unusedVariables false
def sg (s : Bool) (m : Nat) : Int := if s then -(m : Int) else (m : Int)
def V (T : Nat) (s : Bool) (m : Nat) (e : Int) : Int := sg s m * ((2 ^ (e + T).toNat : Nat) : Int)
def fl (s : Bool) (m : Nat) (k : Int) : Int := if 0 ≤ k then sg s m * ((2 ^ k.toNat : Nat) : Int) else sg s m / ((2 ^ (-k).toNat : Nat) : Int)
theorem two_pos (n : Nat) : (0 : Int) < ((2 ^ n : Nat) : Int) := by have := Nat.two_pow_pos n; omega
theorem two_add (a b : Nat) : ((2 ^ (a + b) : Nat) : Int) = ((2 ^ a : Nat) : Int) * ((2 ^ b : Nat) : Int) := by rw [Nat.pow_add, Int.natCast_mul]
theorem sg_mul (s : Bool) (m n : Nat) : sg s (m * n) = sg s m * (n : Int) := by unfold sg; cases s <;> simp [Int.natCast_mul, Int.neg_mul]
theorem sg_natAbs (s : Bool) (m : Nat) : (sg s m).natAbs = m := by unfold sg; cases s <;> simp
theorem sg_zero (s : Bool) : sg s 0 = 0 := by unfold sg; cases s <;> simp
theorem V_shift (T : Nat) (s : Bool) (m d : Nat) (e : Int) (he : -(T : Int) ≤ e) : V T s (m * 2 ^ d) e = V T s m (e + d) := by
  unfold V
  rw [sg_mul, show (e + d + T).toNat = d + (e + T).toNat by omega, two_add, Int.mul_assoc]
theorem V_zero (T : Nat) (s : Bool) (m : Nat) : V T s m 0 = sg s m * ((2 ^ T : Nat) : Int) := by
  unfold V; rw [show ((0 : Int) + T).toNat = T by omega]
theorem fl_eq (T : Nat) (s : Bool) (m : Nat) (k : Int) (hk : -(T : Int) ≤ k) : fl s m k = V T s m k / ((2 ^ T : Nat) : Int) := by
  unfold fl V
  split
  · rename_i h
    rw [show (k + T).toNat = k.toNat + T by omega, two_add, ← Int.mul_assoc, Int.mul_ediv_cancel _ (by have := two_pos T; omega)]
  · rename_i h
    have e : ((2 ^ T : Nat) : Int) = ((2 ^ (-k).toNat : Nat) : Int) * ((2 ^ (k + T).toNat : Nat) : Int) := by
      rw [← two_add]; congr 2; omega
    rw [e, Int.mul_ediv_mul_of_pos_left _ _ (two_pos _)]
theorem fl_shift (T : Nat) (s : Bool) (m d : Nat) (k : Int) (hk : -(T : Int) ≤ k) : fl s (m * 2 ^ d) k = fl s m (k + d) := by
  rw [fl_eq T _ _ _ hk, fl_eq T _ _ _ (by omega), V_shift _ _ _ _ _ hk]
theorem log2_bounds {m : Nat} (h : m ≠ 0) : 2 ^ m.log2 ≤ m ∧ m < 2 ^ (m.log2 + 1) := ⟨Nat.log2_self_le h, Nat.lt_log2_self⟩
theorem log2_unique {m a : Nat} (h1 : 2 ^ a ≤ m) (h2 : m < 2 ^ (a + 1)) : m.log2 = a := by
  have hm : m ≠ 0 := by have := Nat.two_pow_pos a; omega
  obtain ⟨b1, b2⟩ := log2_bounds hm
  have h3 : a < m.log2 + 1 := (Nat.pow_lt_pow_iff_right (by omega : 1 < 2)).1 (Nat.lt_of_le_of_lt h1 b2)
  have h4 : m.log2 < a + 1 := (Nat.pow_lt_pow_iff_right (by omega : 1 < 2)).1 (Nat.lt_of_le_of_lt b1 h2)
  omega
theorem log2_mul_two_pow {m : Nat} (h : m ≠ 0) (d : Nat) : (m * 2 ^ d).log2 = m.log2 + d := by
  obtain ⟨b1, b2⟩ := log2_bounds h
  refine log2_unique ?_ ?_
  · rw [Nat.pow_add]; exact Nat.mul_le_mul_right _ b1
  · rw [show m.log2 + d + 1 = (m.log2 + 1) + d by omega, Nat.pow_add]; exact (Nat.mul_lt_mul_right (Nat.two_pow_pos d)).2 b2
theorem read_word (neg : Bool) (b kept : Nat) (hk : kept < 2 ^ 53) (hb : b = 0 ∨ 2 ^ 52 ≤ kept) (hr : b ≤ 2045) :
    double.read (double.word neg (b * 2 ^ 52 + kept)) = .number neg kept (-1074 + b) := by
  have hsw : double.signWeight = 2 ^ 63 := rfl
  have hbin : double.binade = 2 ^ 52 := rfl
  have hinf : double.infRung = 2047 * 2 ^ 52 := by decide
  have hlp : double.leastPlace = -1074 := by decide
  have hrlt : b * 2 ^ 52 + kept < 2047 * 2 ^ 52 := by omega
  obtain ⟨r, hre⟩ : ∃ r, b * 2 ^ 52 + kept = r := ⟨_, rfl⟩
  rw [hre] at hrlt ⊢
  have h1 : double.word neg r / double.signWeight % 2 = if neg then 1 else 0 := by
    unfold Format.word; rw [hsw]; cases neg <;> simp <;> omega
  have h2 : double.word neg r % double.signWeight = r := by
    unfold Format.word; rw [hsw]; cases neg <;> simp <;> omega
  unfold Format.read
  simp only [h1, h2, hbin, hinf, hlp]
  by_cases hc : r < 2 ^ 52
  · rw [if_pos hc]
    have : b = 0 := by omega
    subst this
    have : kept = r := by omega
    subst this
    cases neg <;> simp
  · rw [if_neg hc, if_pos hrlt]
    have e1 : 2 ^ 52 + r % 2 ^ 52 = kept := by omega
    have e2 : r / 2 ^ 52 - 1 = b := by omega
    rw [e1, e2]
    cases neg <;> simp
theorem cut_exact (way : Toward) (neg : Bool) (n drop : Nat) : way.cut neg (n * 2 ^ drop) drop = n := by
  unfold Toward.cut
  by_cases hn : n = 0
  · subst hn
    simp
    cases way <;> simp
  · have hl : min drop ((n * 2 ^ drop).log2 + 2) = drop := by rw [log2_mul_two_pow hn]; omega
    rw [hl]
    have hg : 1 <<< drop = 2 ^ drop := by rw [Nat.shiftLeft_eq, Nat.one_mul]
    have hp := Nat.two_pow_pos drop
    simp only [hg, Nat.mul_div_cancel _ hp, Nat.mul_mod_left]
    cases way <;> simp <;> omega
theorem nearest_exact0 (neg : Bool) (k d : Nat) (place : Int) (hk0 : k ≠ 0) (hk : k < 2 ^ 53) (hp : -1074 ≤ place + d) (hq : place + d ≤ 971) :
    ∃ m e, double.read (double.nearest neg (k * 2 ^ d) place) = .number neg m e ∧ (∃ j : Nat, m = k * 2 ^ j ∧ e = place + d - j) ∧ m < 2 ^ 53 ∧ -1074 ≤ e ∧ e ≤ 971 ∧ (e = -1074 ∨ 2 ^ 52 ≤ m) := by
  obtain ⟨b1, b2⟩ := log2_bounds hk0
  have hlk : k.log2 ≤ 52 := by
    have := (Nat.pow_lt_pow_iff_right (by omega : 1 < 2)).1 (Nat.lt_of_le_of_lt b1 hk)
    omega
  have hmag : k * 2 ^ d ≠ 0 := by have := Nat.two_pow_pos d; exact Nat.mul_ne_zero hk0 (by omega)
  have hlp : double.leastPlace = -1074 := by decide
  have hfb : double.fractionBits = 52 := rfl
  have hbin : double.binade = 2 ^ 52 := rfl
  have hinf : double.infRung = 2047 * 2 ^ 52 := by decide
  unfold Format.nearest
  rw [if_neg hmag, log2_mul_two_pow hk0, hlp, hfb, hbin, hinf]
  obtain ⟨last, hlast⟩ : ∃ l, max (place + ((k.log2 + d : Nat) : Int) - ((52 : Nat) : Int)) (-1074) = l := ⟨_, rfl⟩
  simp only [hlast]
  have hj : last ≤ place + d := by omega
  obtain ⟨j, hje⟩ : ∃ j : Nat, place + d - last = j := ⟨(place + d - last).toNat, by omega⟩
  have hkept : Toward.even.cut neg ((k * 2 ^ d) <<< (place - last).toNat) (last - place).toNat = k * 2 ^ j := by
    by_cases hc : last ≤ place
    · rw [show (last - place).toNat = 0 by omega, Nat.shiftLeft_eq, Nat.mul_assoc, ← Nat.pow_add, show d + (place - last).toNat = j by omega]
      have := cut_exact .even neg (k * 2 ^ j) 0
      simpa using this
    · rw [show (place - last).toNat = 0 by omega, Nat.shiftLeft_eq, Nat.pow_zero, Nat.mul_one]
      have h : k * 2 ^ d = k * 2 ^ j * 2 ^ (last - place).toNat := by rw [Nat.mul_assoc, ← Nat.pow_add]; congr 2; omega
      rw [h]; exact cut_exact .even neg (k * 2 ^ j) _
  rw [hkept]
  have hlt : k * 2 ^ j < 2 ^ 53 := by
    refine Nat.lt_of_lt_of_le ((Nat.mul_lt_mul_right (Nat.two_pow_pos j)).2 b2) ?_
    rw [← Nat.pow_add]
    exact Nat.pow_le_pow_right (by omega) (by omega)
  obtain ⟨b, hb⟩ : ∃ b, (last - -1074).toNat = b := ⟨_, rfl⟩
  rw [hb]
  have hge : b = 0 ∨ 2 ^ 52 ≤ k * 2 ^ j := by
    by_cases h0 : b = 0
    · exact .inl h0
    · right
      have : k.log2 + j = 52 := by omega
      rw [← this, Nat.pow_add]
      exact Nat.mul_le_mul_right _ b1
  have hb5 : b ≤ 2045 := by omega
  rw [Nat.min_eq_left (by omega)]
  refine ⟨k * 2 ^ j, last, ?_, ⟨j, rfl, by omega⟩, hlt, by omega, by omega, ?_⟩
  · rw [read_word neg b (k * 2 ^ j) hlt hge hb5, show (-1074 + (b : Int)) = last by omega]
  · rcases hge with h | h
    · left; omega
    · right; exact h
theorem nearest_exact (neg : Bool) (k d : Nat) (place : Int) (hk : k < 2 ^ 53) (hp : -1074 ≤ place + d) (hq : place + d ≤ 971) :
    ∃ m e, double.read (double.nearest neg (k * 2 ^ d) place) = .number neg m e ∧ (∃ j : Nat, m = k * 2 ^ j ∧ e = place + d - j) ∧ m < 2 ^ 53 ∧ -1074 ≤ e ∧ e ≤ 971 := by
  by_cases h0 : k = 0
  · subst h0
    have h1 : double.nearest neg (0 * 2 ^ d) place = double.word neg (0 * 2 ^ 52 + 0) := by unfold Format.nearest; simp
    have h2 := read_word neg 0 0 (by omega) (.inl rfl) (by omega)
    exact ⟨0, -1074, by rw [h1]; simpa using h2, ⟨(place + d + 1074).toNat, by omega, by omega⟩, by omega, by omega, by omega⟩
  · obtain ⟨m, e, h1, h2, h3, h4, h5, h6⟩ := nearest_exact0 neg k d place h0 hk hp hq
    exact ⟨m, e, h1, h2, h3, h4, h5⟩
theorem read_cases (b : Nat) (hb : b < 2 ^ 64) :
    (∃ s m e, double.read b = .number s m e ∧ m < 2 ^ 53 ∧ -1074 ≤ e ∧ e ≤ 971 ∧ (e = -1074 ∨ 2 ^ 52 ≤ m) ∧ b / 2 ^ 52 % 2048 ≠ 2047 ∧ s = (b / 2 ^ 63 == 1) ∧
      (b / 2 ^ 52 % 2048 = 0 → m = b % 2 ^ 52 ∧ e = -1074) ∧ (b / 2 ^ 52 % 2048 ≠ 0 → m = b % 2 ^ 52 + 2 ^ 52 ∧ e = ((b / 2 ^ 52 % 2048 : Nat) : Int) - 1075)) ∨
    (∃ s, double.read b = .infinity s ∧ b / 2 ^ 52 % 2048 = 2047 ∧ b % 2 ^ 52 = 0) ∨
    (∃ s t, double.read b = .nan s t ∧ b / 2 ^ 52 % 2048 = 2047 ∧ b % 2 ^ 52 ≠ 0) := by
  have hsw : double.signWeight = 2 ^ 63 := rfl
  have hbin : double.binade = 2 ^ 52 := rfl
  have hinf : double.infRung = 2047 * 2 ^ 52 := by decide
  have hlp : double.leastPlace = -1074 := by decide
  have hs : b / 2 ^ 63 % 2 = b / 2 ^ 63 := by omega
  unfold Format.read
  simp only [hsw, hbin, hinf, hlp, hs]
  by_cases h1 : b % 2 ^ 63 < 2 ^ 52
  · rw [if_pos h1]
    refine .inl ⟨_, _, _, rfl, by omega, by omega, by omega, .inl rfl, by omega, rfl, fun _ => ⟨by omega, rfl⟩, fun h => by omega⟩
  · rw [if_neg h1]
    by_cases h2 : b % 2 ^ 63 < 2047 * 2 ^ 52
    · rw [if_pos h2]
      refine .inl ⟨_, _, _, rfl, by omega, by omega, by omega, .inr (by omega), by omega, rfl, fun h => by omega, fun _ => ⟨by omega, by omega⟩⟩
    · rw [if_neg h2]
      by_cases h3 : b % 2 ^ 63 = 2047 * 2 ^ 52
      · rw [if_pos h3]
        exact .inr (.inl ⟨_, rfl, by omega, by omega⟩)
      · rw [if_neg h3]
        exact .inr (.inr ⟨_, _, rfl, by omega, by omega⟩)
theorem signed_eq (s : Bool) (m up : Nat) : signed s m up = sg s m * ((2 ^ up : Nat) : Int) := by
  unfold signed sg
  rw [Nat.shiftLeft_eq]
  cases s <;> simp [Int.natCast_mul, Int.neg_mul]
theorem compare_mul {a b c : Int} (hc : 0 < c) : compare (a * c) (b * c) = compare a b := by
  rcases Int.lt_trichotomy a b with h | h | h
  · rw [Int.compare_eq_lt.2 h, Int.compare_eq_lt.2 ((Int.mul_lt_mul_right hc).2 h)]
  · subst h; simp
  · rw [Int.compare_eq_gt.2 h, Int.compare_eq_gt.2 ((Int.mul_lt_mul_right hc).2 h)]
theorem order_V (T : Nat) {x y : Nat} {s t : Bool} {m n : Nat} {i j : Int} (hx : double.read x = .number s m i) (hy : double.read y = .number t n j) (hi : -(T : Int) ≤ i) (hj : -(T : Int) ≤ j) :
    double.order x y = some (compare (V T s m i) (V T t n j)) := by
  unfold Format.order
  rw [hx, hy]
  unfold Datum.order
  simp only [signed_eq]
  congr 1
  unfold V
  rw [show (i + T).toNat = (i - min i j).toNat + (min i j + T).toNat by omega, show (j + T).toNat = (j - min i j).toNat + (min i j + T).toNat by omega, two_add, two_add,
    ← Int.mul_assoc, ← Int.mul_assoc, compare_mul (two_pos _)]
theorem toInt_exact (s : Bool) (n j : Nat) (way : Toward) : (Datum.number s (n * 2 ^ j) (-(j : Int))).toInt way = some (sg s n) := by
  unfold Datum.toInt Datum.integral
  simp only []
  rw [show (-(j : Int)).toNat = 0 by omega, show (-(-(j : Int))).toNat = j by omega, Nat.shiftLeft_eq, Nat.pow_zero, Nat.mul_one, cut_exact, signed_eq]
  simp
theorem cut_down (s : Bool) (m : Nat) (k : Int) : sg s (Toward.down.cut s (m <<< k.toNat) (-k).toNat) = fl s m k := by
  unfold fl
  split
  · rename_i h
    rw [show (-k).toNat = 0 by omega, Nat.shiftLeft_eq]
    have := cut_exact .down s (m * 2 ^ k.toNat) 0
    rw [Nat.pow_zero, Nat.mul_one] at this
    rw [this, sg_mul]
  · rename_i h
    rw [show k.toNat = 0 by omega, Nat.shiftLeft_eq, Nat.pow_zero, Nat.mul_one]
    obtain ⟨d, hd⟩ : ∃ d, (-k).toNat = d := ⟨_, rfl⟩
    rw [hd]
    by_cases hm : m = 0
    · subst hm
      rw [sg_zero]
      have := cut_exact .down s 0 d
      rw [Nat.zero_mul] at this
      rw [this, sg_zero, Int.zero_ediv]
    · obtain ⟨b1, b2⟩ := log2_bounds hm
      have key : ∀ g : Nat, 0 < g → sg s (m / g + (s && m % g != 0).toNat) = sg s m / (g : Int) := by
        intro g hg
        have e1 := Nat.div_add_mod m g
        have e2 := Nat.mod_lt m hg
        obtain ⟨q, hq⟩ : ∃ q, m / g = q := ⟨_, rfl⟩
        obtain ⟨r, hr⟩ : ∃ r, m % g = r := ⟨_, rfl⟩
        rw [hq, hr] at e1
        rw [hr] at e2
        rw [hq, hr]
        have e1' : (m : Int) = (g : Int) * (q : Int) + (r : Int) := by rw [← e1, Int.natCast_add, Int.natCast_mul]
        unfold sg
        cases s
        · simp
          rw [← Int.natCast_ediv, hq]
        · simp only [if_true, Bool.true_and]
          by_cases hz : r = 0
          · subst hz
            simp
            refine (Int.ediv_eq_of_eq_mul_right (by omega) ?_).symm
            rw [e1', Int.mul_neg]; simp
          · have : (r != 0) = true := by simpa using hz
            rw [this]
            refine ((Int.ediv_emod_unique (show (0 : Int) < g by omega)).2 ⟨show ((g : Int) - r) + g * -((q + 1 : Nat) : Int) = -(m : Int) from ?_, by omega, by omega⟩).1.symm
            rw [e1', Int.mul_neg, Int.natCast_add, Int.mul_add]; simp; omega
      unfold Toward.cut
      simp only []
      rw [show (1 <<< min d (m.log2 + 2)) = 2 ^ min d (m.log2 + 2) by rw [Nat.shiftLeft_eq, Nat.one_mul]]
      by_cases hdl : d ≤ m.log2 + 2
      · rw [show min d (m.log2 + 2) = d by omega]
        exact key _ (Nat.two_pow_pos d)
      · rw [show min d (m.log2 + 2) = m.log2 + 2 by omega, key _ (Nat.two_pow_pos _)]
        have l1 : m < 2 ^ (m.log2 + 2) := Nat.lt_of_lt_of_le b2 (Nat.pow_le_pow_right (by omega) (by omega))
        have l2 : m < 2 ^ d := Nat.lt_of_lt_of_le l1 (Nat.pow_le_pow_right (by omega) (by omega))
        unfold sg
        cases s
        · simp only [Bool.false_eq_true, if_false]
          rw [Int.ediv_eq_zero_of_lt (by omega) (by omega), Int.ediv_eq_zero_of_lt (by omega) (by omega)]
        · simp only [if_true]
          rw [((Int.ediv_emod_unique (show (0 : Int) < ((2 ^ (m.log2 + 2) : Nat) : Int) from two_pos _)).2 ⟨show (((2 ^ (m.log2 + 2) : Nat) : Int) - m) + ((2 ^ (m.log2 + 2) : Nat) : Int) * -1 = -(m : Int) by omega, by omega, by omega⟩).1,
            ((Int.ediv_emod_unique (show (0 : Int) < ((2 ^ d : Nat) : Int) from two_pos _)).2 ⟨show (((2 ^ d : Nat) : Int) - m) + ((2 ^ d : Nat) : Int) * -1 = -(m : Int) by omega, by omega, by omega⟩).1]
theorem whole_read (T : Nat) (hT : 1074 ≤ T) (s : Bool) (n : Nat) (hn : n < 2 ^ 53) :
    ∃ m e, double.read (double.nearest s n 0) = .number s m e ∧ (∀ way, (Datum.number s m e).toInt way = some (sg s n)) ∧ V T s m e = sg s n * ((2 ^ T : Nat) : Int) ∧ -1074 ≤ e ∧ e ≤ 971 ∧ m < 2 ^ 53 := by
  obtain ⟨m, e, hr, ⟨j, hm, he⟩, h1, h2, h3⟩ := nearest_exact s n 0 0 hn (by omega) (by omega)
  rw [Nat.pow_zero, Nat.mul_one] at hr
  have he' : e = -(j : Int) := by omega
  refine ⟨m, e, hr, fun way => ?_, ?_, h2, h3, h1⟩
  · rw [hm, he']; exact toInt_exact s n j way
  · have h5 := V_shift T s n j e (by omega)
    have h6 : e + j = 0 := by omega
    subst hm
    exact h5.trans ((congrArg (V T s n) h6).trans (V_zero T s n))
theorem nearest_bounds (T : Nat) (hT : 1074 ≤ T) (neg : Bool) (mag : Nat) (place : Int) (h0 : mag ≠ 0) (hp : -1022 ≤ place + mag.log2) (hq : place + mag.log2 ≤ 900) :
    ∃ m e, double.read (double.nearest neg mag place) = .number neg m e ∧ -1074 ≤ e ∧ e ≤ 971 ∧ m < 2 ^ 53 ∧
      ((2 ^ (place + mag.log2 + T).toNat : Nat) : Int) ≤ (m : Int) * ((2 ^ (e + T).toNat : Nat) : Int) ∧ (m : Int) * ((2 ^ (e + T).toNat : Nat) : Int) ≤ ((2 ^ (place + mag.log2 + 1 + T).toNat : Nat) : Int) := by
  obtain ⟨b1, b2⟩ := log2_bounds h0
  have hlp : double.leastPlace = -1074 := by decide
  have hfb : double.fractionBits = 52 := rfl
  have hbin : double.binade = 2 ^ 52 := rfl
  have hinf : double.infRung = 2047 * 2 ^ 52 := by decide
  obtain ⟨L, hL⟩ : ∃ L, mag.log2 = L := ⟨_, rfl⟩
  unfold Format.nearest
  rw [if_neg h0, hlp, hfb, hbin, hinf]
  rw [hL] at b1 b2 hp hq ⊢
  obtain ⟨last, hlast⟩ : ∃ l, max (place + ((L : Nat) : Int) - ((52 : Nat) : Int)) (-1074) = l := ⟨_, rfl⟩
  simp only [hlast]
  have hl2 : last = place + L - 52 := by omega
  have hkept : ∃ kept, Toward.even.cut neg (mag <<< (place - last).toNat) (last - place).toNat = kept ∧ 2 ^ 52 ≤ kept ∧ kept ≤ 2 ^ 53 := by
    refine ⟨_, rfl, ?_⟩
    by_cases hc : last ≤ place
    · rw [show (last - place).toNat = 0 by omega, Nat.shiftLeft_eq]
      have := cut_exact .even neg (mag * 2 ^ (place - last).toNat) 0
      rw [Nat.pow_zero, Nat.mul_one] at this
      rw [this]
      have e52 : L + (place - last).toNat = 52 := by omega
      refine ⟨?_, ?_⟩
      · rw [← e52, Nat.pow_add]; exact Nat.mul_le_mul_right _ b1
      · rw [show 53 = (L + 1) + (place - last).toNat by omega, Nat.pow_add]; exact Nat.le_of_lt ((Nat.mul_lt_mul_right (Nat.two_pow_pos _)).2 b2)
    · rw [show (place - last).toNat = 0 by omega, Nat.shiftLeft_eq, Nat.pow_zero, Nat.mul_one]
      obtain ⟨d, hd⟩ : ∃ d, (last - place).toNat = d := ⟨_, rfl⟩
      have hdL : d + 52 = L := by omega
      rw [hd]
      unfold Toward.cut
      rw [hL, show min d (L + 2) = d by omega, show (1 <<< d) = 2 ^ d by rw [Nat.shiftLeft_eq, Nat.one_mul]]
      have hd0 := Nat.two_pow_pos d
      have q1 : 2 ^ 52 ≤ mag / 2 ^ d := by
        rw [Nat.le_div_iff_mul_le hd0, ← Nat.pow_add, show 52 + d = L by omega]; exact b1
      have q2 : mag / 2 ^ d < 2 ^ 53 := by
        rw [Nat.div_lt_iff_lt_mul hd0, ← Nat.pow_add, show 53 + d = L + 1 by omega]; exact b2
      have q3 : ∀ c : Bool, c.toNat ≤ 1 := fun c => by cases c <;> simp
      have := q3 (decide (2 ^ d < 2 * (mag % 2 ^ d)) || 2 ^ d == 2 * (mag % 2 ^ d) && mag / 2 ^ d % 2 == 1)
      simp only []
      omega
  obtain ⟨kept, hk, k1, k2⟩ := hkept
  rw [hk]
  obtain ⟨b, hb⟩ : ∃ b, (last - -1074).toNat = b := ⟨_, rfl⟩
  rw [hb, Nat.min_eq_left (by omega)]
  have h52 : ((2 ^ (place + L + T).toNat : Nat) : Int) = ((2 ^ 52 : Nat) : Int) * ((2 ^ (last + T).toNat : Nat) : Int) := by rw [← two_add]; congr 2; omega
  have h53 : ((2 ^ (place + L + 1 + T).toNat : Nat) : Int) = ((2 ^ 53 : Nat) : Int) * ((2 ^ (last + T).toNat : Nat) : Int) := by rw [← two_add]; congr 2; omega
  have hpos := two_pos (last + T).toNat
  by_cases hfull : kept = 2 ^ 53
  · have := read_word neg (b + 1) (2 ^ 52) (by omega) (.inr (by omega)) (by omega)
    rw [show (b + 1) * 2 ^ 52 + 2 ^ 52 = b * 2 ^ 52 + kept by omega] at this
    refine ⟨2 ^ 52, _, this, by omega, by omega, by omega, ?_⟩
    have h6 : ((2 ^ 52 : Nat) : Int) * ((2 ^ (-1074 + ((b + 1 : Nat) : Int) + T).toNat : Nat) : Int) = ((2 ^ 53 : Nat) : Int) * ((2 ^ (last + T).toNat : Nat) : Int) := by
      rw [← two_add, ← two_add]; congr 2; omega
    rw [h6, h52, h53]
    refine ⟨Int.mul_le_mul_of_nonneg_right (by omega) (by omega), Int.le_refl _⟩
  · have := read_word neg b kept (by omega) (.inr (by omega)) (by omega)
    refine ⟨kept, _, this, by omega, by omega, by omega, ?_⟩
    rw [show (-1074 + (b : Int)) = last by omega, h52, h53]
    exact ⟨Int.mul_le_mul_of_nonneg_right (by omega) (by omega), Int.mul_le_mul_of_nonneg_right (by omega) (by omega)⟩
theorem read_two30 : double.read 0x41D0000000000000 = .number false (2 ^ 52) (-22) := by decide
theorem read_neg30 : double.read 0xC1D0000000000000 = .number true (2 ^ 52) (-22) := by decide
theorem read_65536 : double.read 0x40F0000000000000 = .number false (2 ^ 52) (-36) := by decide
theorem read_two46 : double.read 0x42D0000000000000 = .number false (2 ^ 52) (-6) := by decide
theorem read_half : double.read 0x3FE0000000000000 = .number false (2 ^ 52) (-53) := by decide
theorem read_one : double.read 0x3FF0000000000000 = .number false (2 ^ 52) (-52) := by decide
theorem V_pow (T : Nat) (s : Bool) (m d : Nat) (e : Int) (he : -(T : Int) ≤ e) : V T s m (e + d) = V T s m e * ((2 ^ d : Nat) : Int) := by
  unfold V
  rw [show (e + d + T).toNat = (e + T).toNat + d by omega, two_add, Int.mul_assoc]
theorem sum_number (s t : Bool) (m n : Nat) (i j : Int) : (Datum.number s m i).sum (.number t n j) =
    some (.number (if sg s m * ((2 ^ (i - min i j).toNat : Nat) : Int) + sg t n * ((2 ^ (j - min i j).toNat : Nat) : Int) = 0 then s && t else decide (sg s m * ((2 ^ (i - min i j).toNat : Nat) : Int) + sg t n * ((2 ^ (j - min i j).toNat : Nat) : Int) < 0))
      (sg s m * ((2 ^ (i - min i j).toNat : Nat) : Int) + sg t n * ((2 ^ (j - min i j).toNat : Nat) : Int)).natAbs (min i j)) := by
  unfold Datum.sum
  simp only [signed_eq]
theorem sum_V (T : Nat) (s t : Bool) (m n : Nat) (i j : Int) (hi : -(T : Int) ≤ i) (hj : -(T : Int) ≤ j) :
    (sg s m * ((2 ^ (i - min i j).toNat : Nat) : Int) + sg t n * ((2 ^ (j - min i j).toNat : Nat) : Int)) * ((2 ^ (min i j + T).toNat : Nat) : Int) = V T s m i + V T t n j := by
  unfold V
  rw [Int.add_mul, Int.mul_assoc, Int.mul_assoc, ← two_add, ← two_add]
  congr 3 <;> (congr 1; congr 1; omega)
theorem sg_decide (z : Int) (s : Bool) (h : z = 0 ∨ s = decide (z < 0)) : sg s z.natAbs = z := by
  unfold sg
  rcases h with rfl | rfl
  · cases s <;> simp
  · by_cases hz : z < 0
    · simp [hz]; omega
    · simp [hz]; omega
theorem sum_exact (T : Nat) (hT : 1074 ≤ T) {x y : Nat} {s t : Bool} {m n : Nat} {i j : Int} (hx : double.read x = .number s m i) (hy : double.read y = .number t n j) (hi : -1074 ≤ i) (hj : -1074 ≤ j)
    (z : Int) (d : Nat) (hz : sg s m * ((2 ^ (i - min i j).toNat : Nat) : Int) + sg t n * ((2 ^ (j - min i j).toNat : Nat) : Int) = z * ((2 ^ d : Nat) : Int)) (hzl : z.natAbs < 2 ^ 53) (hd : min i j + d ≤ 971) :
    ∃ r k e c, double.add x y = some r ∧ double.read r = .number k c e ∧ -1074 ≤ e ∧ e ≤ 971 ∧ (∃ a : Nat, c = z.natAbs * 2 ^ a ∧ e = min i j + d - a) ∧ sg k z.natAbs = z := by
  have hN : (sg s m * ((2 ^ (i - min i j).toNat : Nat) : Int) + sg t n * ((2 ^ (j - min i j).toNat : Nat) : Int)).natAbs = z.natAbs * 2 ^ d := by rw [hz, Int.natAbs_mul]; congr 1
  obtain ⟨k, hk⟩ : ∃ k, (if sg s m * ((2 ^ (i - min i j).toNat : Nat) : Int) + sg t n * ((2 ^ (j - min i j).toNat : Nat) : Int) = 0 then s && t else decide (sg s m * ((2 ^ (i - min i j).toNat : Nat) : Int) + sg t n * ((2 ^ (j - min i j).toNat : Nat) : Int) < 0)) = k := ⟨_, rfl⟩
  have hkz : z = 0 ∨ k = decide (z < 0) := by
    by_cases h0 : z = 0
    · exact .inl h0
    · right
      have hp := two_pos d
      rw [hz] at hk
      have hne : ¬ z * ((2 ^ d : Nat) : Int) = 0 := by
        intro h
        rcases Int.mul_eq_zero.1 h with h | h
        · exact h0 h
        · omega
      rw [if_neg hne] at hk
      rw [← hk, decide_eq_decide]
      constructor
      · intro h
        rcases Int.lt_trichotomy z 0 with h1 | h1 | h1
        · exact h1
        · exact absurd h1 h0
        · have := Int.mul_pos h1 hp; omega
      · intro h; exact Int.mul_neg_of_neg_of_pos h hp
  obtain ⟨c, e, hr, ha, h1, h2, h3⟩ := nearest_exact k z.natAbs d (min i j) hzl (by omega) hd
  refine ⟨_, k, e, c, ?_, hr, h2, h3, ha, sg_decide z k hkz⟩
  unfold Format.add
  rw [hx, hy, sum_number, hk, hN]
  rfl
theorem order_int {b c : Nat} {s t : Bool} {m n : Nat} {e j : Int} (z : Int) (hb : double.read b = .number s m e) (hc : double.read c = .number t n j) (he : -1074 ≤ e) (hj : -1074 ≤ j) (hz : fl t n (j + 16) = z) (hw : 0 ≤ j + 16 ∨ ∃ d : Nat, n = (n / 2 ^ d) * 2 ^ d ∧ j + 16 + d = 0) :
    (double.order b c == some .lt) = decide (fl s m (e + 16) < z) ∧ (double.order b c == some .gt || double.order b c == some .eq) = decide (z ≤ fl s m (e + 16)) := by
  obtain ⟨T, hT⟩ : ∃ T : Nat, T = 2000 := ⟨_, rfl⟩
  have h0 := order_V T hb hc (by omega) (by omega)
  have hp := two_pos T
  have h1 : V T t n (j + 16) = z * ((2 ^ T : Nat) : Int) := by
    rcases hw with hw | ⟨d, hn, hd⟩
    · have := fl_eq T t n (j + 16) (by omega)
      rw [hz] at this
      unfold fl at hz
      rw [if_pos hw] at hz
      unfold V
      rw [← hz, Int.mul_assoc, ← two_add, show (j + 16 + T).toNat = (j + 16).toNat + T by omega]
    · have h2 : fl t n (j + 16) = sg t (n / 2 ^ d) := by
        conv => lhs; rw [hn]
        rw [fl_shift T _ _ _ _ (by omega), hd]
        unfold fl; simp
      conv => lhs; rw [hn]
      rw [V_shift T _ _ _ _ (by omega), hd, V_zero, ← hz, h2]
  have h2 : compare (V T s m e) (V T t n j) = compare (V T s m (e + 16)) (z * ((2 ^ T : Nat) : Int)) := by
    have a1 := V_pow T s m 16 e (by omega)
    have a2 := V_pow T t n 16 j (by omega)
    rw [← h1, show e + 16 = e + ((16 : Nat) : Int) from rfl, show j + 16 = j + ((16 : Nat) : Int) from rfl, a1, a2, compare_mul (two_pos 16)]
  rw [h0, h2, fl_eq T s m (e + 16) (by omega)]
  have k1 := Int.ediv_lt_iff_lt_mul (a := V T s m (e + 16)) (b := z) hp
  have k2 := Int.le_ediv_iff_mul_le (a := z) (b := V T s m (e + 16)) hp
  obtain ⟨X, hX⟩ : ∃ X, V T s m (e + 16) = X := ⟨_, rfl⟩
  obtain ⟨Y, hY⟩ : ∃ Y, z * ((2 ^ T : Nat) : Int) = Y := ⟨_, rfl⟩
  rw [hX, hY] at k1 k2
  rw [hX, hY]
  rcases Int.lt_trichotomy X Y with h | h | h
  · have hc := Int.compare_eq_lt.2 h
    rw [hc]
    refine ⟨?_, ?_⟩
    · rw [decide_eq_true (k1.2 h)]; rfl
    · rw [decide_eq_false (fun q => by have := k2.1 q; omega)]; rfl
  · subst h
    have hc : compare X X = .eq := by simp
    rw [hc]
    refine ⟨?_, ?_⟩
    · rw [decide_eq_false (fun q => by have := k1.1 q; omega)]; rfl
    · rw [decide_eq_true (k2.2 (Int.le_refl _))]; rfl
  · have hc := Int.compare_eq_gt.2 h
    rw [hc]
    refine ⟨?_, ?_⟩
    · rw [decide_eq_false (fun q => by have := k1.1 q; omega)]; rfl
    · rw [decide_eq_true (k2.2 (by omega))]; rfl
theorem place_small {s : Bool} {m : Nat} {e : Int} (hn : e = -1074 ∨ 2 ^ 52 ≤ m) (h0 : -70368744177664 ≤ fl s m (e + 16)) (h1 : fl s m (e + 16) < 70368744177664) : e < 0 := by
  rcases hn with h | h
  · omega
  · rcases Int.lt_or_le e 0 with he | he
    · exact he
    · exfalso
      unfold fl at h0 h1
      rw [if_pos (by omega)] at h0 h1
      have hp : (1 : Int) ≤ ((2 ^ (e + 16).toNat : Nat) : Int) := by have := two_pos (e + 16).toNat; omega
      obtain ⟨P, hP⟩ : ∃ P, ((2 ^ (e + 16).toNat : Nat) : Int) = P := ⟨_, rfl⟩
      rw [hP] at h0 h1 hp
      have hm : (m : Int) * 1 ≤ (m : Int) * P := Int.mul_le_mul_of_nonneg_left hp (by omega)
      unfold sg at h0 h1
      cases s
      · simp only [Bool.false_eq_true, if_false] at h0 h1; omega
      · simp only [if_true, Int.neg_mul] at h0 h1; omega
theorem times_one {b : Nat} {s : Bool} {m : Nat} {e : Int} (hb : double.read b = .number s m e) (hm : m < 2 ^ 53) (he : -1074 ≤ e) (he2 : e < 0) :
    ∃ x m' e', double.mul b 0x40F0000000000000 = some x ∧ double.read x = .number s m' e' ∧ (∃ j : Nat, m' = m * 2 ^ j ∧ e' = e + 16 - j) ∧ m' < 2 ^ 53 ∧ -1074 ≤ e' ∧ e' ≤ 971 := by
  obtain ⟨m', e', hr, ⟨j, h1, h2⟩, h3, h4, h5⟩ := nearest_exact s m 52 (e + -36) hm (by omega) (by omega)
  refine ⟨_, m', e', ?_, hr, ⟨j, h1, by omega⟩, h3, h4, h5⟩
  unfold Format.mul
  rw [hb, read_65536]
  simp only [Datum.product, Option.map_some, Bool.xor_false]
  rfl
theorem floor_word {x : Nat} {s : Bool} {m' : Nat} {e' : Int} (hx : double.read x = .number s m' e') :
    double.write ((double.read x).integral .down) = double.nearest s (fl s m' e').natAbs 0 ∧ sg s (fl s m' e').natAbs = fl s m' e' := by
  have h := cut_down s m' e'
  obtain ⟨c, hc⟩ : ∃ c, Toward.down.cut s (m' <<< e'.toNat) (-e').toNat = c := ⟨_, rfl⟩
  rw [hc] at h
  have hn : (fl s m' e').natAbs = c := by rw [← h, sg_natAbs]
  rw [hx, hn]
  refine ⟨?_, h⟩
  show double.nearest s (Toward.down.cut s (m' <<< e'.toNat) (-e').toNat) 0 = _
  rw [hc]
theorem half_iff {X P v F : Int} (hP : 0 < P) (hv : X / P = v) (hF : X - v * P = F) : 0 ≤ F ∧ F < P ∧ (X * 2 / P - 2 * v = 1 ↔ P ≤ 2 * F) := by
  have e := Int.mul_ediv_add_emod X P
  have h0 := Int.emod_nonneg X (show P ≠ 0 by omega)
  have h1 := Int.emod_lt_of_pos X hP
  rw [hv, Int.mul_comm] at e
  have hFe : F = X % P := by omega
  refine ⟨by omega, by omega, ?_⟩
  have e2 : X * 2 = 2 * F + 2 * v * P := by rw [← hF, Int.mul_sub, Int.mul_assoc]; omega
  rw [e2, Int.add_mul_ediv_right _ _ (by omega)]
  constructor
  · intro h
    have h3 : 1 ≤ 2 * F / P := by omega
    have := (Int.le_ediv_iff_mul_le hP).1 h3
    omega
  · intro h
    have h3 : 1 ≤ 2 * F / P := (Int.le_ediv_iff_mul_le hP).2 (by omega)
    have h4 : 2 * F / P < 2 := (Int.ediv_lt_iff_lt_mul hP).2 (by omega)
    omega
theorem opposite_number (s : Bool) (m : Nat) (e : Int) : (Datum.number s m e).opposite = .number (!s) m e := rfl
theorem sg_not (s : Bool) (m : Nat) : sg (!s) m = -sg s m := by unfold sg; cases s <;> simp
theorem sub_half {x : Nat} {s : Bool} {m : Nat} {e : Int} (hx : double.read x = .number s m e) (hm : m < 2 ^ 53) (he : -1074 ≤ e) (he2 : e ≤ 900) (hv : (fl s m e).natAbs < 2 ^ 53) :
    ∃ r, double.sub x (double.nearest s (fl s m e).natAbs 0) = some r ∧ (double.order r 0x3FE0000000000000 == some .gt || double.order r 0x3FE0000000000000 == some .eq) = decide (fl s m (e + 1) - 2 * fl s m e = 1) := by
  obtain ⟨T, hT⟩ : ∃ T : Nat, T = 2000 := ⟨_, rfl⟩
  have hPp := two_pos T
  have hfw := (floor_word hx).2
  obtain ⟨v, hve⟩ : ∃ v, fl s m e = v := ⟨_, rfl⟩
  rw [hve] at hv hfw ⊢
  obtain ⟨n, j, hW, _, hVW, hj, hj2, hn⟩ := whole_read T (by omega) s v.natAbs hv
  rw [hfw] at hVW
  have hX1 := fl_eq T s m e (by omega)
  have hX2 := fl_eq T s m (e + 1) (by omega)
  have hX3 := V_pow T s m 1 e (by omega)
  rw [show e + ((1 : Nat) : Int) = e + 1 from rfl] at hX3
  rw [hX3] at hX2
  rw [hve] at hX1
  have hsub : double.sub x (double.nearest s v.natAbs 0) = ((Datum.number s m e).sum (.number (!s) n j)).map double.write := by
    unfold Format.sub; rw [hx, hW, opposite_number]
  have hsumV := sum_V T s (!s) m n e j (by omega) (by omega)
  rw [sum_number] at hsub
  have hVn : V T (!s) n j = -(v * ((2 ^ T : Nat) : Int)) := by
    rw [← hVW]; unfold V; rw [sg_not, Int.neg_mul]
  rw [hVn] at hsumV
  obtain ⟨N, hN⟩ : ∃ N, sg s m * ((2 ^ (e - min e j).toNat : Nat) : Int) + sg (!s) n * ((2 ^ (j - min e j).toNat : Nat) : Int) = N := ⟨_, rfl⟩
  rw [hN] at hsub hsumV
  obtain ⟨base, hbase⟩ : ∃ b, min e j = b := ⟨_, rfl⟩
  have hbe : base ≤ e ∧ -1074 ≤ base := by omega
  rw [hbase] at hsub hsumV hN
  obtain ⟨X, hXe⟩ : ∃ X, V T s m e = X := ⟨_, rfl⟩
  obtain ⟨P, hPe⟩ : ∃ P, ((2 ^ T : Nat) : Int) = P := ⟨_, rfl⟩
  rw [hXe, hPe] at hX1 hsumV
  rw [hXe, hPe] at hX2
  rw [hPe] at hPp
  have h2 : ((2 ^ 1 : Nat) : Int) = 2 := rfl
  rw [h2] at hX2
  obtain ⟨f0, f1, f2⟩ := half_iff (F := X - v * P) hPp hX1.symm rfl
  obtain ⟨F, hF⟩ : ∃ F, X - v * P = F := ⟨_, rfl⟩
  rw [hF] at f0 f1 f2
  rw [show X + -(v * P) = F by omega] at hsumV
  have hbp := two_pos (base + T).toNat
  have hN0 : 0 ≤ N := by
    rcases Int.lt_or_le N 0 with h | h
    · have := Int.mul_neg_of_neg_of_pos h hbp; omega
    · exact h
  have hsign : (if N = 0 then s && !s else decide (N < 0)) = false := by
    split
    · cases s <;> rfl
    · exact decide_eq_false (by omega)
  rw [hsign] at hsub
  refine ⟨_, hsub, ?_⟩
  rw [hX2]
  show (double.order (double.nearest false N.natAbs base) _ == some .gt || double.order (double.nearest false N.natAbs base) _ == some .eq) = _
  have hhalf : V T false (2 ^ 52) (-53) * 2 = P := by
    unfold V; rw [← hPe]
    have : sg false (2 ^ 52) = ((2 ^ 52 : Nat) : Int) := rfl
    rw [this, ← two_add, show (2 : Int) = ((2 ^ 1 : Nat) : Int) from rfl, ← two_add]
    congr 2; omega
  by_cases hh : P ≤ 2 * F
  · rw [decide_eq_true (f2.2 hh)]
    have hNne : N.natAbs ≠ 0 := by
      intro h
      have : N = 0 := by omega
      rw [this, Int.zero_mul] at hsumV; omega
    obtain ⟨b1, b2⟩ := log2_bounds hNne
    obtain ⟨L, hL⟩ : ∃ L, N.natAbs.log2 = L := ⟨_, rfl⟩
    rw [hL] at b1 b2
    have hL1 : -1 ≤ (L : Int) + base := by
      rcases Int.lt_or_le ((L : Int) + base) (-1) with h | h
      · exfalso
        have c1 : N < ((2 ^ (L + 1) : Nat) : Int) := by omega
        have c2 : N * ((2 ^ (base + T).toNat : Nat) : Int) < ((2 ^ (L + 1) : Nat) : Int) * ((2 ^ (base + T).toNat : Nat) : Int) := Int.mul_lt_mul_of_pos_right c1 hbp
        rw [← two_add] at c2
        have c3 : ((2 ^ (L + 1 + (base + T).toNat) : Nat) : Int) * 2 ≤ P := by
          rw [← hPe, show (2 : Int) = ((2 ^ 1 : Nat) : Int) from rfl, ← two_add]
          exact Int.ofNat_le.2 (Nat.pow_le_pow_right (by omega) (by omega))
        omega
      · exact h
    have hL2 : (L : Int) + base ≤ -1 := by
      rcases Int.lt_or_le (-1) ((L : Int) + base) with h | h
      · exfalso
        have c1 : ((2 ^ L : Nat) : Int) ≤ N := by omega
        have c2 : ((2 ^ L : Nat) : Int) * ((2 ^ (base + T).toNat : Nat) : Int) ≤ N * ((2 ^ (base + T).toNat : Nat) : Int) := Int.mul_le_mul_of_nonneg_right c1 (by omega)
        rw [← two_add] at c2
        have c3 : P ≤ ((2 ^ (L + (base + T).toNat) : Nat) : Int) := by
          rw [← hPe]
          exact Int.ofNat_le.2 (Nat.pow_le_pow_right (by omega) (by omega))
        omega
      · exact h
    obtain ⟨c, k, hr, k1, k2, k3, k4, k5⟩ := nearest_bounds T (by omega) false N.natAbs base hNne (by rw [hL]; omega) (by rw [hL]; omega)
    rw [hL] at k4
    have ho := order_V T hr read_half (by omega) (by omega)
    have hV : V T false c k = (c : Int) * ((2 ^ (k + T).toNat : Nat) : Int) := rfl
    have hge : V T false (2 ^ 52) (-53) ≤ V T false c k := by
      rw [hV]
      have c3 : ((2 ^ (base + L + T).toNat : Nat) : Int) * 2 = P := by
        rw [← hPe, show (2 : Int) = ((2 ^ 1 : Nat) : Int) from rfl, ← two_add]; congr 2; omega
      omega
    rw [ho]
    rcases Int.lt_trichotomy (V T false c k) (V T false (2 ^ 52) (-53)) with h | h | h
    · omega
    · rw [h]; simp
    · rw [Int.compare_eq_gt.2 h]; rfl
  · rw [decide_eq_false (fun q => hh (f2.1 q))]
    have hex : ∃ g d : Nat, N = (g : Int) * ((2 ^ d : Nat) : Int) ∧ g < 2 ^ 53 ∧ base + d ≤ 971 := by
      by_cases he0 : 0 ≤ e
      ·
        have : F = 0 := by
          have hXP : X = sg s m * ((2 ^ e.toNat : Nat) : Int) * P := by
            rw [← hXe, ← hPe]; unfold V
            rw [show (e + T).toNat = e.toNat + T by omega, two_add, Int.mul_assoc]
          have : v = sg s m * ((2 ^ e.toNat : Nat) : Int) := by
            rw [hX1, hXP, Int.mul_ediv_cancel _ (by omega)]
          rw [← hF, hXP, this]; omega
        rw [this] at hsumV
        have : N = 0 := by
          rcases Int.mul_eq_zero.1 hsumV with h | h
          · exact h
          · omega
        exact ⟨0, 0, by rw [this]; simp, by omega, by omega⟩
      ·
        have hNd : ∃ g : Int, N = g * ((2 ^ (e - base).toNat : Nat) : Int) := by
          refine ⟨sg s m - v * ((2 ^ (-e).toNat : Nat) : Int), ?_⟩
          have hp3 : ((2 ^ (e - base).toNat : Nat) : Int) * ((2 ^ (base + T).toNat : Nat) : Int) = ((2 ^ (e + T).toNat : Nat) : Int) := by rw [← two_add]; congr 2; omega
          have h5 : (sg s m - v * ((2 ^ (-e).toNat : Nat) : Int)) * ((2 ^ (e - base).toNat : Nat) : Int) * ((2 ^ (base + T).toNat : Nat) : Int) = F := by
            rw [Int.mul_assoc, hp3, Int.sub_mul, Int.mul_assoc, ← two_add, show (-e).toNat + (e + T).toNat = T by omega, hPe, ← hF, ← hXe]; rfl
          exact Int.eq_of_mul_eq_mul_right (by omega) (hsumV.trans h5.symm)
        obtain ⟨g, hg⟩ := hNd
        have hpe := two_pos (e - base).toNat
        have hg0 : 0 ≤ g := by
          rcases Int.lt_or_le g 0 with h | h
          · have := Int.mul_neg_of_neg_of_pos h hpe; omega
          · exact h
        have hgF : g * ((2 ^ (e + T).toNat : Nat) : Int) = F := by
          rw [← hsumV, hg, Int.mul_assoc, ← two_add]; congr 3; omega
        refine ⟨g.toNat, (e - base).toNat, by rw [hg]; congr 1; omega, ?_, by omega⟩
        have hgl : g < ((2 ^ (-e).toNat : Nat) : Int) := by
          rcases Int.lt_or_le g ((2 ^ (-e).toNat : Nat) : Int) with h | h
          · exact h
          · exfalso
            have hq := Int.mul_le_mul_of_nonneg_right h (show (0 : Int) ≤ ((2 ^ (e + T).toNat : Nat) : Int) by have := two_pos (e + T).toNat; omega)
            rw [← two_add, show (-e).toNat + (e + T).toNat = T by omega, hPe] at hq
            omega
        by_cases h53 : (-e).toNat ≤ 53
        · have : ((2 ^ (-e).toNat : Nat) : Int) ≤ ((2 ^ 53 : Nat) : Int) := Int.ofNat_le.2 (Nat.pow_le_pow_right (by omega) h53)
          omega
        ·
          have hmP : (m : Int) * ((2 ^ (e + T).toNat : Nat) : Int) * 2 < P ∨ m = 0 := by
            by_cases hm0 : m = 0
            · exact .inr hm0
            · left
              have c1 : (m : Int) * ((2 ^ (e + T).toNat : Nat) : Int) < ((2 ^ 53 : Nat) : Int) * ((2 ^ (e + T).toNat : Nat) : Int) := Int.mul_lt_mul_of_pos_right (by omega) (two_pos _)
              rw [← two_add] at c1
              have c3 : ((2 ^ (53 + (e + T).toNat) : Nat) : Int) * 2 ≤ P := by
                rw [← hPe, show (2 : Int) = ((2 ^ 1 : Nat) : Int) from rfl, ← two_add]
                exact Int.ofNat_le.2 (Nat.pow_le_pow_right (by omega) (by omega))
              omega
          have hmn : 0 ≤ (m : Int) * ((2 ^ (e + T).toNat : Nat) : Int) := Int.mul_nonneg (by omega) (by have := two_pos (e + T).toNat; omega)
          have hXs : X = sg s m * ((2 ^ (e + T).toNat : Nat) : Int) := hXe.symm
          cases s
          · have hX5 : X = (m : Int) * ((2 ^ (e + T).toNat : Nat) : Int) := hXs
            have hXlt : X < P := by
              rcases hmP with h | h
              · omega
              · rw [hX5, h]; simp; omega
            have hv0 : v = 0 := by rw [hX1]; exact Int.ediv_eq_zero_of_lt (by omega) hXlt
            rw [hv0, Int.zero_mul, Int.sub_zero] at hF
            have : g * ((2 ^ (e + T).toNat : Nat) : Int) = (m : Int) * ((2 ^ (e + T).toNat : Nat) : Int) := by rw [hgF, ← hF, hX5]
            have := Int.eq_of_mul_eq_mul_right (by have := two_pos (e + T).toNat; omega) this
            omega
          · have hX5 : X = -((m : Int) * ((2 ^ (e + T).toNat : Nat) : Int)) := by rw [hXs]; unfold sg; simp [Int.neg_mul]
            rcases hmP with h | h
            · by_cases hm0 : m = 0
              · have hX0 : X = 0 := by rw [hX5, hm0]; simp
                have hv0 : v = 0 := by rw [hX1, hX0]; simp
                rw [hX0, hv0] at hF
                have : g * ((2 ^ (e + T).toNat : Nat) : Int) = 0 := by rw [hgF, ← hF]; simp
                rcases Int.mul_eq_zero.1 this with h' | h'
                · omega
                · have := two_pos (e + T).toNat; omega
              · exfalso
                have hmp : 0 < (m : Int) * ((2 ^ (e + T).toNat : Nat) : Int) := Int.mul_pos (by omega) (two_pos _)
                have hvm : v = -1 := by
                  rw [hX1]
                  refine ((Int.ediv_emod_unique hPp).2 ⟨show (X + P) + P * -1 = X by omega, by omega, by omega⟩).1
                rw [hvm] at hF
                omega
            · have hX0 : X = 0 := by rw [hX5, h]; simp
              have hv0 : v = 0 := by rw [hX1, hX0]; simp
              rw [hX0, hv0] at hF
              have : g * ((2 ^ (e + T).toNat : Nat) : Int) = 0 := by rw [hgF, ← hF]; simp
              rcases Int.mul_eq_zero.1 this with h' | h'
              · omega
              · have := two_pos (e + T).toNat; omega
    obtain ⟨g, d, hg, hgl, hd⟩ := hex
    have hnab : N.natAbs = g * 2 ^ d := by rw [hg, Int.natAbs_mul]; simp
    obtain ⟨c, k, hr, ⟨a, ha, hk⟩, k1, k2, k3⟩ := nearest_exact false g d base hgl (by omega) hd
    rw [← hnab] at hr
    have ho := order_V T hr read_half (by omega) (by omega)
    have hVF : V T false c k = F := by
      rw [ha, V_shift T _ _ _ _ (by omega), show k + a = base + d by omega, ← hsumV, hg]
      unfold V
      have : sg false g = (g : Int) := rfl
      rw [this, Int.mul_assoc, ← two_add]; congr 3; omega
    rw [ho, hVF, Int.compare_eq_lt.2 (by omega)]
    rfl
theorem add_one (s : Bool) (v : Int) (hs : sg s v.natAbs = v) (hv : v.natAbs < 2 ^ 52) :
    ∃ r k c e, double.add (double.nearest s v.natAbs 0) 0x3FF0000000000000 = some r ∧ double.read r = .number k c e ∧ -1074 ≤ e ∧ (∃ a : Nat, c = (v + 1).natAbs * 2 ^ a ∧ e = -(a : Int)) ∧ sg k (v + 1).natAbs = v + 1 := by
  obtain ⟨n, j, hW, ⟨a, ha, hj⟩, h1, h2, h3⟩ := nearest_exact s v.natAbs 0 0 (by omega) (by omega) (by omega)
  rw [Nat.pow_zero, Nat.mul_one] at hW
  have hj' : j = -(a : Int) := by omega
  have hz : sg s n * ((2 ^ (j - min j (-52)).toNat : Nat) : Int) + sg false (2 ^ 52) * ((2 ^ (-52 - min j (-52)).toNat : Nat) : Int) = (v + 1) * ((2 ^ (-(min j (-52))).toNat : Nat) : Int) := by
    rw [ha, sg_mul, hs, Int.mul_assoc, ← two_add, show sg false (2 ^ 52) = ((2 ^ 52 : Nat) : Int) from rfl, ← two_add, Int.add_mul, Int.one_mul]
    congr 3 <;> (congr 1; omega)
  obtain ⟨r, k, e, c, q1, q2, q3, q4, ⟨b, q5, q6⟩, q7⟩ := sum_exact 2000 (by omega) hW read_one h2 (by omega) (v + 1) _ hz (by omega) (by omega)
  exact ⟨r, k, c, e, q1, q2, q3, ⟨b, q5, by omega⟩, q7⟩
def ofS (b : Nat) : Int × Int :=
  match double.read b with
  | .nan .. => (0, 14)
  | .infinity _ => (0, 8)
  | .number s m e => if -70368744177664 ≤ fl s m (e + 16) ∧ fl s m (e + 16) < 70368744177664 then (fl s m (e + 16), 0) else (0, 8)
theorem isnan_order (b : Nat) (hb : b < 2 ^ 64) : (double.order b b != some .eq) = (double.read b).isNaN := by
  rcases read_cases b hb with ⟨s, m, e, h, _⟩ | ⟨s, h, _⟩ | ⟨s, t, h, _⟩
  · unfold Format.order; rw [h]; simp [Datum.order, Datum.isNaN]
  · unfold Format.order; rw [h]; simp [Datum.order, Datum.isNaN]
  · unfold Format.order; rw [h]; simp [Datum.order, Datum.isNaN]
theorem inf_order {b : Nat} {s : Bool} (h : double.read b = .infinity s) : (double.order b 0xC1D0000000000000 == some .lt) = s ∧ (double.order b 0x41D0000000000000 == some .gt || double.order b 0x41D0000000000000 == some .eq) = !s := by
  unfold Format.order
  rw [h, read_neg30, read_two30]
  cases s <;> exact ⟨rfl, rfl⟩
structure Goes (b x W r : Nat) (v : Int) (half : Bool) (W1 : Nat) : Prop where
  low : (double.order b 0xC1D0000000000000 == some .lt) = false
  high : (double.order b 0x41D0000000000000 == some .gt || double.order b 0x41D0000000000000 == some .eq) = false
  times : double.mul b 0x40F0000000000000 = some x
  number : ∃ s m e, double.read x = .number s m e
  floor : double.write ((double.read x).integral .down) = W
  over : (double.order W 0x42D0000000000000 == some .gt || double.order W 0x42D0000000000000 == some .eq) = false
  int : (double.read W).toInt .zero = some v
  diff : double.sub x W = some r
  half : (double.order r 0x3FE0000000000000 == some .gt || double.order r 0x3FE0000000000000 == some .eq) = half
  one : double.add W 0x3FF0000000000000 = some W1
  over1 : (double.order W1 0x42D0000000000000 == some .gt || double.order W1 0x42D0000000000000 == some .eq) = decide (70368744177664 ≤ v + 1)
  int1 : (double.read W1).toInt .zero = some (v + 1)
theorem goes {b : Nat} {s : Bool} {m : Nat} {e : Int} (hb : double.read b = .number s m e) (hm : m < 2 ^ 53) (he : -1074 ≤ e) (hn : e = -1074 ∨ 2 ^ 52 ≤ m)
    (h0 : -70368744177664 ≤ fl s m (e + 16)) (h1 : fl s m (e + 16) < 70368744177664) :
    ∃ x W r W1, Goes b x W r (fl s m (e + 16)) (decide (fl s m (e + 17) - 2 * fl s m (e + 16) = 1)) W1 := by
  have hneg := place_small hn h0 h1
  have c30 : fl false (2 ^ 52) (-22 + 16) = 70368744177664 := by decide
  have c30n : fl true (2 ^ 52) (-22 + 16) = -70368744177664 := by decide
  have c46 : fl false (2 ^ 52) (-6 + 16) = 4611686018427387904 := by decide
  obtain ⟨l1, _⟩ := order_int (-70368744177664) hb read_neg30 he (by omega) c30n (.inr ⟨6, by decide, by omega⟩)
  obtain ⟨_, l2⟩ := order_int 70368744177664 hb read_two30 he (by omega) c30 (.inr ⟨6, by decide, by omega⟩)
  obtain ⟨x, m', e', hx, hxr, ⟨j, hj1, hj2⟩, hm', he', he2'⟩ := times_one hb hm he hneg
  have hfx : fl s m' e' = fl s m (e + 16) := by rw [hj1, fl_shift 2000 _ _ _ _ (by omega), hj2]; congr 1; omega
  have hfx2 : fl s m' (e' + 1) = fl s m (e + 17) := by rw [hj1, fl_shift 2000 _ _ _ _ (by omega), hj2]; congr 1; omega
  obtain ⟨hfl, hsg⟩ := floor_word hxr
  obtain ⟨r, hr1, hr2⟩ := sub_half hxr hm' he' (by omega) (by rw [hfx]; omega)
  rw [hfx2] at hr2
  rw [hfx] at hfl hsg hr1 hr2
  obtain ⟨v, hv⟩ : ∃ v, fl s m (e + 16) = v := ⟨_, rfl⟩
  rw [hv] at h0 h1 l1 l2 hfl hsg hr1 hr2 ⊢
  obtain ⟨W1, k, c, e1, o1, o2, o3, ⟨a, o4, o5⟩, o6⟩ := add_one s v hsg (by omega)
  obtain ⟨n, i, hW, hint, _, hi, _, hnn⟩ := whole_read 2000 (by omega) s v.natAbs (by omega)
  have hflW : fl s n (i + 16) = v * 65536 := by
    obtain ⟨n2, i2, hW2, ⟨d, hd1, hd2⟩, _⟩ := nearest_exact s v.natAbs 0 0 (by omega) (by omega) (by omega)
    rw [Nat.pow_zero, Nat.mul_one] at hW2
    rw [hW] at hW2
    injection hW2 with _ q1 q2
    rw [q1, q2, hd1, fl_shift 2000 _ _ _ _ (by omega), hd2, show ((0 : Int) + ((0 : Nat) : Int) - d + 16 + d) = 16 by omega]
    unfold fl
    rw [if_pos (by omega), hsg]; rfl
  have hflW1 : fl k c (e1 + 16) = (v + 1) * 65536 := by
    rw [o4, fl_shift 2000 _ _ _ _ (by omega), o5, show (-(a : Int) + 16 + a) = 16 by omega]
    unfold fl
    rw [if_pos (by omega), o6]; rfl
  obtain ⟨_, w1⟩ := order_int 4611686018427387904 hW read_two46 (by omega) (by omega) c46 (.inl (by omega))
  obtain ⟨_, w2⟩ := order_int 4611686018427387904 o2 read_two46 (by omega) (by omega) c46 (.inl (by omega))
  rw [hflW] at w1
  rw [hflW1] at w2
  refine ⟨x, double.nearest s v.natAbs 0, r, W1, ?_⟩
  exact {
    low := by rw [l1]; exact decide_eq_false (by omega)
    high := by rw [l2]; exact decide_eq_false (by omega)
    times := hx
    number := ⟨_, _, _, hxr⟩
    floor := hfl
    over := by rw [w1]; exact decide_eq_false (by omega)
    int := by rw [hW, hint .zero, hsg]
    diff := hr1
    half := hr2
    one := o1
    over1 := by rw [w2, decide_eq_decide]; omega
    int1 := by rw [o2, o4, o5, toInt_exact, o6] }
theorem goes_not {b : Nat} {s : Bool} {m : Nat} {e : Int} (hb : double.read b = .number s m e) (he : -1074 ≤ e) (h : ¬ (-70368744177664 ≤ fl s m (e + 16) ∧ fl s m (e + 16) < 70368744177664)) :
    (double.order b 0xC1D0000000000000 == some .lt) = true ∨ (double.order b 0xC1D0000000000000 == some .lt) = false ∧ (double.order b 0x41D0000000000000 == some .gt || double.order b 0x41D0000000000000 == some .eq) = true := by
  have c30 : fl false (2 ^ 52) (-22 + 16) = 70368744177664 := by decide
  have c30n : fl true (2 ^ 52) (-22 + 16) = -70368744177664 := by decide
  obtain ⟨l1, _⟩ := order_int (-70368744177664) hb read_neg30 he (by omega) c30n (.inr ⟨6, by decide, by omega⟩)
  obtain ⟨_, l2⟩ := order_int 70368744177664 hb read_two30 he (by omega) c30 (.inr ⟨6, by decide, by omega⟩)
  rw [l1, l2]
  by_cases hl : fl s m (e + 16) < -70368744177664
  · exact .inl (decide_eq_true hl)
  · exact .inr ⟨decide_eq_false hl, decide_eq_true (by omega)⟩
theorem quotient_number (d : Nat) (s t : Bool) (m n : Nat) (i j : Int) (hn : n ≠ 0) : (Datum.number s m i).quotient d (.number t n j) =
    some (.number (s ^^ t) (2 * ((m <<< (d + n.log2 - m.log2)) / n) + ((m <<< (d + n.log2 - m.log2)) % n != 0).toNat) (i - j - ((d + n.log2 - m.log2 : Nat) : Int) - 1)) := by
  show (if n = 0 then _ else _) = _
  rw [if_neg hn]
theorem by_one (s : Bool) (n : Nat) (hn : n < 2 ^ 53) (h0 : n ≠ 0) :
    ∃ q m e, double.div (double.nearest s n 0) 0x40F0000000000000 = some q ∧ double.read q = .number s m e ∧ (∃ j : Nat, m = n * 2 ^ j ∧ e = -16 - (j : Int)) ∧ m < 2 ^ 53 ∧ -1074 ≤ e ∧ e ≤ 971 ∧ 2 ^ 52 ≤ m := by
  obtain ⟨c, i, hr, ⟨a, hc, hi⟩, h1, h2, h3, h4⟩ := nearest_exact0 s n 0 0 h0 hn (by omega) (by omega)
  rw [Nat.pow_zero, Nat.mul_one] at hr
  have hi' : i = -(a : Int) := by omega
  have ha53 : a ≤ 53 := by
    rcases Nat.lt_or_ge 53 a with h | h
    · exfalso
      have : 2 ^ 54 ≤ 2 ^ a := Nat.pow_le_pow_right (by omega) h
      have : 1 * 2 ^ a ≤ n * 2 ^ a := Nat.mul_le_mul_right _ (by omega)
      omega
    · exact h
  have hc52 : 2 ^ 52 ≤ c := by
    rcases h4 with h | h
    · omega
    · exact h
  have hlog : c.log2 = 52 := log2_unique hc52 h1
  have hl2 : (2 ^ 52).log2 = 52 := by decide
  obtain ⟨m, e, hq, ⟨j, hm, he⟩, k1, k2, k3, k4⟩ := nearest_exact0 s c 3 (i - -36 - ((54 : Nat) : Int) - 1) (by omega) h1 (by omega) (by omega)
  refine ⟨_, m, e, ?_, hq, ⟨a + j, by rw [hm, hc, Nat.mul_assoc, ← Nat.pow_add], by omega⟩, k1, k2, k3, ?_⟩
  · unfold Format.div
    rw [hr, read_65536, quotient_number _ _ _ _ _ _ _ (by decide), hlog, hl2, show double.fractionBits + 2 + 52 - 52 = 54 from rfl]
    have e1 : c <<< 54 = c * 4 * 2 ^ 52 := by rw [Nat.shiftLeft_eq]; omega
    rw [e1, Nat.mul_div_cancel _ (by omega), Nat.mul_mod_left, Bool.xor_false]
    show some (double.nearest s (2 * (c * 4) + 0) (i - -36 - ((54 : Nat) : Int) - 1)) = some (double.nearest s (c * 2 ^ 3) _)
    rw [show 2 * (c * 4) + 0 = c * 2 ^ 3 by omega]
  · rcases k4 with h | h
    · exfalso
      have : j ≤ 1 := by
        rcases Nat.lt_or_ge 1 j with h | h
        · exfalso
          have : 2 ^ 2 ≤ 2 ^ j := Nat.pow_le_pow_right (by omega) h
          have : c * 2 ^ 2 ≤ c * 2 ^ j := Nat.mul_le_mul_left _ this
          omega
        · exact h
      omega
    · exact h
theorem by_one_zero : double.div (double.nearest false 0 0) 0x40F0000000000000 = some 0 := by decide
def toS (v : Int) : Nat := (double.div (double.nearest (decide (v < 0)) v.natAbs 0) 0x40F0000000000000).getD 0
theorem toS_some (v : Int) (h : v.natAbs < 2 ^ 53) : double.div (double.nearest (decide (v < 0)) v.natAbs 0) 0x40F0000000000000 = some (toS v) := by
  unfold toS
  by_cases h0 : v = 0
  · subst h0; rw [show decide ((0 : Int) < 0) = false from rfl, show (0 : Int).natAbs = 0 from rfl, by_one_zero]; rfl
  · obtain ⟨q, _, _, hq, _⟩ := by_one (decide (v < 0)) v.natAbs h (by omega)
    rw [hq]; rfl
end Go.Proofs.Ytoihmanhldcjhaa.Rl
namespace Go.Proofs.Ytoihmanhldcjhaa
open Go Go.RowKit Go.Proofs.Ytoihmanhldcjhaa.Rl Ieee
set_option linter.unusedVariables false
theorem run_bits64 (n : Int) (w : World) : (callFunc 47 #[.int .u64 n]).run Try.prog w = .ok (.value (.float .f64 n.toNat)) w :=
  run_callFunc_extern (e := Extern.MathFloatBits.float64frombits) Try.func47 (by kernel_rfl) (by kernel_rfl) (by kernel_rfl) (by kernel_rfl) _ w
theorem run_floor {x : Nat} {s : Bool} {m : Nat} {e : Int} (h : double.read x = .number s m e) (w : World) :
    (callFunc 52 #[.float .f64 x]).run Try.prog w = .ok (.value (.float .f64 (double.write ((double.read x).integral .down)))) w := by
  rw [run_callFunc_extern (e := Extern.MathFloor.toIntegral "math.archFloor" .down) Try.func52 (by kernel_rfl) (by kernel_rfl) (by kernel_rfl) (by kernel_rfl) _ w]
  have hd : FloatKind.f64.decode x = .number s m e := h
  change (Sem.run Try.prog (match FloatKind.f64.decode x with
    | .nan s t =>
      if FloatKind.f64.format.quiet t = t then (pure (Value.float .f64 x) : Sem Value) else do
      let kept ← choose (.extern "math.Floor,Ceil,Trunc,RoundToEven.signallingNaN kept" 2)
      pure (Value.float .f64 (if kept == 1 then x else FloatKind.f64.encode (.nan s (FloatKind.f64.format.quiet t))))
    | d => (pure (Value.float .f64 (FloatKind.f64.encode (d.integral .down))) : Sem Value)) w).andThen _ = _
  rw [hd, h]
  rfl
theorem isNaN_any (b : Nat) (w : World) : Calls Try.prog 50 #[.float .f64 b] w fun e w' => e = .returned (.bool (double.order b b != some .eq)) ∧ w = w' := by
  go_enter Try.func50, Try.ntmps50
  go_wp2
  go_ret
  exact ⟨rfl, rfl⟩
theorem floor_any {x W : Nat} (h : ∃ s m e, double.read x = .number s m e) (hW : double.write ((double.read x).integral .down) = W) (w : World) : Calls Try.prog 51 #[.float .f64 x] w fun e w' => e = .returned (.float .f64 W) ∧ w = w' := by
  obtain ⟨s, m, e, h⟩ := h
  have hr := run_floor h
  rw [hW] at hr
  clear hW h
  go_enter Try.func51, Try.ntmps51
  go_wp2
  go_ret
  exact ⟨rfl, rfl⟩
def noP (e : Int) : PanicEntry := { v := .iface 91 (.agg #[.int .i64 e]), recovered := false }
def Panics (w : World) (c : Int) (e : Ending) (w' : World) : Prop := e = .panicked [noP c] ∧ w = w'
theorem scaled_nan (b more : Nat) (w : World) (h : (double.order b b != some .eq) = true) : Calls Try.prog 49 #[.float .f64 b, .float .f64 more] w (Panics w 14) := by
  have H := Lib.hid (isNaN_any b)
  rw [h] at H
  clear h
  go_enter Try.func49, Try.ntmps49
  go_wp2_with (go_at_call 50; refine (H.out _).mono ?_; rintro e w' ⟨rfl, rfl⟩)
  exact ⟨rfl, rfl, rfl⟩
set_option maxHeartbeats 1000000 in
theorem scaled_over (b more : Nat) (w : World) (hn : (double.order b b != some .eq) = false)
    (h : (double.order b 0xC1D0000000000000 == some .lt) = true ∨ (double.order b 0xC1D0000000000000 == some .lt) = false ∧ (double.order b 0x41D0000000000000 == some .gt || double.order b 0x41D0000000000000 == some .eq) = true) :
    Calls Try.prog 49 #[.float .f64 b, .float .f64 more] w (Panics w 8) := by
  have H := Lib.hid (isNaN_any b)
  rw [hn] at H
  clear hn
  rcases h with h1 | ⟨h1, h2⟩
  · have h1' : (FloatKind.f64.format.order b 13965662444475908096 == some .lt) = true := h1
    clear h1
    go_enter Try.func49, Try.ntmps49
    go_wp2_with (go_at_call 50; refine (H.out _).mono ?_; rintro e w' ⟨rfl, rfl⟩)
    exact ⟨rfl, rfl, rfl⟩
  · have h1' : (FloatKind.f64.format.order b 13965662444475908096 == some .lt) = false := h1
    have h2' : (FloatKind.f64.format.order b 4742290407621132288 == some .gt || FloatKind.f64.format.order b 4742290407621132288 == some .eq) = true := h2
    clear h1 h2
    go_enter Try.func49, Try.ntmps49
    go_wp2_with (go_at_call 50; refine (H.out _).mono ?_; rintro e w' ⟨rfl, rfl⟩)
    exact ⟨rfl, rfl, rfl⟩
def Ints (w : World) (v : Int) (e : Ending) (w' : World) : Prop := e = .returned (.int .i64 v) ∧ w = w'
theorem toInt_val {W : Nat} {v : Int} (h : (double.read W).toInt .zero = some v) (h0 : -9223372036854775808 ≤ v) (h1 : v ≤ 9223372036854775807) : floatToIntVal .f64 W .i64 = some v := by
  have hd : (FloatKind.f64.decode W).toInt .zero = some v := h
  unfold floatToIntVal
  rw [hd]
  exact if_pos ⟨h0, h1⟩
set_option maxHeartbeats 1000000 in
theorem scaled_down {b x W r W1 : Nat} {v : Int} {hf : Bool} (g : Goes b x W r v hf W1) (w : World) (hn : (double.order b b != some .eq) = false) (hv0 : -70368744177664 ≤ v) (hv1 : v < 70368744177664) :
    Calls Try.prog 49 #[.float .f64 b, .float .f64 0] w (Ints w v) := by
  have H := Lib.hid (isNaN_any b)
  rw [hn] at H
  have HF := Lib.hid (floor_any g.number g.floor)
  have h1 : (FloatKind.f64.format.order b 13965662444475908096 == some .lt) = false := g.low
  have h2 : (FloatKind.f64.format.order b 4742290407621132288 == some .gt || FloatKind.f64.format.order b 4742290407621132288 == some .eq) = false := g.high
  have h3 : ∀ w, (binOp .mul 75 (.float .f64 b) (.float .f64 4679240012837945344)).run Try.prog w = .ok (.float .f64 x) w := fun w => run_float_arith w .mul _ .f64 _ _ _ g.times
  have h4 : (FloatKind.f64.format.order W 4814348001659060224 == some .gt || FloatKind.f64.format.order W 4814348001659060224 == some .eq) = false := g.over
  have h5 : ∀ w, (convert 75 2 (.float .f64 W)).run Try.prog w = .ok (.int .i64 v) w := fun w => run_convert_float_int w _ _ .f64 .i64 W v (by kernel_rfl) Try.underlying2 (toInt_val g.int (by omega) (by omega))
  have h6 : (FloatKind.f64.format.order 0 0 == some .gt) = false := by decide
  clear g hn
  go_enter Try.func49, Try.ntmps49
  go_wp2_with (first
    | (go_at_call 50; refine (H.out _).mono ?_; rintro e w' ⟨rfl, rfl⟩)
    | (go_at_call 51; refine (HF.out _).mono ?_; rintro e w' ⟨rfl, rfl⟩))
  go_ret
  exact ⟨rfl, rfl⟩
theorem of_catch (p q : Addr) (x y : Value) (c : Int) (older : List PanicEntry) (w : World) (hp : w.cell? p = some x) (hq : w.cell? q = some y) (hzp : w.frozen? p = false) (hzq : w.frozen? q = false) (hpq : p ≠ q) :
    CallsD Try.prog 48 #[.pointer (some p), .pointer (some q)] (.panicking (noP c :: older)) w fun e u' w' =>
      e = .returned (.tuple #[]) ∧ u' = .panicking ({ noP c with recovered := true } :: older) ∧ w' = ((w.setCell p (.int .i64 0)).setCell q (.int .i64 c)).drew := by
  have hta : ∀ (v : Value) (W : World), (Instr.typeAssert (.iface 91 v) 20 91 false).run Try.prog W = .ok v W := fun v W => by kernel_rfl
  have hfd : ∀ (W : World), (Instr.field 91 (.agg #[.int .i64 c]) 0).run Try.prog W = .ok (.int .i64 c) W := fun W => by kernel_rfl
  have hpq' : ∀ (W : World) (v : Value), (W.setCell p v).cell? q = W.cell? q := fun W v => World.cell?_setCell_other W p q v hpq
  have hqp' : ∀ (W : World) (v : Value), (W.setCell q v).cell? p = W.cell? p := fun W v => World.cell?_setCell_other W q p v (fun e => hpq e.symm)
  refine callsD_of_wpS Try.func48 rfl fun c₀ cs hu => ?_
  have hrep : (Array.replicate 7 undef : Array Value) = #[undef, undef, undef, undef, undef, undef, undef] := rfl
  apply wpS_seq
  apply wpS_region
  simp [wpOpsS, go_sem, recoverD, hu, Try.ntmps48, Exit.thenS, noP, hrep]
  apply wpS_seq
  apply wpS_region
  simp [wpOpsS, go_sem, Exit.thenS]
  refine wpS_cond (t := true) (by simp [Act.eval]) ?_
  simp only [if_true]
  refine wpS_of_wp ?_
  go_region
  simp [bodyPostS, results, Try.results48, go_sem]
theorem of_idle (p q : Addr) (w : World) :
    CallsD Try.prog 48 #[.pointer (some p), .pointer (some q)] .returning w fun e u' w' => e = .returned (.tuple #[]) ∧ u' = .returning ∧ w' = w := by
  refine callsD_of_wpS Try.func48 rfl fun c₀ cs hu => ?_
  have hrep : (Array.replicate 7 undef : Array Value) = #[undef, undef, undef, undef, undef, undef, undef] := rfl
  apply wpS_seq
  apply wpS_region
  simp [wpOpsS, go_sem, recoverD, hu, Try.ntmps48, Exit.thenS, hrep]
  apply wpS_seq
  apply wpS_region
  simp [wpOpsS, go_sem, Exit.thenS]
  refine wpS_cond (t := false) (by simp [Act.eval]) ?_
  simp only [Bool.false_eq_true, if_false]
  refine wpS_of_wp (wp_skip ?_)
  cases c₀
  simp_all [bodyPostS, results, Try.results48]
def Tells (w : World) (r : Int × Int) (e : Ending) (w' : World) : Prop := e = .returned (.tuple #[.int .i64 r.1, .int .i64 r.2]) ∧ Below w.heap.size w w'
theorem two_new (w : World) : ((w.alloc (.cells #[.int .i64 0] 2)).alloc (.cells #[.int .i64 0] 28)).cell? ⟨w.heap.size, 0, none⟩ = some (.int .i64 0) ∧ ((w.alloc (.cells #[.int .i64 0] 2)).alloc (.cells #[.int .i64 0] 28)).cell? ⟨w.heap.size + 1, 0, none⟩ = some (.int .i64 0) ∧
    ((w.alloc (.cells #[.int .i64 0] 2)).alloc (.cells #[.int .i64 0] 28)).frozen? ⟨w.heap.size, 0, none⟩ = false ∧ ((w.alloc (.cells #[.int .i64 0] 2)).alloc (.cells #[.int .i64 0] 28)).frozen? ⟨w.heap.size + 1, 0, none⟩ = false ∧
    Below w.heap.size w ((w.alloc (.cells #[.int .i64 0] 2)).alloc (.cells #[.int .i64 0] 28)) := by
  have hb : Below w.heap.size w (w.alloc (.cells #[.int .i64 0] 2)) := (Below.refl _ _).alloc (Nat.le_refl _) _
  have hb2 : Below (w.heap.size + 1) (w.alloc (.cells #[.int .i64 0] 2)) ((w.alloc (.cells #[.int .i64 0] 2)).alloc (.cells #[.int .i64 0] 28)) := (Below.refl _ _).alloc (by simp) _
  refine ⟨?_, ?_, ?_, ?_, hb.alloc (by simp) _⟩
  · rw [hb2.cell (p := ⟨w.heap.size, 0, none⟩) (by simp), World.cell?_alloc_at _ _ _ _ rfl]; rfl
  · rw [World.cell?_alloc_at _ _ _ _ (by simp)]; rfl
  · rw [hb2.frozen (p := ⟨w.heap.size, 0, none⟩) (by simp), World.frozen?_alloc_at _ _ _ _ rfl]
  · rw [World.frozen?_alloc_at _ _ _ _ (by simp)]
set_option maxHeartbeats 2000000 in
theorem of_panic (b : Nat) (c : Int) (w : World) (h : ∀ w, Calls Try.prog 49 #[.float .f64 b, .float .f64 0] w (Panics w c)) : Calls Try.prog 46 #[.float .f64 b] w (Tells w (0, c)) := by
  have H := Lib.hid h
  clear h
  have hmf : ∀ (fn : Fn) (first cap : Array Value) (w : World), (Instr.makeFunc fn first cap).run Try.prog w = .ok (.func fn first cap) w := fun _ _ _ _ => rfl
  have HS := Lib.hid (two_new w)
  go_enter_defers Try.func46, Try.ntmps46
  go_wp2_with (go_at_call 49; refine (H.out _).mono ?_; rintro e w' ⟨rfl, rfl⟩)
  obtain ⟨c0, c1, f0, f1, hb⟩ := HS.out
  refine leaves_cons (f := 48) (args := #[.pointer (some ⟨w.heap.size, 0, none⟩), .pointer (some ⟨w.heap.size + 1, 0, none⟩)]) (by simp) (by simp [go_sem]) ?_
  refine (of_catch ⟨w.heap.size, 0, none⟩ ⟨w.heap.size + 1, 0, none⟩ (.int .i64 0) (.int .i64 0) c [] _ c0 c1 f0 f1 (by simp)).mono ?_
  rintro e u' w'' ⟨rfl, rfl, rfl⟩
  simp [Leaves, settle, results, Try.results46, go_sem]
  exact ⟨rfl, (((Below.refl _ _).alloc (Nat.le_refl _) _).alloc (by simp) _).drew⟩
set_option maxHeartbeats 2000000 in
theorem of_goes (b : Nat) (v : Int) (w : World) (h : ∀ w, Calls Try.prog 49 #[.float .f64 b, .float .f64 0] w (Ints w v)) : Calls Try.prog 46 #[.float .f64 b] w (Tells w (v, 0)) := by
  have H := Lib.hid h
  clear h
  have hmf : ∀ (fn : Fn) (first cap : Array Value) (w : World), (Instr.makeFunc fn first cap).run Try.prog w = .ok (.func fn first cap) w := fun _ _ _ _ => rfl
  have HS := Lib.hid (two_new w)
  go_enter_defers Try.func46, Try.ntmps46
  go_wp2_with (go_at_call 49; refine (H.out _).mono ?_; rintro e w' ⟨rfl, rfl⟩)
  refine leaves_cons (f := 48) (args := #[.pointer (some ⟨w.heap.size, 0, none⟩), .pointer (some ⟨w.heap.size + 1, 0, none⟩)]) (by simp) (by simp [go_sem]) ?_
  refine (of_idle ⟨w.heap.size, 0, none⟩ ⟨w.heap.size + 1, 0, none⟩ _).mono ?_
  rintro e u' w'' ⟨rfl, rfl, rfl⟩
  simp [Leaves, settle, results, Try.results46, go_sem]
  exact ⟨rfl, ((Below.refl _ _).alloc (Nat.le_refl _) _).alloc (by simp) _⟩
theorem of_any (b : Nat) (hb : b < 2 ^ 64) (w : World) : Calls Try.prog 46 #[.float .f64 b] w (Tells w (ofS b)) := by
  have hn := isnan_order b hb
  rcases read_cases b hb with ⟨s, m, e, h, h1, h2, h3, h4, _⟩ | ⟨s, h, _⟩ | ⟨s, t, h, _⟩
  · have hn' : (double.order b b != some .eq) = false := by rw [hn, h]; rfl
    unfold ofS
    rw [h]
    by_cases hr : -70368744177664 ≤ fl s m (e + 16) ∧ fl s m (e + 16) < 70368744177664
    · obtain ⟨x, W, r, W1, g⟩ := goes h h1 h2 h4 hr.1 hr.2
      simp only [hr, and_self, if_true]
      exact of_goes b _ w fun w => scaled_down g w hn' hr.1 hr.2
    · simp only [hr, if_false]
      exact of_panic b 8 w fun w => scaled_over b 0 w hn' (goes_not h h2 hr)
  · have hn' : (double.order b b != some .eq) = false := by rw [hn, h]; rfl
    unfold ofS
    rw [h]
    obtain ⟨i1, i2⟩ := inf_order h
    refine of_panic b 8 w fun w => scaled_over b 0 w hn' ?_
    rw [i1, i2]
    cases s
    · exact .inr ⟨rfl, rfl⟩
    · exact .inl rfl
  · unfold ofS
    rw [h]
    exact of_panic b 14 w fun w => scaled_nan b 0 w (by rw [hn, h]; rfl)
theorem run_float_bits (b : Nat) (w : World) : (callFunc 38 #[.float .f64 b]).run Try.prog w = .ok (.value (.int .u64 b)) w :=
  run_callFunc_extern (e := Extern.MathFloatBits.float64bits) Try.func38 (by kernel_rfl) (by kernel_rfl) (by kernel_rfl) (by kernel_rfl) _ w
theorem floatOf (v : Int) : floatOfInt .f64 v = double.nearest (decide (v < 0)) v.natAbs 0 := rfl
theorem run_by_one (v : Int) (h : v.natAbs < 2 ^ 53) (w : World) : (binOp .quo 75 (.float .f64 (floatOfInt .f64 v)) (.float .f64 4679240012837945344)).run Try.prog w = .ok (.float .f64 (toS v)) w :=
  run_float_arith w .quo _ .f64 _ _ _ (by show double.div _ _ = _; rw [floatOf]; exact toS_some v h)
def TellsF (w : World) (b : Nat) (c : Int) (e : Ending) (w' : World) : Prop := e = .returned (.tuple #[.float .f64 b, .int .i64 c]) ∧ w = w'
theorem to_any (v : Int) (w : World) (h0 : -70368744177664 ≤ v) (h1 : v < 70368744177664) : Calls Try.prog 37 #[.int .i64 v] w (TellsF w (toS v) 0) := by
  have hq := run_by_one v (by omega)
  go_enter Try.func37, Try.ntmps37
  go_wp2
  go_ret2
  exact ⟨rfl, rfl⟩
theorem bits_any (n : Int) (h0 : 0 ≤ n) (h1 : n ≤ 18446744073709551615) (w : World) : Calls Try.prog 44 #[.int .u64 n] w (Tells w (ofS n.toNat)) := by
  have H := Lib.hid (fun w => of_any n.toNat (by omega) w)
  have hb := run_bits64 n
  obtain ⟨r, hr⟩ : ∃ r, ofS n.toNat = r := ⟨_, rfl⟩
  rw [hr] at H ⊢
  clear hr
  go_enter Try.func44, Try.ntmps44
  go_wp2_with (go_at_call 46; refine (H.out _).mono ?_; rintro e w' ⟨rfl, hbl⟩; have HB := Lib.hid hbl; clear hbl)
  go_ret2
  exact ⟨rfl, HB.out⟩
end Go.Proofs.Ytoihmanhldcjhaa
namespace Go.Proofs.Ytoihmanhldcjhaa.Id
open Go Go.RowKit Go.Proofs.Ytoihmanhldcjhaa.Rl
theorem bitsOf_c (b nx : Nat) : CallW Try.prog 38 [.float .f64 b] [] nx (Ret (.int .u64 b) [] nx) :=
  CallW_ext nx rfl rfl fun w => run_float_bits b w
theorem To_c (v : Int) (nx : Nat) (h0 : -70368744177664 ≤ v) (h1 : v < 70368744177664) : CallW Try.prog 37 [.int .i64 v] [] nx (Ret (.tuple #[.float .f64 (toS v), .int .i64 0]) [] nx) :=
  CallW_lift nx Try.func37 rfl (by decide) rfl rfl fun w => (to_any v w h0 h1).mono fun e w' ⟨a, b⟩ => ⟨a, b ▸ Below.refl _ _⟩
theorem Bits_c (n : Int) (nx : Nat) (h0 : 0 ≤ n) (h1 : n ≤ 18446744073709551615) : CallW Try.prog 44 [.int .u64 n] [] nx (Ret (.tuple #[.int .i64 (ofS n.toNat).1, .int .i64 (ofS n.toNat).2]) [] nx) :=
  CallW_lift nx Try.func44 rfl (by decide) rfl rfl fun w => (bits_any n h0 h1 w).mono fun e w' ⟨a, b⟩ => ⟨a, b⟩
end Go.Proofs.Ytoihmanhldcjhaa.Id
namespace Go.Proofs.Ytoihmanhldcjhaa.Id
open Go Go.Proofs.Ytoihmanhldcjhaa.Rl
set_option linter.unusedSimpArgs false
set_option linter.unusedVariables false
def okOr (e at_ : Int) (v : Value) : Out := if e = 0 then .ret v else .pan (.iface 60 (.agg #[.int .i64 e, .int .i64 at_]))
theorem le8 (l : List UInt8) (k : Nat) (hk : k ≤ 8) : le (l.take k) < 18446744073709551616 := by
  have h := le_lt (l.take k)
  have h2 : (l.take k).length ≤ 8 := by simp; omega
  have : (256 : Nat) ^ (l.take k).length ≤ 256 ^ 8 := Nat.pow_le_pow_right (by omega) h2
  have : (256 : Nat) ^ 8 = 18446744073709551616 := by decide
  omega
set_option maxRecDepth 100000 in
theorem speed_c (bs : List UInt8) (ln cp : Nat) (at_ : Nat) (r b : Nat) (nx : Nat) (ro loose : Bool) (ha : at_ + 8 ≤ ln) (hl : ln ≤ bs.length ∧ ln ≤ 1000000) (hrb : ¬ b = r) (x : Int × Int) (hx : ofS (le ((bs.drop at_).take 8)) = x) :
    CallW Try.prog 41 [.pointer (some ⟨r, 0, none⟩)] (rdH bs ln cp at_ r b ro loose) nx fun o F' nx' => o = okOr x.2 at_ (.int .i64 x.1) ∧ F' = rdH bs ln cp (at_ + 8) r b ro loose ∧ nx' = nx := by
  have hN := num_c bs ln cp at_ 8 r b nx ro loose (by omega) ha hl hrb
  have hB := Bits_c (le ((bs.drop at_).take 8)) nx (by omega) (by have := le8 (bs.drop at_) 8 (by omega); omega)
  rw [Int.toNat_natCast, hx] at hB
  unfold rdH at hN ⊢
  refine CallW_go (tbOk _) 23 [.tmp 2] Try.func41 rfl (by decide) rfl rfl (by simp) fun hlt => ?_
  simp only [params, Nat.zero_add, Nat.reduceAdd]
  refine JS_go (tbOk _) 99 fun x hx => ?_
  simp only [RN, ↓reduceIte, ↓get8, reduceCtorEq, Nat.reduceLT, Nat.reduceEqDiff, Nat.reduceAdd, Nat.reduceMul, Nat.reduceLeDiff, Nat.reduceSub, Int.reduceToNat, Int.reduceNeg, Nat.reduceBEq, TY] at hx
  subst hx
  refine ⟨_, _, rfl, by first | trivial | omega | (simp only [and_true, true_and]; omega), ?_⟩
  refine at_callK (hN) (by simp only [RN, ↓reduceIte, ↓get8, reduceCtorEq, Nat.reduceLT, Nat.reduceEqDiff, Nat.reduceAdd, Nat.reduceMul, Nat.reduceLeDiff, Nat.reduceSub, Int.reduceToNat, Int.reduceNeg, Nat.reduceBEq, hrb]; first | done | trivial) (by simp only [RN, ↓reduceIte, ↓get8, reduceCtorEq, Nat.reduceLT, Nat.reduceEqDiff, Nat.reduceAdd, Nat.reduceMul, Nat.reduceLeDiff, Nat.reduceSub, Int.reduceToNat, Int.reduceNeg, Nat.reduceBEq, hrb]; rfl) ?_
  refine JS_go (tbOk _) 99 fun x hx => ?_
  simp only [RN, ↓reduceIte, ↓get8, reduceCtorEq, Nat.reduceLT, Nat.reduceEqDiff, Nat.reduceAdd, Nat.reduceMul, Nat.reduceLeDiff, Nat.reduceSub, Int.reduceToNat, Int.reduceNeg, Nat.reduceBEq, TY] at hx
  subst hx
  refine ⟨_, _, rfl, by first | trivial | omega | (simp only [and_true, true_and]; omega), ?_⟩
  refine at_callK (hB) (by simp only [RN, ↓reduceIte, ↓get8, reduceCtorEq, Nat.reduceLT, Nat.reduceEqDiff, Nat.reduceAdd, Nat.reduceMul, Nat.reduceLeDiff, Nat.reduceSub, Int.reduceToNat, Int.reduceNeg, Nat.reduceBEq, hrb]; first | done | trivial) (by simp only [RN, ↓reduceIte, ↓get8, reduceCtorEq, Nat.reduceLT, Nat.reduceEqDiff, Nat.reduceAdd, Nat.reduceMul, Nat.reduceLeDiff, Nat.reduceSub, Int.reduceToNat, Int.reduceNeg, Nat.reduceBEq, hrb]; rfl) ?_
  refine JS_go (tbOk _) 99 fun x hx => ?_
  simp only [RN, ↓reduceIte, ↓get8, reduceCtorEq, Nat.reduceLT, Nat.reduceEqDiff, Nat.reduceAdd, Nat.reduceMul, Nat.reduceLeDiff, Nat.reduceSub, Int.reduceToNat, Int.reduceNeg, Nat.reduceBEq, TY] at hx
  subst hx
  refine ⟨_, _, rfl, by first | trivial | omega | (simp only [and_true, true_and]; omega), ?_⟩
  refine at_cond (fun h => ?_) (fun h => ?_)
  · skip
    have h2 : ¬ x.2 = 0 := by simpa using h
    unfold okOr
    rw [if_neg h2]
    refine JS_go (tbOk _) 99 fun x hx => ?_
    simp only [RN, ↓reduceIte, ↓get8, reduceCtorEq, Nat.reduceLT, Nat.reduceEqDiff, Nat.reduceAdd, Nat.reduceMul, Nat.reduceLeDiff, Nat.reduceSub, Int.reduceToNat, Int.reduceNeg, Nat.reduceBEq, TY] at hx
    subst hx
    refine ⟨_, _, rfl, by first | trivial | omega | (simp only [and_true, true_and]; omega), ?_⟩
    refine at_pan ?_
    repeat (first | refine in_pan ?_ | refine in_panI ?_)
    refine pan_endK rfl ⟨_, ?_, rfl, rfl, rfl⟩
    exact leL_look (by simp only [RN, ↓reduceIte, ↓get8, reduceCtorEq, Nat.reduceLT, Nat.reduceEqDiff, Nat.reduceAdd, Nat.reduceMul, Nat.reduceLeDiff, Nat.reduceSub, Int.reduceToNat, Int.reduceNeg, Nat.reduceBEq, hrb]; first | done | trivial)
  · skip
    have h2 : x.2 = 0 := by simpa using h
    unfold okOr
    rw [if_pos h2]
    refine JS_go (tbOk _) 99 fun x hx => ?_
    simp only [RN, ↓reduceIte, ↓get8, reduceCtorEq, Nat.reduceLT, Nat.reduceEqDiff, Nat.reduceAdd, Nat.reduceMul, Nat.reduceLeDiff, Nat.reduceSub, Int.reduceToNat, Int.reduceNeg, Nat.reduceBEq, TY] at hx
    subst hx
    refine ⟨_, _, rfl, by first | trivial | omega | (simp only [and_true, true_and]; omega), ?_⟩
    first | refine at_ret ?_ | refine at_done ?_
    repeat (first | refine in_ret ?_ | refine in_retI ?_)
    first | refine ret_endK (by simp only [RN, ↓reduceIte, ↓get8, reduceCtorEq, Nat.reduceLT, Nat.reduceEqDiff, Nat.reduceAdd, Nat.reduceMul, Nat.reduceLeDiff, Nat.reduceSub, Int.reduceToNat, Int.reduceNeg, Nat.reduceBEq]; rfl) rfl trivial ?_ | refine nrm_endK (by simp only [RN, ↓reduceIte, ↓get8, reduceCtorEq, Nat.reduceLT, Nat.reduceEqDiff, Nat.reduceAdd, Nat.reduceMul, Nat.reduceLeDiff, Nat.reduceSub, Int.reduceToNat, Int.reduceNeg, Nat.reduceBEq]; rfl) rfl trivial ?_ | refine ret_endK (by simp only [RN, ↓reduceIte, ↓get8, reduceCtorEq, Nat.reduceLT, Nat.reduceEqDiff, Nat.reduceAdd, Nat.reduceMul, Nat.reduceLeDiff, Nat.reduceSub, Int.reduceToNat, Int.reduceNeg, Nat.reduceBEq, TY, hrb]; rfl) rfl (by first | trivial | omega) ?_
    refine ⟨_, ?_, rfl, rfl, rfl⟩
    exact leL_look (by simp only [RN, ↓reduceIte, ↓get8, reduceCtorEq, Nat.reduceLT, Nat.reduceEqDiff, Nat.reduceAdd, Nat.reduceMul, Nat.reduceLeDiff, Nat.reduceSub, Int.reduceToNat, Int.reduceNeg, Nat.reduceBEq, hrb]; first | done | trivial)
end Go.Proofs.Ytoihmanhldcjhaa.Id
namespace Go.Proofs.Ytoihmanhldcjhaa.Id
open Go Go.Proofs.Ytoihmanhldcjhaa.Rl
set_option linter.unusedSimpArgs false
set_option linter.unusedVariables false
def resH (A B C : Nat) (x y e a : Value) : Hp := [(A, ⟨[x, y], 26, 2, false, false⟩), (B, ⟨[e], 28, 1, false, false⟩), (C, ⟨[a], 3, 1, false, false⟩)]
set_option maxRecDepth 100000 in
theorem catch_nil (A B C nx : Nat) (x y e a : Value) (h1 : ¬ B = A) (h2 : ¬ C = A) (h3 : ¬ C = B) :
    CallR Try.prog 29 [.pointer (some ⟨A, 0, none⟩), .pointer (some ⟨B, 0, none⟩), .pointer (some ⟨C, 0, none⟩)] (resH A B C x y e a) nx .nilIface fun F' nx' => F' = resH A B C x y e a ∧ nx' = nx := by
  unfold resH
  refine CallR_go (tbOk _) 15 Try.func29 rfl (by decide) rfl rfl (by simp) rfl rfl rfl rfl rfl rfl rfl (by omega) (by omega) fun hlt => ?_
  simp only [params, Nat.zero_add, Nat.reduceAdd]
  refine JS_go (tbOk _) 99 fun x hx => ?_
  simp only [RN, ↓reduceIte, ↓get8, reduceCtorEq, Nat.reduceLT, Nat.reduceEqDiff, Nat.reduceAdd, Nat.reduceMul, Nat.reduceLeDiff, Nat.reduceSub, Int.reduceToNat, Int.reduceNeg, Nat.reduceBEq, TY] at hx
  subst hx
  refine ⟨_, _, rfl, by first | trivial | omega | (simp only [and_true, true_and]; omega), ?_⟩
  refine at_cond (fun h => nomatch h) (fun _ => ?_)
  refine JS_go (tbOk _) 99 fun x hx => ?_
  simp only [RN, ↓reduceIte, ↓get8, reduceCtorEq, Nat.reduceLT, Nat.reduceEqDiff, Nat.reduceAdd, Nat.reduceMul, Nat.reduceLeDiff, Nat.reduceSub, Int.reduceToNat, Int.reduceNeg, Nat.reduceBEq, TY] at hx
  subst hx
  refine ⟨_, _, rfl, by first | trivial | omega | (simp only [and_true, true_and]; omega), ?_⟩
  refine at_done ?_
  refine endR rfl ⟨_, ?_, rfl, rfl⟩
  exact leL_look (by simp only [RN, ↓reduceIte, ↓get8, reduceCtorEq, Nat.reduceLT, Nat.reduceEqDiff, Nat.reduceAdd, Nat.reduceMul, Nat.reduceLeDiff, Nat.reduceSub, Int.reduceToNat, Int.reduceNeg, Nat.reduceBEq, h1, h2, h3]; first | done | trivial)
set_option maxRecDepth 100000 in
theorem catch_no (A B C nx : Nat) (x y e a : Value) (c n : Int) (h1 : ¬ B = A) (h2 : ¬ C = A) (h3 : ¬ C = B) :
    CallR Try.prog 29 [.pointer (some ⟨A, 0, none⟩), .pointer (some ⟨B, 0, none⟩), .pointer (some ⟨C, 0, none⟩)] (resH A B C x y e a) nx (.iface 60 (.agg #[.int .i64 c, .int .i64 n]))
      fun F' nx' => F' = resH A B C (.slice none 0 0) (.slice none 0 0) (.int .i64 c) (.int .i64 n) ∧ nx' = nx + 1 := by
  unfold resH
  refine CallR_go (tbOk _) 15 Try.func29 rfl (by decide) rfl rfl (by simp) rfl rfl rfl rfl rfl rfl rfl (by omega) (by omega) fun hlt => ?_
  simp only [params, Nat.zero_add, Nat.reduceAdd]
  refine JS_go (tbOk _) 99 fun x hx => ?_
  simp only [RN, ↓reduceIte, ↓get8, reduceCtorEq, Nat.reduceLT, Nat.reduceEqDiff, Nat.reduceAdd, Nat.reduceMul, Nat.reduceLeDiff, Nat.reduceSub, Int.reduceToNat, Int.reduceNeg, Nat.reduceBEq, TY] at hx
  subst hx
  refine ⟨_, _, rfl, by first | trivial | omega | (simp only [and_true, true_and]; omega), ?_⟩
  refine at_cond (fun _ => ?_) (fun h => nomatch h)
  refine JS_go (tbOk _) 99 fun x hx => ?_
  simp only [RN, ↓reduceIte, ↓get8, reduceCtorEq, Nat.reduceLT, Nat.reduceEqDiff, Nat.reduceAdd, Nat.reduceMul, Nat.reduceLeDiff, Nat.reduceSub, Int.reduceToNat, Int.reduceNeg, Nat.reduceBEq, TY] at hx
  subst hx
  refine ⟨_, _, rfl, by first | trivial | omega | (simp only [and_true, true_and]; omega), ?_⟩
  rw [CRJ]
  refine JS_draw (tbOk _) { wr := [(10, 0), (11, 1), (12, 2), (13, 3), (14, 4)], anc := [[], [], [1], [], [3], [0], [0, 1, 2, 5], [0, 1, 2, 3, 4, 5, 6]], ch := [(5, []), (6, []), (7, [])], ac := [[0, 1, 2, 3, 4], [1, 2, 3, 4], [3, 4], []], nw := [[0, 1, 2, 3, 4], [], [], []], fl := [[], [1, 2, 3, 4], [3, 4], []] } (by kernel_rfl) (by kernel_rfl) (by kernel_rfl) (by kernel_rfl) ?_
  have g1 : A < nx := hlt A _ (by rw [look_cons, if_pos rfl])
  have g2 : B < nx := hlt B _ (by rw [look_cons, if_neg h1, look_cons, if_pos rfl])
  have g3 : C < nx := hlt C _ (by rw [look_cons, if_neg h2, look_cons, if_neg h3, look_cons, if_pos rfl])
  have n1 : ¬ A = nx := by omega
  have n2 : ¬ B = nx := by omega
  have n3 : ¬ C = nx := by omega
  have m1 : ¬ nx = A := by omega
  have m2 : ¬ nx = B := by omega
  have m3 : ¬ nx = C := by omega
  have h4 : ¬ A = B := fun e => h1 e.symm
  have h5 : ¬ A = C := fun e => h2 e.symm
  have h6 : ¬ B = C := fun e => h3 e.symm
  refine JS_go (tbOk _) 99 fun x hx => ?_
  simp only [RN, ↓reduceIte, ↓get8, reduceCtorEq, Nat.reduceLT, Nat.reduceEqDiff, Nat.reduceAdd, Nat.reduceMul, Nat.reduceLeDiff, Nat.reduceSub, Int.reduceToNat, Int.reduceNeg, Nat.reduceBEq, TY, h1, h2, h3, h4, h5, h6, n1, n2, n3, m1, m2, m3] at hx
  subst hx
  refine ⟨_, _, rfl, by first | trivial | omega | (simp only [and_true, true_and]; omega), ?_⟩
  refine at_done ?_
  refine endR rfl ⟨_, ?_, rfl, rfl⟩
  exact leL_look (by simp only [RN, ↓reduceIte, ↓get8, reduceCtorEq, Nat.reduceLT, Nat.reduceEqDiff, Nat.reduceAdd, Nat.reduceMul, Nat.reduceLeDiff, Nat.reduceSub, Int.reduceToNat, Int.reduceNeg, Nat.reduceBEq, h1, h2, h3, h4, h5, h6, n1, n2, n3, m1, m2, m3]; first | done | trivial)
end Go.Proofs.Ytoihmanhldcjhaa.Id
namespace Go.Proofs.Ytoihmanhldcjhaa.Id
open Go Go.Proofs.Ytoihmanhldcjhaa.Rl
set_option linter.unusedSimpArgs false
set_option linter.unusedVariables false
structure Kd where
  (c0 c1 c2 c3 c4 c5 c6 c7 c8 c9 c10 c11 c12 c13 c14 c15 c16 c17 c18 c19 : Int)
def Kd.cells (k : Kd) : List Value := [.int .i64 k.c0, .int .i64 k.c1, .int .i64 k.c2, .int .i64 k.c3, .int .i64 k.c4, .int .i64 k.c5, .int .i64 k.c6, .int .i64 k.c7, .int .i64 k.c8, .int .i64 k.c9, .int .i64 k.c10, .int .i64 k.c11, .int .i64 k.c12, .int .i64 k.c13, .int .i64 k.c14, .int .i64 k.c15, .int .i64 k.c16, .int .i64 k.c17, .int .i64 k.c18, .int .i64 k.c19]
def kindB (k : Kd) (n : Int) : Bool := btw 0 5 [k.c0] && btw 1 9999 [k.c1] && decide (k.c2 ≥ 0) && decide (k.c2 ≤ 65536) && btw 0 32768 [k.c3] && btw 0 32 [k.c4, k.c5, k.c6, k.c7] && btw 0 65535 [k.c8, k.c9, k.c14, k.c15, k.c19] && btw 1 65535 [k.c10] && btw 0 255 [k.c11, k.c12, k.c13, k.c16] && btw 0 4 [k.c17] && ((k.c18 == 255) || btw 0 (n - 1) [k.c18])
set_option maxRecDepth 100000 in
set_option maxHeartbeats 4000000 in
theorem kind_c (k : Kd) (n : Int) (nx : Nat) (hn : 0 ≤ n) (hn2 : n ≤ 1000) : CallW Try.prog 20 [.agg k.cells.toArray, .int .i64 n] [] nx fun o F' nx' => o = .ret (.bool (kindB k n)) ∧ F' = [] ∧ nx ≤ nx' := by
  have hw : IntKind.i64.wrap (n - 1) = n - 1 := by simp [IntKind.wrap, IntKind.bits, IntKind.signed]; omega
  unfold Kd.cells
  refine CallW_go (tbOk _) 94 [.tmp 4] Try.func20 rfl (by decide) rfl rfl (by simp) fun hlt => ?_
  simp only [params, Nat.zero_add, Nat.reduceAdd]
  refine JS_go (tbOk _) 99 fun x hx => ?_
  simp only [RN, ↓reduceIte, ↓get8, reduceCtorEq, Nat.reduceLT, Nat.reduceEqDiff, Nat.reduceAdd, Nat.reduceMul, Nat.reduceLeDiff, Nat.reduceSub, Int.reduceToNat, Int.reduceNeg, Nat.reduceBEq, TY, hw, Nat.add_assoc, Nat.left_eq_add, Nat.add_eq_left, Nat.add_left_cancel_iff] at hx
  subst hx
  refine ⟨_, _, rfl, by first | trivial | omega | (simp only [and_true, true_and]; omega), ?_⟩
  refine at_callK (between_c 0 5 [k.c0] (nx + 1) (nx + 2) false false 3 (by simp)) (by simp only [RN, ↓reduceIte, ↓get8, reduceCtorEq, Nat.reduceLT, Nat.reduceEqDiff, Nat.reduceAdd, Nat.reduceMul, Nat.reduceLeDiff, Nat.reduceSub, Int.reduceToNat, Int.reduceNeg, Nat.reduceBEq, Nat.add_assoc, Nat.left_eq_add, Nat.add_eq_left, Nat.add_left_cancel_iff]; first | done | trivial) (by simp only [RN, ↓reduceIte, ↓get8, reduceCtorEq, Nat.reduceLT, Nat.reduceEqDiff, Nat.reduceAdd, Nat.reduceMul, Nat.reduceLeDiff, Nat.reduceSub, Int.reduceToNat, Int.reduceNeg, Nat.reduceBEq, Nat.add_assoc, Nat.left_eq_add, Nat.add_eq_left, Nat.add_left_cancel_iff]; rfl) ?_
  cases h0 : btw 0 5 [k.c0]
  case false =>
    skip
    refine JS_go (tbOk _) 99 fun x hx => ?_
    simp only [RN, ↓reduceIte, ↓get8, reduceCtorEq, Nat.reduceLT, Nat.reduceEqDiff, Nat.reduceAdd, Nat.reduceMul, Nat.reduceLeDiff, Nat.reduceSub, Int.reduceToNat, Int.reduceNeg, Nat.reduceBEq, h0, TY, hw, Nat.add_assoc, Nat.left_eq_add, Nat.add_eq_left, Nat.add_left_cancel_iff] at hx
    subst hx
    refine ⟨_, _, rfl, by first | trivial | omega | (simp only [and_true, true_and]; omega), ?_⟩
    refine at_ret ?_
    refine ret_endK (by simp only [RN, ↓reduceIte, ↓get8, reduceCtorEq, Nat.reduceLT, Nat.reduceEqDiff, Nat.reduceAdd, Nat.reduceMul, Nat.reduceLeDiff, Nat.reduceSub, Int.reduceToNat, Int.reduceNeg, Nat.reduceBEq]; rfl) rfl trivial ?_
    refine ⟨[], fun _ _ h => (by cases h), ?_, rfl, Nat.le_add_right _ _⟩
    simp [kindB, h0]
  refine JS_go (tbOk _) 99 fun x hx => ?_
  simp only [RN, ↓reduceIte, ↓get8, reduceCtorEq, Nat.reduceLT, Nat.reduceEqDiff, Nat.reduceAdd, Nat.reduceMul, Nat.reduceLeDiff, Nat.reduceSub, Int.reduceToNat, Int.reduceNeg, Nat.reduceBEq, h0, TY, hw, Nat.add_assoc, Nat.left_eq_add, Nat.add_eq_left, Nat.add_left_cancel_iff] at hx
  subst hx
  refine ⟨_, _, rfl, by first | trivial | omega | (simp only [and_true, true_and]; omega), ?_⟩
  refine at_callK (between_c 1 9999 [k.c1] (nx + 2) (nx + 3) false false 3 (by simp)) (by simp only [RN, ↓reduceIte, ↓get8, reduceCtorEq, Nat.reduceLT, Nat.reduceEqDiff, Nat.reduceAdd, Nat.reduceMul, Nat.reduceLeDiff, Nat.reduceSub, Int.reduceToNat, Int.reduceNeg, Nat.reduceBEq, Nat.add_assoc, Nat.left_eq_add, Nat.add_eq_left, Nat.add_left_cancel_iff]; first | done | trivial) (by simp only [RN, ↓reduceIte, ↓get8, reduceCtorEq, Nat.reduceLT, Nat.reduceEqDiff, Nat.reduceAdd, Nat.reduceMul, Nat.reduceLeDiff, Nat.reduceSub, Int.reduceToNat, Int.reduceNeg, Nat.reduceBEq, Nat.add_assoc, Nat.left_eq_add, Nat.add_eq_left, Nat.add_left_cancel_iff]; rfl) ?_
  cases h1 : btw 1 9999 [k.c1]
  case false =>
    skip
    refine JS_go (tbOk _) 99 fun x hx => ?_
    simp only [RN, ↓reduceIte, ↓get8, reduceCtorEq, Nat.reduceLT, Nat.reduceEqDiff, Nat.reduceAdd, Nat.reduceMul, Nat.reduceLeDiff, Nat.reduceSub, Int.reduceToNat, Int.reduceNeg, Nat.reduceBEq, h0, h1, TY, hw, Nat.add_assoc, Nat.left_eq_add, Nat.add_eq_left, Nat.add_left_cancel_iff] at hx
    subst hx
    refine ⟨_, _, rfl, by first | trivial | omega | (simp only [and_true, true_and]; omega), ?_⟩
    refine at_ret ?_
    refine ret_endK (by simp only [RN, ↓reduceIte, ↓get8, reduceCtorEq, Nat.reduceLT, Nat.reduceEqDiff, Nat.reduceAdd, Nat.reduceMul, Nat.reduceLeDiff, Nat.reduceSub, Int.reduceToNat, Int.reduceNeg, Nat.reduceBEq]; rfl) rfl trivial ?_
    refine ⟨[], fun _ _ h => (by cases h), ?_, rfl, Nat.le_add_right _ _⟩
    simp [kindB, h0, h1]
  cases h2 : decide (k.c2 ≥ 0)
  case false =>
    skip
    refine JS_go (tbOk _) 99 fun x hx => ?_
    simp only [RN, ↓reduceIte, ↓get8, reduceCtorEq, Nat.reduceLT, Nat.reduceEqDiff, Nat.reduceAdd, Nat.reduceMul, Nat.reduceLeDiff, Nat.reduceSub, Int.reduceToNat, Int.reduceNeg, Nat.reduceBEq, h0, h1, h2, TY, hw, Nat.add_assoc, Nat.left_eq_add, Nat.add_eq_left, Nat.add_left_cancel_iff] at hx
    subst hx
    refine ⟨_, _, rfl, by first | trivial | omega | (simp only [and_true, true_and]; omega), ?_⟩
    refine at_ret ?_
    refine ret_endK (by simp only [RN, ↓reduceIte, ↓get8, reduceCtorEq, Nat.reduceLT, Nat.reduceEqDiff, Nat.reduceAdd, Nat.reduceMul, Nat.reduceLeDiff, Nat.reduceSub, Int.reduceToNat, Int.reduceNeg, Nat.reduceBEq]; rfl) rfl trivial ?_
    refine ⟨[], fun _ _ h => (by cases h), ?_, rfl, Nat.le_add_right _ _⟩
    simp [kindB, h0, h1, h2]
  cases h3 : decide (k.c2 ≤ 65536)
  case false =>
    skip
    refine JS_go (tbOk _) 99 fun x hx => ?_
    simp only [RN, ↓reduceIte, ↓get8, reduceCtorEq, Nat.reduceLT, Nat.reduceEqDiff, Nat.reduceAdd, Nat.reduceMul, Nat.reduceLeDiff, Nat.reduceSub, Int.reduceToNat, Int.reduceNeg, Nat.reduceBEq, h0, h1, h2, h3, TY, hw, Nat.add_assoc, Nat.left_eq_add, Nat.add_eq_left, Nat.add_left_cancel_iff] at hx
    subst hx
    refine ⟨_, _, rfl, by first | trivial | omega | (simp only [and_true, true_and]; omega), ?_⟩
    refine at_ret ?_
    refine ret_endK (by simp only [RN, ↓reduceIte, ↓get8, reduceCtorEq, Nat.reduceLT, Nat.reduceEqDiff, Nat.reduceAdd, Nat.reduceMul, Nat.reduceLeDiff, Nat.reduceSub, Int.reduceToNat, Int.reduceNeg, Nat.reduceBEq]; rfl) rfl trivial ?_
    refine ⟨[], fun _ _ h => (by cases h), ?_, rfl, Nat.le_add_right _ _⟩
    simp [kindB, h0, h1, h2, h3]
  refine JS_go (tbOk _) 99 fun x hx => ?_
  simp only [RN, ↓reduceIte, ↓get8, reduceCtorEq, Nat.reduceLT, Nat.reduceEqDiff, Nat.reduceAdd, Nat.reduceMul, Nat.reduceLeDiff, Nat.reduceSub, Int.reduceToNat, Int.reduceNeg, Nat.reduceBEq, h0, h1, h2, h3, TY, hw, Nat.add_assoc, Nat.left_eq_add, Nat.add_eq_left, Nat.add_left_cancel_iff] at hx
  subst hx
  refine ⟨_, _, rfl, by first | trivial | omega | (simp only [and_true, true_and]; omega), ?_⟩
  refine at_callK (between_c 0 32768 [k.c3] (nx + 3) (nx + 4) false false 3 (by simp)) (by simp only [RN, ↓reduceIte, ↓get8, reduceCtorEq, Nat.reduceLT, Nat.reduceEqDiff, Nat.reduceAdd, Nat.reduceMul, Nat.reduceLeDiff, Nat.reduceSub, Int.reduceToNat, Int.reduceNeg, Nat.reduceBEq, Nat.add_assoc, Nat.left_eq_add, Nat.add_eq_left, Nat.add_left_cancel_iff]; first | done | trivial) (by simp only [RN, ↓reduceIte, ↓get8, reduceCtorEq, Nat.reduceLT, Nat.reduceEqDiff, Nat.reduceAdd, Nat.reduceMul, Nat.reduceLeDiff, Nat.reduceSub, Int.reduceToNat, Int.reduceNeg, Nat.reduceBEq, Nat.add_assoc, Nat.left_eq_add, Nat.add_eq_left, Nat.add_left_cancel_iff]; rfl) ?_
  cases h4 : btw 0 32768 [k.c3]
  case false =>
    skip
    refine JS_go (tbOk _) 99 fun x hx => ?_
    simp only [RN, ↓reduceIte, ↓get8, reduceCtorEq, Nat.reduceLT, Nat.reduceEqDiff, Nat.reduceAdd, Nat.reduceMul, Nat.reduceLeDiff, Nat.reduceSub, Int.reduceToNat, Int.reduceNeg, Nat.reduceBEq, h0, h1, h2, h3, h4, TY, hw, Nat.add_assoc, Nat.left_eq_add, Nat.add_eq_left, Nat.add_left_cancel_iff] at hx
    subst hx
    refine ⟨_, _, rfl, by first | trivial | omega | (simp only [and_true, true_and]; omega), ?_⟩
    refine at_ret ?_
    refine ret_endK (by simp only [RN, ↓reduceIte, ↓get8, reduceCtorEq, Nat.reduceLT, Nat.reduceEqDiff, Nat.reduceAdd, Nat.reduceMul, Nat.reduceLeDiff, Nat.reduceSub, Int.reduceToNat, Int.reduceNeg, Nat.reduceBEq]; rfl) rfl trivial ?_
    refine ⟨[], fun _ _ h => (by cases h), ?_, rfl, Nat.le_add_right _ _⟩
    simp [kindB, h0, h1, h2, h3, h4]
  refine JS_go (tbOk _) 99 fun x hx => ?_
  simp only [RN, ↓reduceIte, ↓get8, reduceCtorEq, Nat.reduceLT, Nat.reduceEqDiff, Nat.reduceAdd, Nat.reduceMul, Nat.reduceLeDiff, Nat.reduceSub, Int.reduceToNat, Int.reduceNeg, Nat.reduceBEq, h0, h1, h2, h3, h4, TY, hw, Nat.add_assoc, Nat.left_eq_add, Nat.add_eq_left, Nat.add_left_cancel_iff] at hx
  subst hx
  refine ⟨_, _, rfl, by first | trivial | omega | (simp only [and_true, true_and]; omega), ?_⟩
  refine at_callK (between_c 0 32 [k.c4, k.c5, k.c6, k.c7] (nx + 4) (nx + 5) false false 3 (by simp)) (by simp only [RN, ↓reduceIte, ↓get8, reduceCtorEq, Nat.reduceLT, Nat.reduceEqDiff, Nat.reduceAdd, Nat.reduceMul, Nat.reduceLeDiff, Nat.reduceSub, Int.reduceToNat, Int.reduceNeg, Nat.reduceBEq, Nat.add_assoc, Nat.left_eq_add, Nat.add_eq_left, Nat.add_left_cancel_iff]; first | done | trivial) (by simp only [RN, ↓reduceIte, ↓get8, reduceCtorEq, Nat.reduceLT, Nat.reduceEqDiff, Nat.reduceAdd, Nat.reduceMul, Nat.reduceLeDiff, Nat.reduceSub, Int.reduceToNat, Int.reduceNeg, Nat.reduceBEq, Nat.add_assoc, Nat.left_eq_add, Nat.add_eq_left, Nat.add_left_cancel_iff]; rfl) ?_
  cases h5 : btw 0 32 [k.c4, k.c5, k.c6, k.c7]
  case false =>
    skip
    refine JS_go (tbOk _) 99 fun x hx => ?_
    simp only [RN, ↓reduceIte, ↓get8, reduceCtorEq, Nat.reduceLT, Nat.reduceEqDiff, Nat.reduceAdd, Nat.reduceMul, Nat.reduceLeDiff, Nat.reduceSub, Int.reduceToNat, Int.reduceNeg, Nat.reduceBEq, h0, h1, h2, h3, h4, h5, TY, hw, Nat.add_assoc, Nat.left_eq_add, Nat.add_eq_left, Nat.add_left_cancel_iff] at hx
    subst hx
    refine ⟨_, _, rfl, by first | trivial | omega | (simp only [and_true, true_and]; omega), ?_⟩
    refine at_ret ?_
    refine ret_endK (by simp only [RN, ↓reduceIte, ↓get8, reduceCtorEq, Nat.reduceLT, Nat.reduceEqDiff, Nat.reduceAdd, Nat.reduceMul, Nat.reduceLeDiff, Nat.reduceSub, Int.reduceToNat, Int.reduceNeg, Nat.reduceBEq]; rfl) rfl trivial ?_
    refine ⟨[], fun _ _ h => (by cases h), ?_, rfl, Nat.le_add_right _ _⟩
    simp [kindB, h0, h1, h2, h3, h4, h5]
  refine JS_go (tbOk _) 99 fun x hx => ?_
  simp only [RN, ↓reduceIte, ↓get8, reduceCtorEq, Nat.reduceLT, Nat.reduceEqDiff, Nat.reduceAdd, Nat.reduceMul, Nat.reduceLeDiff, Nat.reduceSub, Int.reduceToNat, Int.reduceNeg, Nat.reduceBEq, h0, h1, h2, h3, h4, h5, TY, hw, Nat.add_assoc, Nat.left_eq_add, Nat.add_eq_left, Nat.add_left_cancel_iff] at hx
  subst hx
  refine ⟨_, _, rfl, by first | trivial | omega | (simp only [and_true, true_and]; omega), ?_⟩
  refine at_callK (between_c 0 65535 [k.c8, k.c9, k.c14, k.c15, k.c19] (nx + 5) (nx + 6) false false 3 (by simp)) (by simp only [RN, ↓reduceIte, ↓get8, reduceCtorEq, Nat.reduceLT, Nat.reduceEqDiff, Nat.reduceAdd, Nat.reduceMul, Nat.reduceLeDiff, Nat.reduceSub, Int.reduceToNat, Int.reduceNeg, Nat.reduceBEq, Nat.add_assoc, Nat.left_eq_add, Nat.add_eq_left, Nat.add_left_cancel_iff]; first | done | trivial) (by simp only [RN, ↓reduceIte, ↓get8, reduceCtorEq, Nat.reduceLT, Nat.reduceEqDiff, Nat.reduceAdd, Nat.reduceMul, Nat.reduceLeDiff, Nat.reduceSub, Int.reduceToNat, Int.reduceNeg, Nat.reduceBEq, Nat.add_assoc, Nat.left_eq_add, Nat.add_eq_left, Nat.add_left_cancel_iff]; rfl) ?_
  cases h6 : btw 0 65535 [k.c8, k.c9, k.c14, k.c15, k.c19]
  case false =>
    skip
    refine JS_go (tbOk _) 99 fun x hx => ?_
    simp only [RN, ↓reduceIte, ↓get8, reduceCtorEq, Nat.reduceLT, Nat.reduceEqDiff, Nat.reduceAdd, Nat.reduceMul, Nat.reduceLeDiff, Nat.reduceSub, Int.reduceToNat, Int.reduceNeg, Nat.reduceBEq, h0, h1, h2, h3, h4, h5, h6, TY, hw, Nat.add_assoc, Nat.left_eq_add, Nat.add_eq_left, Nat.add_left_cancel_iff] at hx
    subst hx
    refine ⟨_, _, rfl, by first | trivial | omega | (simp only [and_true, true_and]; omega), ?_⟩
    refine at_ret ?_
    refine ret_endK (by simp only [RN, ↓reduceIte, ↓get8, reduceCtorEq, Nat.reduceLT, Nat.reduceEqDiff, Nat.reduceAdd, Nat.reduceMul, Nat.reduceLeDiff, Nat.reduceSub, Int.reduceToNat, Int.reduceNeg, Nat.reduceBEq]; rfl) rfl trivial ?_
    refine ⟨[], fun _ _ h => (by cases h), ?_, rfl, Nat.le_add_right _ _⟩
    simp [kindB, h0, h1, h2, h3, h4, h5, h6]
  refine JS_go (tbOk _) 99 fun x hx => ?_
  simp only [RN, ↓reduceIte, ↓get8, reduceCtorEq, Nat.reduceLT, Nat.reduceEqDiff, Nat.reduceAdd, Nat.reduceMul, Nat.reduceLeDiff, Nat.reduceSub, Int.reduceToNat, Int.reduceNeg, Nat.reduceBEq, h0, h1, h2, h3, h4, h5, h6, TY, hw, Nat.add_assoc, Nat.left_eq_add, Nat.add_eq_left, Nat.add_left_cancel_iff] at hx
  subst hx
  refine ⟨_, _, rfl, by first | trivial | omega | (simp only [and_true, true_and]; omega), ?_⟩
  refine at_callK (between_c 1 65535 [k.c10] (nx + 6) (nx + 7) false false 3 (by simp)) (by simp only [RN, ↓reduceIte, ↓get8, reduceCtorEq, Nat.reduceLT, Nat.reduceEqDiff, Nat.reduceAdd, Nat.reduceMul, Nat.reduceLeDiff, Nat.reduceSub, Int.reduceToNat, Int.reduceNeg, Nat.reduceBEq, Nat.add_assoc, Nat.left_eq_add, Nat.add_eq_left, Nat.add_left_cancel_iff]; first | done | trivial) (by simp only [RN, ↓reduceIte, ↓get8, reduceCtorEq, Nat.reduceLT, Nat.reduceEqDiff, Nat.reduceAdd, Nat.reduceMul, Nat.reduceLeDiff, Nat.reduceSub, Int.reduceToNat, Int.reduceNeg, Nat.reduceBEq, Nat.add_assoc, Nat.left_eq_add, Nat.add_eq_left, Nat.add_left_cancel_iff]; rfl) ?_
  cases h7 : btw 1 65535 [k.c10]
  case false =>
    skip
    refine JS_go (tbOk _) 99 fun x hx => ?_
    simp only [RN, ↓reduceIte, ↓get8, reduceCtorEq, Nat.reduceLT, Nat.reduceEqDiff, Nat.reduceAdd, Nat.reduceMul, Nat.reduceLeDiff, Nat.reduceSub, Int.reduceToNat, Int.reduceNeg, Nat.reduceBEq, h0, h1, h2, h3, h4, h5, h6, h7, TY, hw, Nat.add_assoc, Nat.left_eq_add, Nat.add_eq_left, Nat.add_left_cancel_iff] at hx
    subst hx
    refine ⟨_, _, rfl, by first | trivial | omega | (simp only [and_true, true_and]; omega), ?_⟩
    refine at_ret ?_
    refine ret_endK (by simp only [RN, ↓reduceIte, ↓get8, reduceCtorEq, Nat.reduceLT, Nat.reduceEqDiff, Nat.reduceAdd, Nat.reduceMul, Nat.reduceLeDiff, Nat.reduceSub, Int.reduceToNat, Int.reduceNeg, Nat.reduceBEq]; rfl) rfl trivial ?_
    refine ⟨[], fun _ _ h => (by cases h), ?_, rfl, Nat.le_add_right _ _⟩
    simp [kindB, h0, h1, h2, h3, h4, h5, h6, h7]
  refine JS_go (tbOk _) 99 fun x hx => ?_
  simp only [RN, ↓reduceIte, ↓get8, reduceCtorEq, Nat.reduceLT, Nat.reduceEqDiff, Nat.reduceAdd, Nat.reduceMul, Nat.reduceLeDiff, Nat.reduceSub, Int.reduceToNat, Int.reduceNeg, Nat.reduceBEq, h0, h1, h2, h3, h4, h5, h6, h7, TY, hw, Nat.add_assoc, Nat.left_eq_add, Nat.add_eq_left, Nat.add_left_cancel_iff] at hx
  subst hx
  refine ⟨_, _, rfl, by first | trivial | omega | (simp only [and_true, true_and]; omega), ?_⟩
  refine at_callK (between_c 0 255 [k.c11, k.c12, k.c13, k.c16] (nx + 7) (nx + 8) false false 3 (by simp)) (by simp only [RN, ↓reduceIte, ↓get8, reduceCtorEq, Nat.reduceLT, Nat.reduceEqDiff, Nat.reduceAdd, Nat.reduceMul, Nat.reduceLeDiff, Nat.reduceSub, Int.reduceToNat, Int.reduceNeg, Nat.reduceBEq, Nat.add_assoc, Nat.left_eq_add, Nat.add_eq_left, Nat.add_left_cancel_iff]; first | done | trivial) (by simp only [RN, ↓reduceIte, ↓get8, reduceCtorEq, Nat.reduceLT, Nat.reduceEqDiff, Nat.reduceAdd, Nat.reduceMul, Nat.reduceLeDiff, Nat.reduceSub, Int.reduceToNat, Int.reduceNeg, Nat.reduceBEq, Nat.add_assoc, Nat.left_eq_add, Nat.add_eq_left, Nat.add_left_cancel_iff]; rfl) ?_
  cases h8 : btw 0 255 [k.c11, k.c12, k.c13, k.c16]
  case false =>
    skip
    refine JS_go (tbOk _) 99 fun x hx => ?_
    simp only [RN, ↓reduceIte, ↓get8, reduceCtorEq, Nat.reduceLT, Nat.reduceEqDiff, Nat.reduceAdd, Nat.reduceMul, Nat.reduceLeDiff, Nat.reduceSub, Int.reduceToNat, Int.reduceNeg, Nat.reduceBEq, h0, h1, h2, h3, h4, h5, h6, h7, h8, TY, hw, Nat.add_assoc, Nat.left_eq_add, Nat.add_eq_left, Nat.add_left_cancel_iff] at hx
    subst hx
    refine ⟨_, _, rfl, by first | trivial | omega | (simp only [and_true, true_and]; omega), ?_⟩
    refine at_ret ?_
    refine ret_endK (by simp only [RN, ↓reduceIte, ↓get8, reduceCtorEq, Nat.reduceLT, Nat.reduceEqDiff, Nat.reduceAdd, Nat.reduceMul, Nat.reduceLeDiff, Nat.reduceSub, Int.reduceToNat, Int.reduceNeg, Nat.reduceBEq]; rfl) rfl trivial ?_
    refine ⟨[], fun _ _ h => (by cases h), ?_, rfl, Nat.le_add_right _ _⟩
    simp [kindB, h0, h1, h2, h3, h4, h5, h6, h7, h8]
  refine JS_go (tbOk _) 99 fun x hx => ?_
  simp only [RN, ↓reduceIte, ↓get8, reduceCtorEq, Nat.reduceLT, Nat.reduceEqDiff, Nat.reduceAdd, Nat.reduceMul, Nat.reduceLeDiff, Nat.reduceSub, Int.reduceToNat, Int.reduceNeg, Nat.reduceBEq, h0, h1, h2, h3, h4, h5, h6, h7, h8, TY, hw, Nat.add_assoc, Nat.left_eq_add, Nat.add_eq_left, Nat.add_left_cancel_iff] at hx
  subst hx
  refine ⟨_, _, rfl, by first | trivial | omega | (simp only [and_true, true_and]; omega), ?_⟩
  refine at_callK (between_c 0 4 [k.c17] (nx + 8) (nx + 9) false false 3 (by simp)) (by simp only [RN, ↓reduceIte, ↓get8, reduceCtorEq, Nat.reduceLT, Nat.reduceEqDiff, Nat.reduceAdd, Nat.reduceMul, Nat.reduceLeDiff, Nat.reduceSub, Int.reduceToNat, Int.reduceNeg, Nat.reduceBEq, Nat.add_assoc, Nat.left_eq_add, Nat.add_eq_left, Nat.add_left_cancel_iff]; first | done | trivial) (by simp only [RN, ↓reduceIte, ↓get8, reduceCtorEq, Nat.reduceLT, Nat.reduceEqDiff, Nat.reduceAdd, Nat.reduceMul, Nat.reduceLeDiff, Nat.reduceSub, Int.reduceToNat, Int.reduceNeg, Nat.reduceBEq, Nat.add_assoc, Nat.left_eq_add, Nat.add_eq_left, Nat.add_left_cancel_iff]; rfl) ?_
  cases h9 : btw 0 4 [k.c17]
  case false =>
    skip
    refine JS_go (tbOk _) 99 fun x hx => ?_
    simp only [RN, ↓reduceIte, ↓get8, reduceCtorEq, Nat.reduceLT, Nat.reduceEqDiff, Nat.reduceAdd, Nat.reduceMul, Nat.reduceLeDiff, Nat.reduceSub, Int.reduceToNat, Int.reduceNeg, Nat.reduceBEq, h0, h1, h2, h3, h4, h5, h6, h7, h8, h9, TY, hw, Nat.add_assoc, Nat.left_eq_add, Nat.add_eq_left, Nat.add_left_cancel_iff] at hx
    subst hx
    refine ⟨_, _, rfl, by first | trivial | omega | (simp only [and_true, true_and]; omega), ?_⟩
    refine at_ret ?_
    refine ret_endK (by simp only [RN, ↓reduceIte, ↓get8, reduceCtorEq, Nat.reduceLT, Nat.reduceEqDiff, Nat.reduceAdd, Nat.reduceMul, Nat.reduceLeDiff, Nat.reduceSub, Int.reduceToNat, Int.reduceNeg, Nat.reduceBEq]; rfl) rfl trivial ?_
    refine ⟨[], fun _ _ h => (by cases h), ?_, rfl, Nat.le_add_right _ _⟩
    simp [kindB, h0, h1, h2, h3, h4, h5, h6, h7, h8, h9]
  cases h10 : (k.c18 == 255)
  case true =>
    skip
    refine JS_go (tbOk _) 99 fun x hx => ?_
    simp only [RN, ↓reduceIte, ↓get8, reduceCtorEq, Nat.reduceLT, Nat.reduceEqDiff, Nat.reduceAdd, Nat.reduceMul, Nat.reduceLeDiff, Nat.reduceSub, Int.reduceToNat, Int.reduceNeg, Nat.reduceBEq, h0, h1, h2, h3, h4, h5, h6, h7, h8, h9, h10, TY, hw, Nat.add_assoc, Nat.left_eq_add, Nat.add_eq_left, Nat.add_left_cancel_iff] at hx
    subst hx
    refine ⟨_, _, rfl, by first | trivial | omega | (simp only [and_true, true_and]; omega), ?_⟩
    refine at_ret ?_
    refine ret_endK (by simp only [RN, ↓reduceIte, ↓get8, reduceCtorEq, Nat.reduceLT, Nat.reduceEqDiff, Nat.reduceAdd, Nat.reduceMul, Nat.reduceLeDiff, Nat.reduceSub, Int.reduceToNat, Int.reduceNeg, Nat.reduceBEq]; rfl) rfl trivial ?_
    refine ⟨[], fun _ _ h => (by cases h), ?_, rfl, Nat.le_add_right _ _⟩
    simp [kindB, h0, h1, h2, h3, h4, h5, h6, h7, h8, h9, h10]
  refine JS_go (tbOk _) 99 fun x hx => ?_
  simp only [RN, ↓reduceIte, ↓get8, reduceCtorEq, Nat.reduceLT, Nat.reduceEqDiff, Nat.reduceAdd, Nat.reduceMul, Nat.reduceLeDiff, Nat.reduceSub, Int.reduceToNat, Int.reduceNeg, Nat.reduceBEq, h0, h1, h2, h3, h4, h5, h6, h7, h8, h9, h10, TY, hw, Nat.add_assoc, Nat.left_eq_add, Nat.add_eq_left, Nat.add_left_cancel_iff] at hx
  subst hx
  refine ⟨_, _, rfl, by first | trivial | omega | (simp only [and_true, true_and]; omega), ?_⟩
  refine at_callK (between_c 0 (n - 1) [k.c18] (nx + 9) (nx + 10) false false 3 (by simp)) (by simp only [RN, ↓reduceIte, ↓get8, reduceCtorEq, Nat.reduceLT, Nat.reduceEqDiff, Nat.reduceAdd, Nat.reduceMul, Nat.reduceLeDiff, Nat.reduceSub, Int.reduceToNat, Int.reduceNeg, Nat.reduceBEq, Nat.add_assoc, Nat.left_eq_add, Nat.add_eq_left, Nat.add_left_cancel_iff]; first | done | trivial) (by simp only [RN, ↓reduceIte, ↓get8, reduceCtorEq, Nat.reduceLT, Nat.reduceEqDiff, Nat.reduceAdd, Nat.reduceMul, Nat.reduceLeDiff, Nat.reduceSub, Int.reduceToNat, Int.reduceNeg, Nat.reduceBEq, Nat.add_assoc, Nat.left_eq_add, Nat.add_eq_left, Nat.add_left_cancel_iff]; rfl) ?_
  cases h11 : btw 0 (n - 1) [k.c18]
  case false =>
    skip
    refine JS_go (tbOk _) 99 fun x hx => ?_
    simp only [RN, ↓reduceIte, ↓get8, reduceCtorEq, Nat.reduceLT, Nat.reduceEqDiff, Nat.reduceAdd, Nat.reduceMul, Nat.reduceLeDiff, Nat.reduceSub, Int.reduceToNat, Int.reduceNeg, Nat.reduceBEq, h0, h1, h2, h3, h4, h5, h6, h7, h8, h9, h10, h11, TY, hw, Nat.add_assoc, Nat.left_eq_add, Nat.add_eq_left, Nat.add_left_cancel_iff] at hx
    subst hx
    refine ⟨_, _, rfl, by first | trivial | omega | (simp only [and_true, true_and]; omega), ?_⟩
    refine at_ret ?_
    refine ret_endK (by simp only [RN, ↓reduceIte, ↓get8, reduceCtorEq, Nat.reduceLT, Nat.reduceEqDiff, Nat.reduceAdd, Nat.reduceMul, Nat.reduceLeDiff, Nat.reduceSub, Int.reduceToNat, Int.reduceNeg, Nat.reduceBEq]; rfl) rfl trivial ?_
    refine ⟨[], fun _ _ h => (by cases h), ?_, rfl, Nat.le_add_right _ _⟩
    simp [kindB, h0, h1, h2, h3, h4, h5, h6, h7, h8, h9, h10, h11]
  refine JS_go (tbOk _) 99 fun x hx => ?_
  simp only [RN, ↓reduceIte, ↓get8, reduceCtorEq, Nat.reduceLT, Nat.reduceEqDiff, Nat.reduceAdd, Nat.reduceMul, Nat.reduceLeDiff, Nat.reduceSub, Int.reduceToNat, Int.reduceNeg, Nat.reduceBEq, h0, h1, h2, h3, h4, h5, h6, h7, h8, h9, h10, h11, TY, hw, Nat.add_assoc, Nat.left_eq_add, Nat.add_eq_left, Nat.add_left_cancel_iff] at hx
  subst hx
  refine ⟨_, _, rfl, by first | trivial | omega | (simp only [and_true, true_and]; omega), ?_⟩
  refine at_ret ?_
  refine ret_endK (by simp only [RN, ↓reduceIte, ↓get8, reduceCtorEq, Nat.reduceLT, Nat.reduceEqDiff, Nat.reduceAdd, Nat.reduceMul, Nat.reduceLeDiff, Nat.reduceSub, Int.reduceToNat, Int.reduceNeg, Nat.reduceBEq]; rfl) rfl trivial ?_
  refine ⟨[], fun _ _ h => (by cases h), ?_, rfl, Nat.le_add_right _ _⟩
  simp [kindB, h0, h1, h2, h3, h4, h5, h6, h7, h8, h9, h10, h11]
end Go.Proofs.Ytoihmanhldcjhaa.Id
namespace Go.Proofs.Ytoihmanhldcjhaa.Id
open Go Go.Proofs.Ytoihmanhldcjhaa.Rl
set_option linter.unusedSimpArgs false
set_option linter.unusedVariables false
structure Wp where
  (c0 c1 c2 c3 c4 : Int)
  under : Bool
def Wp.cells (k : Wp) : List Value := [.int .i64 k.c0, .int .i64 k.c1, .int .i64 k.c2, .int .i64 k.c3, .int .i64 k.c4, .bool k.under]
def weaponB (k : Wp) : Bool := btw 1 32 [k.c0] && btw 0 9999 [k.c1] && decide (k.c2 > 0) && decide (k.c2 ≤ 262144) && btw 1 255 [k.c3] && btw 0 8 [k.c4]
set_option maxRecDepth 100000 in
set_option maxHeartbeats 4000000 in
theorem weapon_c (k : Wp) (nx : Nat) : CallW Try.prog 21 [.agg k.cells.toArray] [] nx fun o F' nx' => o = .ret (.bool (weaponB k)) ∧ F' = [] ∧ nx ≤ nx' := by
  unfold Wp.cells
  refine CallW_go (tbOk _) 35 [.tmp 2] Try.func21 rfl (by decide) rfl rfl (by simp) fun hlt => ?_
  simp only [params, Nat.zero_add, Nat.reduceAdd]
  refine JS_go (tbOk _) 99 fun x hx => ?_
  simp only [RN, ↓reduceIte, ↓get8, reduceCtorEq, Nat.reduceLT, Nat.reduceEqDiff, Nat.reduceAdd, Nat.reduceMul, Nat.reduceLeDiff, Nat.reduceSub, Int.reduceToNat, Int.reduceNeg, Nat.reduceBEq, TY, Nat.add_assoc, Nat.left_eq_add, Nat.add_eq_left, Nat.add_left_cancel_iff] at hx
  subst hx
  refine ⟨_, _, rfl, by first | trivial | omega | (simp only [and_true, true_and]; omega), ?_⟩
  refine at_callK (between_c 1 32 [k.c0] (nx + 1) (nx + 2) false false 3 (by simp)) (by simp only [RN, ↓reduceIte, ↓get8, reduceCtorEq, Nat.reduceLT, Nat.reduceEqDiff, Nat.reduceAdd, Nat.reduceMul, Nat.reduceLeDiff, Nat.reduceSub, Int.reduceToNat, Int.reduceNeg, Nat.reduceBEq, Nat.add_assoc, Nat.left_eq_add, Nat.add_eq_left, Nat.add_left_cancel_iff]; first | done | trivial) (by simp only [RN, ↓reduceIte, ↓get8, reduceCtorEq, Nat.reduceLT, Nat.reduceEqDiff, Nat.reduceAdd, Nat.reduceMul, Nat.reduceLeDiff, Nat.reduceSub, Int.reduceToNat, Int.reduceNeg, Nat.reduceBEq, Nat.add_assoc, Nat.left_eq_add, Nat.add_eq_left, Nat.add_left_cancel_iff]; rfl) ?_
  cases h0 : btw 1 32 [k.c0]
  case false =>
    skip
    refine JS_go (tbOk _) 99 fun x hx => ?_
    simp only [RN, ↓reduceIte, ↓get8, reduceCtorEq, Nat.reduceLT, Nat.reduceEqDiff, Nat.reduceAdd, Nat.reduceMul, Nat.reduceLeDiff, Nat.reduceSub, Int.reduceToNat, Int.reduceNeg, Nat.reduceBEq, h0, TY, Nat.add_assoc, Nat.left_eq_add, Nat.add_eq_left, Nat.add_left_cancel_iff] at hx
    subst hx
    refine ⟨_, _, rfl, by first | trivial | omega | (simp only [and_true, true_and]; omega), ?_⟩
    refine at_ret ?_
    refine ret_endK (by simp only [RN, ↓reduceIte, ↓get8, reduceCtorEq, Nat.reduceLT, Nat.reduceEqDiff, Nat.reduceAdd, Nat.reduceMul, Nat.reduceLeDiff, Nat.reduceSub, Int.reduceToNat, Int.reduceNeg, Nat.reduceBEq]; rfl) rfl trivial ?_
    refine ⟨[], fun _ _ h => (by cases h), ?_, rfl, Nat.le_add_right _ _⟩
    simp [weaponB, h0]
  refine JS_go (tbOk _) 99 fun x hx => ?_
  simp only [RN, ↓reduceIte, ↓get8, reduceCtorEq, Nat.reduceLT, Nat.reduceEqDiff, Nat.reduceAdd, Nat.reduceMul, Nat.reduceLeDiff, Nat.reduceSub, Int.reduceToNat, Int.reduceNeg, Nat.reduceBEq, h0, TY, Nat.add_assoc, Nat.left_eq_add, Nat.add_eq_left, Nat.add_left_cancel_iff] at hx
  subst hx
  refine ⟨_, _, rfl, by first | trivial | omega | (simp only [and_true, true_and]; omega), ?_⟩
  refine at_callK (between_c 0 9999 [k.c1] (nx + 2) (nx + 3) false false 3 (by simp)) (by simp only [RN, ↓reduceIte, ↓get8, reduceCtorEq, Nat.reduceLT, Nat.reduceEqDiff, Nat.reduceAdd, Nat.reduceMul, Nat.reduceLeDiff, Nat.reduceSub, Int.reduceToNat, Int.reduceNeg, Nat.reduceBEq, Nat.add_assoc, Nat.left_eq_add, Nat.add_eq_left, Nat.add_left_cancel_iff]; first | done | trivial) (by simp only [RN, ↓reduceIte, ↓get8, reduceCtorEq, Nat.reduceLT, Nat.reduceEqDiff, Nat.reduceAdd, Nat.reduceMul, Nat.reduceLeDiff, Nat.reduceSub, Int.reduceToNat, Int.reduceNeg, Nat.reduceBEq, Nat.add_assoc, Nat.left_eq_add, Nat.add_eq_left, Nat.add_left_cancel_iff]; rfl) ?_
  cases h1 : btw 0 9999 [k.c1]
  case false =>
    skip
    refine JS_go (tbOk _) 99 fun x hx => ?_
    simp only [RN, ↓reduceIte, ↓get8, reduceCtorEq, Nat.reduceLT, Nat.reduceEqDiff, Nat.reduceAdd, Nat.reduceMul, Nat.reduceLeDiff, Nat.reduceSub, Int.reduceToNat, Int.reduceNeg, Nat.reduceBEq, h0, h1, TY, Nat.add_assoc, Nat.left_eq_add, Nat.add_eq_left, Nat.add_left_cancel_iff] at hx
    subst hx
    refine ⟨_, _, rfl, by first | trivial | omega | (simp only [and_true, true_and]; omega), ?_⟩
    refine at_ret ?_
    refine ret_endK (by simp only [RN, ↓reduceIte, ↓get8, reduceCtorEq, Nat.reduceLT, Nat.reduceEqDiff, Nat.reduceAdd, Nat.reduceMul, Nat.reduceLeDiff, Nat.reduceSub, Int.reduceToNat, Int.reduceNeg, Nat.reduceBEq]; rfl) rfl trivial ?_
    refine ⟨[], fun _ _ h => (by cases h), ?_, rfl, Nat.le_add_right _ _⟩
    simp [weaponB, h0, h1]
  cases h2 : decide (k.c2 > 0)
  case false =>
    skip
    refine JS_go (tbOk _) 99 fun x hx => ?_
    simp only [RN, ↓reduceIte, ↓get8, reduceCtorEq, Nat.reduceLT, Nat.reduceEqDiff, Nat.reduceAdd, Nat.reduceMul, Nat.reduceLeDiff, Nat.reduceSub, Int.reduceToNat, Int.reduceNeg, Nat.reduceBEq, h0, h1, h2, TY, Nat.add_assoc, Nat.left_eq_add, Nat.add_eq_left, Nat.add_left_cancel_iff] at hx
    subst hx
    refine ⟨_, _, rfl, by first | trivial | omega | (simp only [and_true, true_and]; omega), ?_⟩
    refine at_ret ?_
    refine ret_endK (by simp only [RN, ↓reduceIte, ↓get8, reduceCtorEq, Nat.reduceLT, Nat.reduceEqDiff, Nat.reduceAdd, Nat.reduceMul, Nat.reduceLeDiff, Nat.reduceSub, Int.reduceToNat, Int.reduceNeg, Nat.reduceBEq]; rfl) rfl trivial ?_
    refine ⟨[], fun _ _ h => (by cases h), ?_, rfl, Nat.le_add_right _ _⟩
    simp [weaponB, h0, h1, h2]
  cases h3 : decide (k.c2 ≤ 262144)
  case false =>
    skip
    refine JS_go (tbOk _) 99 fun x hx => ?_
    simp only [RN, ↓reduceIte, ↓get8, reduceCtorEq, Nat.reduceLT, Nat.reduceEqDiff, Nat.reduceAdd, Nat.reduceMul, Nat.reduceLeDiff, Nat.reduceSub, Int.reduceToNat, Int.reduceNeg, Nat.reduceBEq, h0, h1, h2, h3, TY, Nat.add_assoc, Nat.left_eq_add, Nat.add_eq_left, Nat.add_left_cancel_iff] at hx
    subst hx
    refine ⟨_, _, rfl, by first | trivial | omega | (simp only [and_true, true_and]; omega), ?_⟩
    refine at_ret ?_
    refine ret_endK (by simp only [RN, ↓reduceIte, ↓get8, reduceCtorEq, Nat.reduceLT, Nat.reduceEqDiff, Nat.reduceAdd, Nat.reduceMul, Nat.reduceLeDiff, Nat.reduceSub, Int.reduceToNat, Int.reduceNeg, Nat.reduceBEq]; rfl) rfl trivial ?_
    refine ⟨[], fun _ _ h => (by cases h), ?_, rfl, Nat.le_add_right _ _⟩
    simp [weaponB, h0, h1, h2, h3]
  refine JS_go (tbOk _) 99 fun x hx => ?_
  simp only [RN, ↓reduceIte, ↓get8, reduceCtorEq, Nat.reduceLT, Nat.reduceEqDiff, Nat.reduceAdd, Nat.reduceMul, Nat.reduceLeDiff, Nat.reduceSub, Int.reduceToNat, Int.reduceNeg, Nat.reduceBEq, h0, h1, h2, h3, TY, Nat.add_assoc, Nat.left_eq_add, Nat.add_eq_left, Nat.add_left_cancel_iff] at hx
  subst hx
  refine ⟨_, _, rfl, by first | trivial | omega | (simp only [and_true, true_and]; omega), ?_⟩
  refine at_callK (between_c 1 255 [k.c3] (nx + 3) (nx + 4) false false 3 (by simp)) (by simp only [RN, ↓reduceIte, ↓get8, reduceCtorEq, Nat.reduceLT, Nat.reduceEqDiff, Nat.reduceAdd, Nat.reduceMul, Nat.reduceLeDiff, Nat.reduceSub, Int.reduceToNat, Int.reduceNeg, Nat.reduceBEq, Nat.add_assoc, Nat.left_eq_add, Nat.add_eq_left, Nat.add_left_cancel_iff]; first | done | trivial) (by simp only [RN, ↓reduceIte, ↓get8, reduceCtorEq, Nat.reduceLT, Nat.reduceEqDiff, Nat.reduceAdd, Nat.reduceMul, Nat.reduceLeDiff, Nat.reduceSub, Int.reduceToNat, Int.reduceNeg, Nat.reduceBEq, Nat.add_assoc, Nat.left_eq_add, Nat.add_eq_left, Nat.add_left_cancel_iff]; rfl) ?_
  cases h4 : btw 1 255 [k.c3]
  case false =>
    skip
    refine JS_go (tbOk _) 99 fun x hx => ?_
    simp only [RN, ↓reduceIte, ↓get8, reduceCtorEq, Nat.reduceLT, Nat.reduceEqDiff, Nat.reduceAdd, Nat.reduceMul, Nat.reduceLeDiff, Nat.reduceSub, Int.reduceToNat, Int.reduceNeg, Nat.reduceBEq, h0, h1, h2, h3, h4, TY, Nat.add_assoc, Nat.left_eq_add, Nat.add_eq_left, Nat.add_left_cancel_iff] at hx
    subst hx
    refine ⟨_, _, rfl, by first | trivial | omega | (simp only [and_true, true_and]; omega), ?_⟩
    refine at_ret ?_
    refine ret_endK (by simp only [RN, ↓reduceIte, ↓get8, reduceCtorEq, Nat.reduceLT, Nat.reduceEqDiff, Nat.reduceAdd, Nat.reduceMul, Nat.reduceLeDiff, Nat.reduceSub, Int.reduceToNat, Int.reduceNeg, Nat.reduceBEq]; rfl) rfl trivial ?_
    refine ⟨[], fun _ _ h => (by cases h), ?_, rfl, Nat.le_add_right _ _⟩
    simp [weaponB, h0, h1, h2, h3, h4]
  refine JS_go (tbOk _) 99 fun x hx => ?_
  simp only [RN, ↓reduceIte, ↓get8, reduceCtorEq, Nat.reduceLT, Nat.reduceEqDiff, Nat.reduceAdd, Nat.reduceMul, Nat.reduceLeDiff, Nat.reduceSub, Int.reduceToNat, Int.reduceNeg, Nat.reduceBEq, h0, h1, h2, h3, h4, TY, Nat.add_assoc, Nat.left_eq_add, Nat.add_eq_left, Nat.add_left_cancel_iff] at hx
  subst hx
  refine ⟨_, _, rfl, by first | trivial | omega | (simp only [and_true, true_and]; omega), ?_⟩
  refine at_callK (between_c 0 8 [k.c4] (nx + 4) (nx + 5) false false 3 (by simp)) (by simp only [RN, ↓reduceIte, ↓get8, reduceCtorEq, Nat.reduceLT, Nat.reduceEqDiff, Nat.reduceAdd, Nat.reduceMul, Nat.reduceLeDiff, Nat.reduceSub, Int.reduceToNat, Int.reduceNeg, Nat.reduceBEq, Nat.add_assoc, Nat.left_eq_add, Nat.add_eq_left, Nat.add_left_cancel_iff]; first | done | trivial) (by simp only [RN, ↓reduceIte, ↓get8, reduceCtorEq, Nat.reduceLT, Nat.reduceEqDiff, Nat.reduceAdd, Nat.reduceMul, Nat.reduceLeDiff, Nat.reduceSub, Int.reduceToNat, Int.reduceNeg, Nat.reduceBEq, Nat.add_assoc, Nat.left_eq_add, Nat.add_eq_left, Nat.add_left_cancel_iff]; rfl) ?_
  cases h5 : btw 0 8 [k.c4]
  case false =>
    skip
    refine JS_go (tbOk _) 99 fun x hx => ?_
    simp only [RN, ↓reduceIte, ↓get8, reduceCtorEq, Nat.reduceLT, Nat.reduceEqDiff, Nat.reduceAdd, Nat.reduceMul, Nat.reduceLeDiff, Nat.reduceSub, Int.reduceToNat, Int.reduceNeg, Nat.reduceBEq, h0, h1, h2, h3, h4, h5, TY, Nat.add_assoc, Nat.left_eq_add, Nat.add_eq_left, Nat.add_left_cancel_iff] at hx
    subst hx
    refine ⟨_, _, rfl, by first | trivial | omega | (simp only [and_true, true_and]; omega), ?_⟩
    refine at_ret ?_
    refine ret_endK (by simp only [RN, ↓reduceIte, ↓get8, reduceCtorEq, Nat.reduceLT, Nat.reduceEqDiff, Nat.reduceAdd, Nat.reduceMul, Nat.reduceLeDiff, Nat.reduceSub, Int.reduceToNat, Int.reduceNeg, Nat.reduceBEq]; rfl) rfl trivial ?_
    refine ⟨[], fun _ _ h => (by cases h), ?_, rfl, Nat.le_add_right _ _⟩
    simp [weaponB, h0, h1, h2, h3, h4, h5]
  refine JS_go (tbOk _) 99 fun x hx => ?_
  simp only [RN, ↓reduceIte, ↓get8, reduceCtorEq, Nat.reduceLT, Nat.reduceEqDiff, Nat.reduceAdd, Nat.reduceMul, Nat.reduceLeDiff, Nat.reduceSub, Int.reduceToNat, Int.reduceNeg, Nat.reduceBEq, h0, h1, h2, h3, h4, h5, TY, Nat.add_assoc, Nat.left_eq_add, Nat.add_eq_left, Nat.add_left_cancel_iff] at hx
  subst hx
  refine ⟨_, _, rfl, by first | trivial | omega | (simp only [and_true, true_and]; omega), ?_⟩
  refine at_ret ?_
  refine ret_endK (by simp only [RN, ↓reduceIte, ↓get8, reduceCtorEq, Nat.reduceLT, Nat.reduceEqDiff, Nat.reduceAdd, Nat.reduceMul, Nat.reduceLeDiff, Nat.reduceSub, Int.reduceToNat, Int.reduceNeg, Nat.reduceBEq]; rfl) rfl trivial ?_
  refine ⟨[], fun _ _ h => (by cases h), ?_, rfl, Nat.le_add_right _ _⟩
  simp [weaponB, h0, h1, h2, h3, h4, h5]
end Go.Proofs.Ytoihmanhldcjhaa.Id
namespace Go.Proofs.Ytoihmanhldcjhaa.Id
open Go Go.Proofs.Ytoihmanhldcjhaa.Rl
set_option linter.unusedSimpArgs false
set_option linter.unusedVariables false
theorem flat_len {α β : Type} (f : α → List β) (m : Nat) (hf : ∀ x, (f x).length = m) : ∀ l : List α, (l.flatMap f).length = l.length * m
  | [] => by simp
  | x :: l => by rw [List.flatMap_cons, List.length_append, flat_len f m hf l, hf, List.length_cons, Nat.succ_mul, Nat.add_comm]
theorem flat_get {α β : Type} (f : α → List β) (m : Nat) (hf : ∀ x, (f x).length = m) : ∀ (l : List α) (j : Nat) (h : j < l.length), ((l.flatMap f).drop (j * m)).take m = f l[j]
  | x :: l, 0, h => by rw [List.flatMap_cons, Nat.zero_mul, List.drop_zero, ← hf x, List.take_left]; rfl
  | x :: l, j + 1, h => by
    have h' : j < l.length := by simpa using h
    rw [List.flatMap_cons, Nat.succ_mul, Nat.add_comm, ← List.drop_drop]
    conv => lhs; rw [show m = (f x).length from (hf x).symm]
    rw [List.drop_left, hf x, flat_get f m hf l j h']
    rfl
def kcells (ks : List Kd) : List Value := ks.flatMap Kd.cells
def wcells (ws : List Wp) : List Value := ws.flatMap Wp.cells
theorem kcells_get {ks : List Kd} {j : Nat} (h : j < ks.length) : ((kcells ks).drop (j * 20)).take 20 = ks[j].cells := flat_get Kd.cells 20 (fun _ => rfl) ks j h
theorem wcells_get {ws : List Wp} {j : Nat} (h : j < ws.length) : ((wcells ws).drop (j * 6)).take 6 = ws[j].cells := flat_get Wp.cells 6 (fun _ => rfl) ws j h
theorem kcells_len (ks : List Kd) : (kcells ks).length = ks.length * 20 := flat_len Kd.cells 20 (fun _ => rfl) ks
theorem wcells_len (ws : List Wp) : (wcells ws).length = ws.length * 6 := flat_len Wp.cells 6 (fun _ => rfl) ws
end Go.Proofs.Ytoihmanhldcjhaa.Id
namespace Go.Proofs.Ytoihmanhldcjhaa.Id
open Go Go.Proofs.Ytoihmanhldcjhaa.Rl
set_option linter.unusedSimpArgs false
set_option linter.unusedVariables false
def slv : Option Nat → Nat → Nat → Value
  | none, _, _ => .slice none 0 0
  | some b, n, c => .slice (some ⟨b, 0, none⟩) n c
theorem ilen_slv (T : Tb) (t e : TypeId) (hT : T.und t = some (.slice e)) (o : Option Nat) (n c : Nat) (h : o = none → n = 0) : ilen T t (slv o n c) = some (.int .i64 n) := by
  cases o with
  | none => rw [h rfl]; simp [ilen, slv, hT]
  | some b => simp [ilen, slv, hT]
def kblk (o : Option Nat) (ks : List Kd) (ro loose : Bool) : Hp := match o with
  | none => []
  | some b => [(b, ⟨kcells ks, 46, 20, ro, loose⟩)]
def wpblk (o : Option Nat) (ws : List Wp) (ro loose : Bool) : Hp := match o with
  | none => []
  | some b => [(b, ⟨wcells ws, 51, 6, ro, loose⟩)]
structure Bk where
  ks : List Kd
  kx : List Kd
  ws : List Wp
  wx : List Wp
  ok : Option Nat
  kc : Nat
  ow : Option Nat
  wc : Nat
  ro : Bool
  loose : Bool
def Bk.val (B : Bk) : Value := .agg #[slv B.ok B.ks.length B.kc, slv B.ow B.ws.length B.wc]
def Bk.H (B : Bk) : Hp := kblk B.ok (B.ks ++ B.kx) B.ro B.loose ++ wpblk B.ow (B.ws ++ B.wx) B.ro B.loose
structure Bk.Good (B : Bk) (nx : Nat) : Prop where
  hk : B.ok = none → B.ks = []
  hw : B.ow = none → B.ws = []
  hkl : B.ks.length ≤ 1000
  hwl : B.ws.length ≤ 1000
  hkn : ∀ b, B.ok = some b → b < nx
  hwn : ∀ b, B.ow = some b → b < nx
  hkw : ∀ b c, B.ok = some b → B.ow = some c → ¬ c = b
theorem Bk.Good.mono {B : Bk} {nx nx' : Nat} (g : B.Good nx) (h : nx ≤ nx') : B.Good nx' :=
  ⟨g.hk, g.hw, g.hkl, g.hwl, fun b e => Nat.lt_of_lt_of_le (g.hkn b e) h, fun b e => Nat.lt_of_lt_of_le (g.hwn b e) h, g.hkw⟩
theorem Bk.Good.l1 {B : Bk} {nx : Nat} (g : B.Good nx) : ilen (tbOf Try.prog) 23 (slv B.ok B.ks.length B.kc) = some (.int .i64 B.ks.length) :=
  ilen_slv (tbOf Try.prog) 23 46 (by rw [und_eq, Try.underlying23]) _ _ _ (fun h => by rw [g.hk h]; rfl)
theorem Bk.Good.l2 {B : Bk} {nx : Nat} (g : B.Good nx) : ilen (tbOf Try.prog) 24 (slv B.ow B.ws.length B.wc) = some (.int .i64 B.ws.length) :=
  ilen_slv (tbOf Try.prog) 24 51 (by rw [und_eq, Try.underlying24]) _ _ _ (fun h => by rw [g.hw h]; rfl)
theorem Bk.Good.t1 {B : Bk} {nx : Nat} (g : B.Good nx) : ∀ e ∈ B.H, e.1 < nx := by
  rcases B with ⟨ks, kx, ws, wx, ok, kc, ow, wc, ro, loose⟩
  intro e he
  rcases List.mem_append.1 he with he | he
  · cases ok with
    | none => simp [kblk] at he
    | some b => simp [kblk] at he; subst he; exact g.hkn b rfl
  · cases ow with
    | none => simp [wpblk] at he
    | some b => simp [wpblk] at he; subst he; exact g.hwn b rfl
theorem Bk.Good.t2 {B : Bk} {nx : Nat} (g : B.Good nx) : ∀ b, B.ok = some b → look b B.H = some ⟨kcells (B.ks ++ B.kx), 46, 20, B.ro, B.loose⟩ := by
  rcases B with ⟨ks, kx, ws, wx, ok, kc, ow, wc, ro, loose⟩
  intro b h; dsimp only at h; subst h; simp [Bk.H, kblk, look_cons]
theorem Bk.Good.t3 {B : Bk} {nx : Nat} (g : B.Good nx) : ∀ c, B.ow = some c → look c B.H = some ⟨wcells (B.ws ++ B.wx), 51, 6, B.ro, B.loose⟩ := by
  rcases B with ⟨ks, kx, ws, wx, ok, kc, ow, wc, ro, loose⟩
  intro c h; dsimp only at h; subst h
  cases ok with
  | none => simp [Bk.H, kblk, wpblk, look_cons]
  | some b => have := g.hkw b c rfl rfl; simp [Bk.H, kblk, wpblk, look_cons, this]
theorem remN_far (nx i : Nat) : ∀ {T0 : Hp}, (∀ e ∈ T0, e.1 < nx) → remN [nx + i] T0 = T0
  | [], _ => rfl
  | (k, b) :: T0, h => by
    have hk : k < nx := h (k, b) (by simp)
    have : ¬ k = nx + i := by omega
    rw [remN, remN_far nx i fun e he => h e (by simp [he])]
    simp [hasN, this]
theorem remN_farL (nx : Nat) (ids : List Nat) (hi : ∀ i ∈ ids, nx ≤ i) : ∀ {T0 : Hp}, (∀ e ∈ T0, e.1 < nx) → remN ids T0 = T0
  | [], _ => rfl
  | (k, b) :: T0, h => by
    have hk : k < nx := h (k, b) (by simp)
    have : ids.contains k = false := by
      rw [List.contains_eq_mem, decide_eq_false_iff_not]
      intro hm
      have := hi k hm
      omega
    rw [remN, remN_farL nx ids hi fun e he => h e (by simp [he]), hasN_eq, this]
    rfl
theorem Bk.Good.t4 {B : Bk} {nx : Nat} (g : B.Good nx) (ids : List Nat) (hi : ∀ i ∈ ids, nx ≤ i) : remN ids B.H = B.H := remN_farL nx ids hi g.t1
theorem Bk.Good.t5 {B : Bk} {nx : Nat} (g : B.Good nx) : ∀ id b, look id B.H = some b → id < nx := by
  intro id b h
  obtain ⟨e, he, rfl⟩ := List.mem_map.1 (look_mem h)
  exact g.t1 e he
def checkB (ks : List Kd) (ws : List Wp) : Int × Int :=
  if !btw 1 16 [(ks.length : Int)] || decide ((ws.length : Int) > 16) then (1, -1) else
  match ks.findIdx? fun k => !kindB k ws.length with
  | some i => (1, i)
  | none => match ws.findIdx? fun x => !weaponB x with
    | some i => (1, (ks.length + i : Nat))
    | none => (0, 0)
set_option maxRecDepth 100000 in
theorem check_c (B : Bk) (nx : Nat) (g : B.Good nx) :
    CallW Try.prog 11 [B.val] B.H nx
      fun o F' nx' => o = .ret (.tuple #[.int .i64 (checkB B.ks B.ws).1, .int .i64 (checkB B.ks B.ws).2]) ∧ F' = B.H ∧ nx ≤ nx' := by
  have l1 := g.l1
  have l2 := g.l2
  have t1 := g.t1
  have t2 := g.t2
  have t3 := g.t3
  rcases B with ⟨ks, kx, ws, wx, ok, kc, ow, wc, ro, loose⟩
  obtain ⟨hk, hw, hkl, hwl, hkn, hwn, hkw⟩ := g
  unfold Bk.val
  obtain ⟨T0, hT0⟩ : ∃ T0, Bk.H ⟨ks, kx, ws, wx, ok, kc, ow, wc, ro, loose⟩ = T0 := ⟨_, rfl⟩
  rw [hT0] at t1 t2 t3 ⊢
  dsimp only at l1 l2 t1 t2 t3 hk hw hkl hwl hkn hwn hkw ⊢
  have t4 : ∀ i, remN [nx + i] T0 = T0 := fun i => remN_far nx i t1
  have t5 : ∀ id b, look id T0 = some b → (¬ id = nx) ∧ ∀ i, ¬ id = nx + i := by
    intro id b h
    have hm := look_mem h
    obtain ⟨e, he, rfl⟩ := List.mem_map.1 hm
    have := t1 e he
    exact ⟨by omega, fun i => by omega⟩
  refine CallW_go (tbOk _) 53 [.tmp 2, .tmp 3] Try.func11 rfl (by decide) rfl rfl (by simp) fun hlt => ?_
  simp only [params, Nat.zero_add, Nat.reduceAdd]
  refine JS_go (tbOk _) 99 fun x hx => ?_
  simp only [RN, ↓reduceIte, ↓get8, reduceCtorEq, Nat.reduceLT, Nat.reduceEqDiff, Nat.reduceAdd, Nat.reduceMul, Nat.reduceLeDiff, Nat.reduceSub, Int.reduceToNat, Int.reduceNeg, Nat.reduceBEq, TY, ↓l1, ↓l2, Nat.add_assoc, Nat.left_eq_add, Nat.add_eq_left, Nat.add_left_cancel_iff] at hx
  subst hx
  refine ⟨_, _, rfl, by first | trivial | omega | (simp only [and_true, true_and]; omega), ?_⟩
  refine at_callK (between_c 1 16 [(ks.length : Int)] (nx + 1) (nx + 2) false false 3 (by simp)) (by simp only [RN, ↓reduceIte, ↓get8, reduceCtorEq, Nat.reduceLT, Nat.reduceEqDiff, Nat.reduceAdd, Nat.reduceMul, Nat.reduceLeDiff, Nat.reduceSub, Int.reduceToNat, Int.reduceNeg, Nat.reduceBEq, t4, Nat.add_assoc, Nat.left_eq_add, Nat.add_eq_left, Nat.add_left_cancel_iff]; first | done | trivial) (by simp only [RN, ↓reduceIte, ↓get8, reduceCtorEq, Nat.reduceLT, Nat.reduceEqDiff, Nat.reduceAdd, Nat.reduceMul, Nat.reduceLeDiff, Nat.reduceSub, Int.reduceToNat, Int.reduceNeg, Nat.reduceBEq, t4, Nat.add_assoc, Nat.left_eq_add, Nat.add_eq_left, Nat.add_left_cancel_iff]; rfl) ?_
  cases h0 : btw 1 16 [(ks.length : Int)]
  case false =>
    skip
    refine JS_go (tbOk _) 99 fun x hx => ?_
    simp only [RN, ↓reduceIte, ↓get8, reduceCtorEq, Nat.reduceLT, Nat.reduceEqDiff, Nat.reduceAdd, Nat.reduceMul, Nat.reduceLeDiff, Nat.reduceSub, Int.reduceToNat, Int.reduceNeg, Nat.reduceBEq, h0, TY, ↓l1, ↓l2, Nat.add_assoc, Nat.left_eq_add, Nat.add_eq_left, Nat.add_left_cancel_iff] at hx
    subst hx
    refine ⟨_, _, rfl, by first | trivial | omega | (simp only [and_true, true_and]; omega), ?_⟩
    refine at_cond (fun _ => ?_) (fun h => nomatch h)
    refine JS_go (tbOk _) 99 fun x hx => ?_
    simp only [RN, ↓reduceIte, ↓get8, reduceCtorEq, Nat.reduceLT, Nat.reduceEqDiff, Nat.reduceAdd, Nat.reduceMul, Nat.reduceLeDiff, Nat.reduceSub, Int.reduceToNat, Int.reduceNeg, Nat.reduceBEq, h0, TY, ↓l1, ↓l2, Nat.add_assoc, Nat.left_eq_add, Nat.add_eq_left, Nat.add_left_cancel_iff] at hx
    subst hx
    refine ⟨_, _, rfl, by first | trivial | omega | (simp only [and_true, true_and]; omega), ?_⟩
    refine at_ret ?_
    refine ret_endK (by simp only [RN, ↓reduceIte, ↓get8, reduceCtorEq, Nat.reduceLT, Nat.reduceEqDiff, Nat.reduceAdd, Nat.reduceMul, Nat.reduceLeDiff, Nat.reduceSub, Int.reduceToNat, Int.reduceNeg, Nat.reduceBEq]; rfl) rfl trivial ⟨T0, ?_, ?_, rfl, Nat.le_add_right _ _⟩
    · intro id b h
      obtain ⟨i1, i2⟩ := t5 id b h
      simp only [RN, ↓reduceIte, ↓get8, reduceCtorEq, Nat.reduceLT, Nat.reduceEqDiff, Nat.reduceAdd, Nat.reduceMul, Nat.reduceLeDiff, Nat.reduceSub, Int.reduceToNat, Int.reduceNeg, Nat.reduceBEq, i1, i2, h]
    · unfold checkB; simp [h0]
  cases h1 : decide ((ws.length : Int) > 16)
  case true =>
    skip
    refine JS_go (tbOk _) 99 fun x hx => ?_
    simp only [RN, ↓reduceIte, ↓get8, reduceCtorEq, Nat.reduceLT, Nat.reduceEqDiff, Nat.reduceAdd, Nat.reduceMul, Nat.reduceLeDiff, Nat.reduceSub, Int.reduceToNat, Int.reduceNeg, Nat.reduceBEq, h0, h1, TY, ↓l1, ↓l2, Nat.add_assoc, Nat.left_eq_add, Nat.add_eq_left, Nat.add_left_cancel_iff] at hx
    subst hx
    refine ⟨_, _, rfl, by first | trivial | omega | (simp only [and_true, true_and]; omega), ?_⟩
    refine at_cond (fun _ => ?_) (fun h => nomatch h)
    refine JS_go (tbOk _) 99 fun x hx => ?_
    simp only [RN, ↓reduceIte, ↓get8, reduceCtorEq, Nat.reduceLT, Nat.reduceEqDiff, Nat.reduceAdd, Nat.reduceMul, Nat.reduceLeDiff, Nat.reduceSub, Int.reduceToNat, Int.reduceNeg, Nat.reduceBEq, h0, h1, TY, ↓l1, ↓l2, Nat.add_assoc, Nat.left_eq_add, Nat.add_eq_left, Nat.add_left_cancel_iff] at hx
    subst hx
    refine ⟨_, _, rfl, by first | trivial | omega | (simp only [and_true, true_and]; omega), ?_⟩
    refine at_ret ?_
    refine ret_endK (by simp only [RN, ↓reduceIte, ↓get8, reduceCtorEq, Nat.reduceLT, Nat.reduceEqDiff, Nat.reduceAdd, Nat.reduceMul, Nat.reduceLeDiff, Nat.reduceSub, Int.reduceToNat, Int.reduceNeg, Nat.reduceBEq]; rfl) rfl trivial ⟨T0, ?_, ?_, rfl, Nat.le_add_right _ _⟩
    · intro id b h
      obtain ⟨i1, i2⟩ := t5 id b h
      simp only [RN, ↓reduceIte, ↓get8, reduceCtorEq, Nat.reduceLT, Nat.reduceEqDiff, Nat.reduceAdd, Nat.reduceMul, Nat.reduceLeDiff, Nat.reduceSub, Int.reduceToNat, Int.reduceNeg, Nat.reduceBEq, i1, i2, h]
    · unfold checkB; simp only [h0, h1]; rfl
  refine JS_go (tbOk _) 99 fun x hx => ?_
  simp only [RN, ↓reduceIte, ↓get8, reduceCtorEq, Nat.reduceLT, Nat.reduceEqDiff, Nat.reduceAdd, Nat.reduceMul, Nat.reduceLeDiff, Nat.reduceSub, Int.reduceToNat, Int.reduceNeg, Nat.reduceBEq, h0, h1, TY, ↓l1, ↓l2, Nat.add_assoc, Nat.left_eq_add, Nat.add_eq_left, Nat.add_left_cancel_iff] at hx
  subst hx
  refine ⟨_, _, rfl, by first | trivial | omega | (simp only [and_true, true_and]; omega), ?_⟩
  refine at_cond (fun h => nomatch h) (fun _ => ?_)
  refine JS_go (tbOk _) 99 fun x hx => ?_
  simp only [RN, ↓reduceIte, ↓get8, reduceCtorEq, Nat.reduceLT, Nat.reduceEqDiff, Nat.reduceAdd, Nat.reduceMul, Nat.reduceLeDiff, Nat.reduceSub, Int.reduceToNat, Int.reduceNeg, Nat.reduceBEq, h0, h1, TY, ↓l1, ↓l2, Nat.add_assoc, Nat.left_eq_add, Nat.add_eq_left, Nat.add_left_cancel_iff] at hx
  subst hx
  refine ⟨_, _, rfl, by first | trivial | omega | (simp only [and_true, true_and]; omega), ?_⟩
  refine at_loop ?_
  refine JS_loopI (S := fun x : Nat × Nat => { n := 53, fr := [(23, Value.int IntKind.i64 x.1), (22, Value.int IntKind.i64 ks.length), (21, slv ok ks.length kc), (1, .pointer (some ⟨nx, 0, none⟩))], F := (nx, ⟨[slv ok ks.length kc, slv ow ws.length wc], 26, 2, false, false⟩) :: T0, nx := x.2, ds := [] })
    (fun p => p.1 ≤ ks.length ∧ nx + 2 ≤ p.2 ∧ (ks.take p.1).findIdx? (fun k => !kindB k ws.length) = none) (fun x => ks.length - x.1) (0, nx + 2) ⟨Nat.zero_le _, Nat.le_refl _, rfl⟩ ?_ ?_
  · refine ⟨rfl, leL_look (by simp only [RN, ↓reduceIte, ↓get8, reduceCtorEq, Nat.reduceLT, Nat.reduceEqDiff, Nat.reduceAdd, Nat.reduceMul, Nat.reduceLeDiff, Nat.reduceSub, Int.reduceToNat, Int.reduceNeg, Nat.reduceBEq]; first | done | trivial), ?_, Nat.le_refl _, rfl⟩
    intro id b h
    dsimp only at h ⊢
    rw [look_cons] at h
    split at h
    · rename_i e; subst e; simp only [RN, ↓reduceIte, ↓get8, reduceCtorEq, Nat.reduceLT, Nat.reduceEqDiff, Nat.reduceAdd, Nat.reduceMul, Nat.reduceLeDiff, Nat.reduceSub, Int.reduceToNat, Int.reduceNeg, Nat.reduceBEq, h, Nat.add_assoc, Nat.left_eq_add, Nat.add_eq_left, Nat.add_left_cancel_iff]
    · obtain ⟨i1, i2⟩ := t5 id b h
      simp only [RN, ↓reduceIte, ↓get8, reduceCtorEq, Nat.reduceLT, Nat.reduceEqDiff, Nat.reduceAdd, Nat.reduceMul, Nat.reduceLeDiff, Nat.reduceSub, Int.reduceToNat, Int.reduceNeg, Nat.reduceBEq, i1, i2, h]
  rintro ⟨j, m⟩ ⟨hj, hm, hall⟩
  dsimp only at hj hm hall ⊢
  refine JS_go (tbOk _) 99 fun x hx => ?_
  simp only [RN, ↓reduceIte, ↓get8, reduceCtorEq, Nat.reduceLT, Nat.reduceEqDiff, Nat.reduceAdd, Nat.reduceMul, Nat.reduceLeDiff, Nat.reduceSub, Int.reduceToNat, Int.reduceNeg, Nat.reduceBEq, TY] at hx
  subst hx
  refine ⟨_, _, rfl, by first | trivial | omega | (simp only [and_true, true_and]; omega), ?_⟩
  refine at_cond (fun hlt2 => ?_) (fun hge => ?_)
  · have hlt3 : j < ks.length := by simpa using hlt2
    obtain ⟨b, hb⟩ : ∃ b, ok = some b := by
      cases ok with
      | none => rw [hk rfl] at hlt3; exact absurd hlt3 (by simp)
      | some b => exact ⟨b, rfl⟩
    have hbn := hkn b hb
    have lb := t2 b hb
    have hs : slv ok ks.length kc = .slice (some ⟨b, 0, none⟩) ks.length kc := by rw [hb]; rfl
    have g0 : ¬ b = nx := by omega
    have g1 : ¬ b = m := by omega
    have g2 : ∀ i, ¬ b = m + i := by intro i; omega
    have g3 : ¬ nx = m := by omega
    have g4 : ∀ i, ¬ nx = m + i := by intro i; omega
    have g5 : ¬ m = nx := by omega
    have g6 : ¬ m = b := by omega
    have kg := kcells_get (ks := ks ++ kx) (j := j) (by simp; omega)
    rw [List.getElem_append_left hlt3] at kg
    have kl := kcells_len (ks ++ kx)
    rw [List.length_append] at kl
    have hK := kind_c ks[j] ws.length (m + 1) (by omega) (by omega)
    refine JS_go (tbOk _) 99 fun x hx => ?_
    simp only [RN, ↓reduceIte, ↓get8, reduceCtorEq, Nat.reduceLT, Nat.reduceEqDiff, Nat.reduceAdd, Nat.reduceMul, Nat.reduceLeDiff, Nat.reduceSub, Int.reduceToNat, Int.reduceNeg, Nat.reduceBEq, TY, hs, lb, kg, kl, Kd.cells, ↓l2, g0, g1, g2, g3, g4, g5, g6, Nat.add_assoc, Nat.left_eq_add, Nat.add_eq_left, Nat.add_left_cancel_iff] at hx
    subst hx
    refine ⟨_, _, rfl, by first | trivial | omega | (simp only [and_true, true_and]; omega), ?_⟩
    refine at_callG hK (by simp only [RN, ↓reduceIte, ↓get8, reduceCtorEq, Nat.reduceLT, Nat.reduceEqDiff, Nat.reduceAdd, Nat.reduceMul, Nat.reduceLeDiff, Nat.reduceSub, Int.reduceToNat, Int.reduceNeg, Nat.reduceBEq]; first | done | trivial) ?_
    rintro o L' n ⟨rfl, rfl, hn⟩
    refine ⟨_, by simp only [RN, ↓reduceIte, ↓get8, reduceCtorEq, Nat.reduceLT, Nat.reduceEqDiff, Nat.reduceAdd, Nat.reduceMul, Nat.reduceLeDiff, Nat.reduceSub, Int.reduceToNat, Int.reduceNeg, Nat.reduceBEq]; rfl, ?_⟩
    cases hkb : kindB ks[j] ws.length
    case true =>
      skip
      refine JS_go (tbOk _) 99 fun x hx => ?_
      simp only [RN, ↓reduceIte, ↓get8, reduceCtorEq, Nat.reduceLT, Nat.reduceEqDiff, Nat.reduceAdd, Nat.reduceMul, Nat.reduceLeDiff, Nat.reduceSub, Int.reduceToNat, Int.reduceNeg, Nat.reduceBEq, hkb, TY] at hx
      subst hx
      refine ⟨_, _, rfl, by first | trivial | omega | (simp only [and_true, true_and]; omega), ?_⟩
      refine at_cond (fun h => nomatch h) (fun _ => ?_)
      have hw3 : IntKind.i64.wrap ((j : Int) + 1) = ((j + 1 : Nat) : Int) := wrap_i64 (j + 1) (by omega)
      refine JS_go (tbOk _) 99 fun x hx => ?_
      simp only [RN, ↓reduceIte, ↓get8, reduceCtorEq, Nat.reduceLT, Nat.reduceEqDiff, Nat.reduceAdd, Nat.reduceMul, Nat.reduceLeDiff, Nat.reduceSub, Int.reduceToNat, Int.reduceNeg, Nat.reduceBEq, TY, hw3] at hx
      subst hx
      refine ⟨_, _, rfl, by first | trivial | omega | (simp only [and_true, true_and]; omega), ?_⟩
      refine at_done (in_nextI (j + 1, n) ⟨hlt3, by show nx + 2 ≤ n; omega, ?_⟩ (by show ks.length - (j + 1) < ks.length - j; omega) ?_)
      · rw [List.take_succ_eq_append_getElem hlt3, List.findIdx?_append, hall]; simp [hkb]
      · refine ⟨rfl, leL_look (by simp only [RN, ↓reduceIte, ↓get8, reduceCtorEq, Nat.reduceLT, Nat.reduceEqDiff, Nat.reduceAdd, Nat.reduceMul, Nat.reduceLeDiff, Nat.reduceSub, Int.reduceToNat, Int.reduceNeg, Nat.reduceBEq, hs]; first | done | trivial), ?_, Nat.le_refl _, rfl⟩
        intro id b h
        dsimp only at h ⊢
        rw [look_cons] at h
        split at h
        · rename_i e; subst e; rw [← h]; simp only [RN, ↓reduceIte, ↓get8, reduceCtorEq, Nat.reduceLT, Nat.reduceEqDiff, Nat.reduceAdd, Nat.reduceMul, Nat.reduceLeDiff, Nat.reduceSub, Int.reduceToNat, Int.reduceNeg, Nat.reduceBEq, hs, g3, g4]
        · obtain ⟨i1, i2⟩ := t5 id b h
          have i3 : ¬ id = m := by have := i2 (m - nx); omega
          simp only [RN, ↓reduceIte, ↓get8, reduceCtorEq, Nat.reduceLT, Nat.reduceEqDiff, Nat.reduceAdd, Nat.reduceMul, Nat.reduceLeDiff, Nat.reduceSub, Int.reduceToNat, Int.reduceNeg, Nat.reduceBEq, i1, i2, i3, h]
    case false =>
      skip
      refine JS_go (tbOk _) 99 fun x hx => ?_
      simp only [RN, ↓reduceIte, ↓get8, reduceCtorEq, Nat.reduceLT, Nat.reduceEqDiff, Nat.reduceAdd, Nat.reduceMul, Nat.reduceLeDiff, Nat.reduceSub, Int.reduceToNat, Int.reduceNeg, Nat.reduceBEq, hkb, TY] at hx
      subst hx
      refine ⟨_, _, rfl, by first | trivial | omega | (simp only [and_true, true_and]; omega), ?_⟩
      refine at_cond (fun _ => ?_) (fun h => nomatch h)
      refine JS_go (tbOk _) 99 fun x hx => ?_
      simp only [RN, ↓reduceIte, ↓get8, reduceCtorEq, Nat.reduceLT, Nat.reduceEqDiff, Nat.reduceAdd, Nat.reduceMul, Nat.reduceLeDiff, Nat.reduceSub, Int.reduceToNat, Int.reduceNeg, Nat.reduceBEq, TY] at hx
      subst hx
      refine ⟨_, _, rfl, by first | trivial | omega | (simp only [and_true, true_and]; omega), ?_⟩
      refine at_ret (in_retI ?_)
      refine ret_endK (by simp only [RN, ↓reduceIte, ↓get8, reduceCtorEq, Nat.reduceLT, Nat.reduceEqDiff, Nat.reduceAdd, Nat.reduceMul, Nat.reduceLeDiff, Nat.reduceSub, Int.reduceToNat, Int.reduceNeg, Nat.reduceBEq]; rfl) rfl trivial ⟨T0, ?_, ?_, rfl, by show nx ≤ n; omega⟩
      · intro id b h
        obtain ⟨i1, i2⟩ := t5 id b h
        have i3 : ¬ id = m := by have := i2 (m - nx); omega
        simp only [RN, ↓reduceIte, ↓get8, reduceCtorEq, Nat.reduceLT, Nat.reduceEqDiff, Nat.reduceAdd, Nat.reduceMul, Nat.reduceLeDiff, Nat.reduceSub, Int.reduceToNat, Int.reduceNeg, Nat.reduceBEq, i1, i2, i3, h]
      · have hf : ks.findIdx? (fun k => !kindB k ws.length) = some j := by
          rw [List.findIdx?_eq_some_iff_getElem]
          refine ⟨hlt3, by simp [hkb], fun i hi => ?_⟩
          rw [List.findIdx?_eq_none_iff] at hall
          have := hall (ks[i]) (List.mem_take_iff_getElem.2 ⟨i, by omega, rfl⟩)
          simpa using this
        unfold checkB; simp only [h0, h1, hf]; rfl
  · have hj2 : j = ks.length := by simp at hge; omega
    subst hj2
    rw [List.take_length] at hall
    refine JS_go (tbOk _) 99 fun x hx => ?_
    simp only [RN, ↓reduceIte, ↓get8, reduceCtorEq, Nat.reduceLT, Nat.reduceEqDiff, Nat.reduceAdd, Nat.reduceMul, Nat.reduceLeDiff, Nat.reduceSub, Int.reduceToNat, Int.reduceNeg, Nat.reduceBEq, TY] at hx
    subst hx
    refine ⟨_, _, rfl, by first | trivial | omega | (simp only [and_true, true_and]; omega), ?_⟩
    refine at_exit (in_exitI (by simp only [RN, ↓reduceIte, ↓get8, reduceCtorEq, Nat.reduceLT, Nat.reduceEqDiff, Nat.reduceAdd, Nat.reduceMul, Nat.reduceLeDiff, Nat.reduceSub, Int.reduceToNat, Int.reduceNeg, Nat.reduceBEq]; rfl) ?_)
    refine JS_go (tbOk _) 99 fun x hx => ?_
    simp only [RN, ↓reduceIte, ↓get8, reduceCtorEq, Nat.reduceLT, Nat.reduceEqDiff, Nat.reduceAdd, Nat.reduceMul, Nat.reduceLeDiff, Nat.reduceSub, Int.reduceToNat, Int.reduceNeg, Nat.reduceBEq, TY, ↓l2] at hx
    subst hx
    refine ⟨_, _, rfl, by first | trivial | omega | (simp only [and_true, true_and]; omega), ?_⟩
    refine at_loop ?_
    refine JS_loopI (S := fun x : Nat × Nat => { n := 53, fr := [(39, Value.int IntKind.i64 x.1), (38, Value.int IntKind.i64 ws.length), (37, slv ow ws.length wc), (1, .pointer (some ⟨nx, 0, none⟩))], F := (nx, ⟨[slv ok ks.length kc, slv ow ws.length wc], 26, 2, false, false⟩) :: T0, nx := x.2, ds := [] })
      (fun p => p.1 ≤ ws.length ∧ nx + 2 ≤ p.2 ∧ (ws.take p.1).findIdx? (fun k => !weaponB k) = none) (fun x => ws.length - x.1) (0, m) ⟨Nat.zero_le _, hm, rfl⟩ ?_ ?_
    · refine ⟨rfl, leL_look (by simp only [RN, ↓reduceIte, ↓get8, reduceCtorEq, Nat.reduceLT, Nat.reduceEqDiff, Nat.reduceAdd, Nat.reduceMul, Nat.reduceLeDiff, Nat.reduceSub, Int.reduceToNat, Int.reduceNeg, Nat.reduceBEq]; first | done | trivial), ?_, Nat.le_refl _, rfl⟩
      exact fun id b h => h
    rintro ⟨j, n⟩ ⟨hj2, hn, hallw⟩
    dsimp only at hj2 hn hallw ⊢
    refine JS_go (tbOk _) 99 fun x hx => ?_
    simp only [RN, ↓reduceIte, ↓get8, reduceCtorEq, Nat.reduceLT, Nat.reduceEqDiff, Nat.reduceAdd, Nat.reduceMul, Nat.reduceLeDiff, Nat.reduceSub, Int.reduceToNat, Int.reduceNeg, Nat.reduceBEq, TY] at hx
    subst hx
    refine ⟨_, _, rfl, by first | trivial | omega | (simp only [and_true, true_and]; omega), ?_⟩
    refine at_cond (fun hlt2 => ?_) (fun hge => ?_)
    · have hlt3 : j < ws.length := by simpa using hlt2
      obtain ⟨b, hb⟩ : ∃ b, ow = some b := by
        cases ow with
        | none => rw [hw rfl] at hlt3; exact absurd hlt3 (by simp)
        | some b => exact ⟨b, rfl⟩
      have hbn := hwn b hb
      have lb := t3 b hb
      have hs : slv ow ws.length wc = .slice (some ⟨b, 0, none⟩) ws.length wc := by rw [hb]; rfl
      have g0 : ¬ b = nx := by omega
      have g1 : ¬ b = n := by omega
      have g2 : ∀ i, ¬ b = n + i := by intro i; omega
      have g3 : ¬ nx = n := by omega
      have g4 : ∀ i, ¬ nx = n + i := by intro i; omega
      have g5 : ¬ n = nx := by omega
      have g6 : ¬ n = b := by omega
      have kg := wcells_get (ws := ws ++ wx) (j := j) (by simp; omega)
      rw [List.getElem_append_left hlt3] at kg
      have kl := wcells_len (ws ++ wx)
      rw [List.length_append] at kl
      have hK := weapon_c ws[j] (n + 1)
      refine JS_go (tbOk _) 99 fun x hx => ?_
      simp only [RN, ↓reduceIte, ↓get8, reduceCtorEq, Nat.reduceLT, Nat.reduceEqDiff, Nat.reduceAdd, Nat.reduceMul, Nat.reduceLeDiff, Nat.reduceSub, Int.reduceToNat, Int.reduceNeg, Nat.reduceBEq, TY, hs, lb, kg, kl, Wp.cells, g0, g1, g2, g3, g4, g5, g6, Nat.add_assoc, Nat.left_eq_add, Nat.add_eq_left, Nat.add_left_cancel_iff] at hx
      subst hx
      refine ⟨_, _, rfl, by first | trivial | omega | (simp only [and_true, true_and]; omega), ?_⟩
      refine at_callG hK (by simp only [RN, ↓reduceIte, ↓get8, reduceCtorEq, Nat.reduceLT, Nat.reduceEqDiff, Nat.reduceAdd, Nat.reduceMul, Nat.reduceLeDiff, Nat.reduceSub, Int.reduceToNat, Int.reduceNeg, Nat.reduceBEq]; first | done | trivial) ?_
      rintro o L' n2 ⟨rfl, rfl, hn2⟩
      refine ⟨_, by simp only [RN, ↓reduceIte, ↓get8, reduceCtorEq, Nat.reduceLT, Nat.reduceEqDiff, Nat.reduceAdd, Nat.reduceMul, Nat.reduceLeDiff, Nat.reduceSub, Int.reduceToNat, Int.reduceNeg, Nat.reduceBEq]; rfl, ?_⟩
      cases hkb : weaponB ws[j]
      case true =>
        skip
        refine JS_go (tbOk _) 99 fun x hx => ?_
        simp only [RN, ↓reduceIte, ↓get8, reduceCtorEq, Nat.reduceLT, Nat.reduceEqDiff, Nat.reduceAdd, Nat.reduceMul, Nat.reduceLeDiff, Nat.reduceSub, Int.reduceToNat, Int.reduceNeg, Nat.reduceBEq, hkb, TY] at hx
        subst hx
        refine ⟨_, _, rfl, by first | trivial | omega | (simp only [and_true, true_and]; omega), ?_⟩
        refine at_cond (fun h => nomatch h) (fun _ => ?_)
        have hw3 : IntKind.i64.wrap ((j : Int) + 1) = ((j + 1 : Nat) : Int) := wrap_i64 (j + 1) (by omega)
        refine JS_go (tbOk _) 99 fun x hx => ?_
        simp only [RN, ↓reduceIte, ↓get8, reduceCtorEq, Nat.reduceLT, Nat.reduceEqDiff, Nat.reduceAdd, Nat.reduceMul, Nat.reduceLeDiff, Nat.reduceSub, Int.reduceToNat, Int.reduceNeg, Nat.reduceBEq, TY, hw3] at hx
        subst hx
        refine ⟨_, _, rfl, by first | trivial | omega | (simp only [and_true, true_and]; omega), ?_⟩
        refine at_done (in_nextI (j + 1, n2) ⟨hlt3, by show nx + 2 ≤ n2; omega, ?_⟩ (by show ws.length - (j + 1) < ws.length - j; omega) ?_)
        · rw [List.take_succ_eq_append_getElem hlt3, List.findIdx?_append, hallw]; simp [hkb]
        · refine ⟨rfl, leL_look (by simp only [RN, ↓reduceIte, ↓get8, reduceCtorEq, Nat.reduceLT, Nat.reduceEqDiff, Nat.reduceAdd, Nat.reduceMul, Nat.reduceLeDiff, Nat.reduceSub, Int.reduceToNat, Int.reduceNeg, Nat.reduceBEq, hs]; first | done | trivial), ?_, Nat.le_refl _, rfl⟩
          intro id b h
          dsimp only at h ⊢
          rw [look_cons] at h
          split at h
          · rename_i e; subst e; rw [← h]; simp only [RN, ↓reduceIte, ↓get8, reduceCtorEq, Nat.reduceLT, Nat.reduceEqDiff, Nat.reduceAdd, Nat.reduceMul, Nat.reduceLeDiff, Nat.reduceSub, Int.reduceToNat, Int.reduceNeg, Nat.reduceBEq, hs, g3, g4]
          · obtain ⟨i1, i2⟩ := t5 id b h
            have i3 : ¬ id = n := by have := i2 (n - nx); omega
            simp only [RN, ↓reduceIte, ↓get8, reduceCtorEq, Nat.reduceLT, Nat.reduceEqDiff, Nat.reduceAdd, Nat.reduceMul, Nat.reduceLeDiff, Nat.reduceSub, Int.reduceToNat, Int.reduceNeg, Nat.reduceBEq, i1, i2, i3, h]
      case false =>
        skip
        have hwj : IntKind.i64.wrap ((ks.length : Int) + (j : Int)) = ((ks.length + j : Nat) : Int) := wrap_i64 (ks.length + j) (by omega)
        refine JS_go (tbOk _) 99 fun x hx => ?_
        simp only [RN, ↓reduceIte, ↓get8, reduceCtorEq, Nat.reduceLT, Nat.reduceEqDiff, Nat.reduceAdd, Nat.reduceMul, Nat.reduceLeDiff, Nat.reduceSub, Int.reduceToNat, Int.reduceNeg, Nat.reduceBEq, hkb, TY] at hx
        subst hx
        refine ⟨_, _, rfl, by first | trivial | omega | (simp only [and_true, true_and]; omega), ?_⟩
        refine at_cond (fun _ => ?_) (fun h => nomatch h)
        refine JS_go (tbOk _) 99 fun x hx => ?_
        simp only [RN, ↓reduceIte, ↓get8, reduceCtorEq, Nat.reduceLT, Nat.reduceEqDiff, Nat.reduceAdd, Nat.reduceMul, Nat.reduceLeDiff, Nat.reduceSub, Int.reduceToNat, Int.reduceNeg, Nat.reduceBEq, TY] at hx
        subst hx
        refine ⟨_, _, rfl, by first | trivial | omega | (simp only [and_true, true_and]; omega), ?_⟩
        rw [CRJ]
        refine JS_draw (tbOk _) { wr := [(47, 0), (48, 1), (49, 2), (50, 3), (51, 4), (2, 5), (3, 6)], anc := [[], [0], [0, 1], [], [0, 1, 2, 3], [], [0, 1, 2, 3, 4, 5]], ch := [], ac := [[0, 1, 2, 3, 4, 5, 6]], nw := [[0, 1, 2, 3, 4, 5, 6]], fl := [[]] } (by kernel_rfl) (by kernel_rfl) (by kernel_rfl) (by kernel_rfl) ?_
        refine JS_go (tbOk _) 99 fun x hx => ?_
        simp only [RN, ↓reduceIte, ↓get8, reduceCtorEq, Nat.reduceLT, Nat.reduceEqDiff, Nat.reduceAdd, Nat.reduceMul, Nat.reduceLeDiff, Nat.reduceSub, Int.reduceToNat, Int.reduceNeg, Nat.reduceBEq, TY, ↓l1, hwj, g3, g4, g5, g6, Nat.add_assoc, Nat.left_eq_add, Nat.add_eq_left, Nat.add_left_cancel_iff] at hx
        subst hx
        refine ⟨_, _, rfl, by first | trivial | omega | (simp only [and_true, true_and]; omega), ?_⟩
        refine at_ret (in_retI ?_)
        refine ret_endK (by simp only [RN, ↓reduceIte, ↓get8, reduceCtorEq, Nat.reduceLT, Nat.reduceEqDiff, Nat.reduceAdd, Nat.reduceMul, Nat.reduceLeDiff, Nat.reduceSub, Int.reduceToNat, Int.reduceNeg, Nat.reduceBEq]; rfl) rfl trivial ⟨T0, ?_, ?_, rfl, by show nx ≤ n2; omega⟩
        · intro id b h
          obtain ⟨i1, i2⟩ := t5 id b h
          have i3 : ¬ id = n := by have := i2 (n - nx); omega
          simp only [RN, ↓reduceIte, ↓get8, reduceCtorEq, Nat.reduceLT, Nat.reduceEqDiff, Nat.reduceAdd, Nat.reduceMul, Nat.reduceLeDiff, Nat.reduceSub, Int.reduceToNat, Int.reduceNeg, Nat.reduceBEq, i1, i2, i3, h]
        · have hf : ws.findIdx? (fun k => !weaponB k) = some j := by
            rw [List.findIdx?_eq_some_iff_getElem]
            refine ⟨hlt3, by simp [hkb], fun i hi => ?_⟩
            rw [List.findIdx?_eq_none_iff] at hallw
            have := hallw (ws[i]) (List.mem_take_iff_getElem.2 ⟨i, by omega, rfl⟩)
            simpa using this
          unfold checkB; simp only [h0, h1, hall, hf]; rfl
    · have hj3 : j = ws.length := by simp at hge; omega
      subst hj3
      rw [List.take_length] at hallw
      refine JS_go (tbOk _) 99 fun x hx => ?_
      simp only [RN, ↓reduceIte, ↓get8, reduceCtorEq, Nat.reduceLT, Nat.reduceEqDiff, Nat.reduceAdd, Nat.reduceMul, Nat.reduceLeDiff, Nat.reduceSub, Int.reduceToNat, Int.reduceNeg, Nat.reduceBEq, TY] at hx
      subst hx
      refine ⟨_, _, rfl, by first | trivial | omega | (simp only [and_true, true_and]; omega), ?_⟩
      refine at_exit (in_exitI (by simp only [RN, ↓reduceIte, ↓get8, reduceCtorEq, Nat.reduceLT, Nat.reduceEqDiff, Nat.reduceAdd, Nat.reduceMul, Nat.reduceLeDiff, Nat.reduceSub, Int.reduceToNat, Int.reduceNeg, Nat.reduceBEq]; rfl) ?_)
      refine JS_go (tbOk _) 99 fun x hx => ?_
      simp only [RN, ↓reduceIte, ↓get8, reduceCtorEq, Nat.reduceLT, Nat.reduceEqDiff, Nat.reduceAdd, Nat.reduceMul, Nat.reduceLeDiff, Nat.reduceSub, Int.reduceToNat, Int.reduceNeg, Nat.reduceBEq, TY] at hx
      subst hx
      refine ⟨_, _, rfl, by first | trivial | omega | (simp only [and_true, true_and]; omega), ?_⟩
      refine at_ret ?_
      refine ret_endK (by simp only [RN, ↓reduceIte, ↓get8, reduceCtorEq, Nat.reduceLT, Nat.reduceEqDiff, Nat.reduceAdd, Nat.reduceMul, Nat.reduceLeDiff, Nat.reduceSub, Int.reduceToNat, Int.reduceNeg, Nat.reduceBEq]; rfl) rfl trivial ⟨T0, ?_, ?_, rfl, by show nx ≤ n; omega⟩
      · intro id b h
        obtain ⟨i1, i2⟩ := t5 id b h
        simp only [RN, ↓reduceIte, ↓get8, reduceCtorEq, Nat.reduceLT, Nat.reduceEqDiff, Nat.reduceAdd, Nat.reduceMul, Nat.reduceLeDiff, Nat.reduceSub, Int.reduceToNat, Int.reduceNeg, Nat.reduceBEq, i1, i2, h]
      · unfold checkB; simp only [h0, h1, hall, hallw]; rfl
end Go.Proofs.Ytoihmanhldcjhaa.Id
namespace Go.Proofs.Ytoihmanhldcjhaa.Id
open Go Go.Proofs.Ytoihmanhldcjhaa.Rl
set_option linter.unusedSimpArgs false
set_option linter.unusedVariables false
def wsl : Option Nat → Nat → Value
  | none, _ => .slice none 0 0
  | some b, n => .slice (some ⟨b, 0, none⟩) n n
def wblk : Option Nat → List UInt8 → Hp
  | none, _ => []
  | some b, bs => [(b, ⟨bys bs, 5, 1, false, true⟩)]
def wrH (W : Nat) (o : Option Nat) (bs : List UInt8) : Hp := (W, ⟨[wsl o bs.length], 53, 1, false, false⟩) :: wblk o bs
def wok (W : Nat) (o : Option Nat) (bs : List UInt8) (n : Nat) : Prop := W < n ∧ (o = none → bs = []) ∧ ∀ b, o = some b → W < b ∧ b < n
def toB (v : Int) : UInt8 := UInt8.ofNat (v % 256).toNat
theorem toB_wrap (v : Int) : IntKind.u8.wrap v = ((toB v).toNat : Int) := by
  simp [IntKind.wrap, IntKind.bits, IntKind.signed, toB]
  omega
theorem bys_snoc (bs : List UInt8) (b : UInt8) : bys bs ++ [Value.int .u8 b.toNat] = bys (bs ++ [b]) := by simp [bys]
theorem bys_len (bs : List UInt8) : (bys bs).length = bs.length := by simp [bys]
set_option maxRecDepth 100000 in
theorem ones_c (W : Nat) (o : Option Nat) (bs : List UInt8) (l : List Int) (Lb : Nat) (nx : Nat) (ro loose : Bool) (e : TypeId) (hok : wok W o bs nx) (hLW : ¬ Lb = W) (hLo : ∀ b, o = some b → ¬ Lb = b) (hLn : Lb < nx) (hl : l.length ≤ 1000) (hb : bs.length ≤ 100000) :
    CallW Try.prog 24 [.pointer (some ⟨W, 0, none⟩), .slice (some ⟨Lb, 0, none⟩) l.length l.length] (wrH W o bs ++ [(Lb, ⟨ints l, e, 1, ro, loose⟩)]) nx
      fun r F' nx' => r = .ret (.tuple #[]) ∧ ∃ o2, F' = wrH W o2 (bs ++ l.map toB) ∧ nx ≤ nx' ∧ wok W o2 (bs ++ l.map toB) nx' ∧ ∀ b, o2 = some b → o = some b ∨ nx ≤ b := by
  refine CallW_go (tbOk _) 22 [] Try.func24 rfl (by decide) rfl rfl (by simp) fun hlt => ?_
  simp only [params, Nat.zero_add, Nat.reduceAdd]
  refine JS_go (tbOk _) 99 fun x hx => ?_
  simp only [RN, ↓reduceIte, ↓get8, reduceCtorEq, Nat.reduceLT, Nat.reduceEqDiff, Nat.reduceAdd, Nat.reduceMul, Nat.reduceLeDiff, Nat.reduceSub, Int.reduceToNat, Int.reduceNeg, Nat.reduceBEq, TY] at hx
  subst hx
  refine ⟨_, _, rfl, by first | trivial | omega | (simp only [and_true, true_and]; omega), ?_⟩
  refine at_loop ?_
  refine JS_loopI (S := fun x : Nat × Option Nat × Nat => { n := 22, fr := [(8, Value.int IntKind.i64 x.1), (7, Value.int IntKind.i64 l.length), (6, Value.slice (some { block := Lb, off := 0 }) l.length l.length), (0, .pointer (some ⟨W, 0, none⟩))], F := (W, ⟨[wsl x.2.1 (bs ++ (l.take x.1).map toB).length], 53, 1, false, false⟩) :: (Lb, ⟨ints l, e, 1, ro, loose⟩) :: wblk x.2.1 (bs ++ (l.take x.1).map toB), nx := x.2.2, ds := [] })
    (fun p => p.1 ≤ l.length ∧ nx ≤ p.2.2 ∧ wok W p.2.1 (bs ++ (l.take p.1).map toB) p.2.2 ∧ (∀ b, p.2.1 = some b → ¬ Lb = b) ∧ ∀ b, p.2.1 = some b → o = some b ∨ nx ≤ b) (fun x => l.length - x.1) (0, o, nx) ⟨Nat.zero_le _, Nat.le_refl _, by simpa using hok, hLo, fun b h => .inl h⟩ ?_ ?_
  · refine le_of rfl (by simp only [RN, ↓reduceIte, ↓get8, reduceCtorEq, Nat.reduceLT, Nat.reduceEqDiff, Nat.reduceAdd, Nat.reduceMul, Nat.reduceLeDiff, Nat.reduceSub, Int.reduceToNat, Int.reduceNeg, Nat.reduceBEq]; first | done | trivial) ?_ (Nat.le_refl _) rfl
    unfold wrH
    cases o with
    | none => simp only [RN, ↓reduceIte, ↓get8, reduceCtorEq, Nat.reduceLT, Nat.reduceEqDiff, Nat.reduceAdd, Nat.reduceMul, Nat.reduceLeDiff, Nat.reduceSub, Int.reduceToNat, Int.reduceNeg, Nat.reduceBEq, wblk, hLW, List.map_nil, List.take_zero]; first | done | trivial
    | some b =>
      have h1 : ¬ Lb = b := hLo b rfl
      have h2 : ¬ b = W := fun e => absurd (hok.2.2 b rfl).1 (by omega)
      have h3 : ¬ b = Lb := fun e => h1 e.symm
      simp only [RN, ↓reduceIte, ↓get8, reduceCtorEq, Nat.reduceLT, Nat.reduceEqDiff, Nat.reduceAdd, Nat.reduceMul, Nat.reduceLeDiff, Nat.reduceSub, Int.reduceToNat, Int.reduceNeg, Nat.reduceBEq, wblk, hLW, h1, h2, h3, List.map_nil, List.take_zero]; first | done | trivial
  rintro ⟨j, o, n⟩ ⟨hj, hn, ⟨hWn, hno, hso⟩, hLo, hfr⟩
  dsimp only at hj hn hWn hno hso hLo hfr ⊢
  obtain ⟨B, hB⟩ : ∃ B, bs ++ (l.take j).map toB = B := ⟨_, rfl⟩
  rw [hB] at hno ⊢
  have hBl : B.length ≤ 101000 := by rw [← hB]; simp; omega
  refine JS_go (tbOk _) 99 fun x hx => ?_
  simp only [RN, ↓reduceIte, ↓get8, reduceCtorEq, Nat.reduceLT, Nat.reduceEqDiff, Nat.reduceAdd, Nat.reduceMul, Nat.reduceLeDiff, Nat.reduceSub, Int.reduceToNat, Int.reduceNeg, Nat.reduceBEq, TY] at hx
  subst hx
  refine ⟨_, _, rfl, by first | trivial | omega | (simp only [and_true, true_and]; omega), ?_⟩
  refine at_cond (fun hlt2 => ?_) (fun hge => ?_)
  · have hlt3 : j < l.length := by simpa using hlt2
    have hg := ints_get hlt3
    have hwb := toB_wrap l[j]
    have hW0 : ¬ W = n := by omega
    have hW1 : ∀ i, ¬ W = n + i := by intro i; omega
    have hL0 : ¬ Lb = n := by omega
    have hL1 : ∀ i, ¬ Lb = n + i := by intro i; omega
    have hW2 : ¬ n = W := by omega
    have hW3 : ∀ i, ¬ n + i = W := by intro i; omega
    have hL2 : ¬ n = Lb := by omega
    have hL3 : ∀ i, ¬ n + i = Lb := by intro i; omega
    have hWL : ¬ W = Lb := fun e => hLW e.symm
    have hT : bs ++ (l.take (j + 1)).map toB = B ++ [toB l[j]] := by rw [← hB, List.take_succ_eq_append_getElem hlt3, List.map_append, ← List.append_assoc]; rfl
    have hw3 : IntKind.i64.wrap ((j : Int) + 1) = ((j + 1 : Nat) : Int) := wrap_i64 (j + 1) (by omega)
    cases o with
    | none =>
      have hB0 := hno rfl
      subst hB0
      simp only [wsl, wblk]
      refine JS_go (tbOk _) 99 fun x hx => ?_
      simp only [RN, ↓reduceIte, ↓get8, reduceCtorEq, Nat.reduceLT, Nat.reduceEqDiff, Nat.reduceAdd, Nat.reduceMul, Nat.reduceLeDiff, Nat.reduceSub, Int.reduceToNat, Int.reduceNeg, Nat.reduceBEq, TY, hg, hwb, hw3, hW0, hW1, hL0, hL1, hW2, hW3, hL2, hL3, hWL, hLW, Nat.add_assoc, Nat.left_eq_add, Nat.add_eq_left, Nat.add_left_cancel_iff] at hx
      subst hx
      refine ⟨_, _, rfl, by first | trivial | omega | (simp only [and_true, true_and]; omega), ?_⟩
      refine at_done (in_nextI (j + 1, some (n + 1), n + 2) ⟨hlt3, by show nx ≤ n + 2; omega, ⟨by show W < n + 2; omega, nofun, ?_⟩, ?_, fun b hb => .inr (by cases hb; omega)⟩ (by show l.length - (j + 1) < l.length - j; omega) ?_)
      · intro b hb; cases hb; exact ⟨by omega, by show n + 1 < n + 2; omega⟩
      · intro b hb; cases hb; exact hL1 1
      · dsimp only
        rw [hT]
        simp only [wsl, wblk, bys]
        refine le_of rfl (by simp only [RN, ↓reduceIte, ↓get8, reduceCtorEq, Nat.reduceLT, Nat.reduceEqDiff, Nat.reduceAdd, Nat.reduceMul, Nat.reduceLeDiff, Nat.reduceSub, Int.reduceToNat, Int.reduceNeg, Nat.reduceBEq]; first | done | trivial) (by simp only [RN, ↓reduceIte, ↓get8, reduceCtorEq, Nat.reduceLT, Nat.reduceEqDiff, Nat.reduceAdd, Nat.reduceMul, Nat.reduceLeDiff, Nat.reduceSub, Int.reduceToNat, Int.reduceNeg, Nat.reduceBEq, hW0, hW1, hL0, hL1, hW2, hW3, hL2, hL3, hWL, hLW, Nat.add_assoc, Nat.left_eq_add, Nat.add_eq_left, Nat.add_left_cancel_iff]; first | done | trivial) (Nat.le_refl _) rfl
    | some b =>
      have hbW : ¬ b = W := fun e => absurd (hso b rfl).1 (by omega)
      have hbn : b < n := (hso b rfl).2
      have hLb : ¬ Lb = b := hLo b rfl
      have q1 : ¬ W = b := fun e => hbW e.symm
      have q2 : ¬ b = Lb := fun e => hLb e.symm
      have q3 : ¬ b = n := by omega
      have q4 : ∀ i, ¬ b = n + i := by intro i; omega
      have q5 : ¬ n = b := by omega
      have q6 : ∀ i, ¬ n + i = b := by intro i; omega
      have hsn := bys_snoc B (toB l[j])
      have hlen := bys_len B
      have hle : ¬ (B.length + 1 ≤ B.length) := by omega
      simp only [wsl, wblk]
      refine JS_go (tbOk _) 99 fun x hx => ?_
      simp only [RN, ↓reduceIte, ↓get8, reduceCtorEq, Nat.reduceLT, Nat.reduceEqDiff, Nat.reduceAdd, Nat.reduceMul, Nat.reduceLeDiff, Nat.reduceSub, Int.reduceToNat, Int.reduceNeg, Nat.reduceBEq, TY, hsn, hlen, hle, q1, q2, q3, q4, q5, q6, hbW, hLb, hg, hwb, hw3, hW0, hW1, hL0, hL1, hW2, hW3, hL2, hL3, hWL, hLW, Nat.add_assoc, Nat.left_eq_add, Nat.add_eq_left, Nat.add_left_cancel_iff] at hx
      subst hx
      refine ⟨_, _, rfl, by first | trivial | omega | (simp only [and_true, true_and]; omega), ?_⟩
      refine at_done (in_nextI (j + 1, some (n + 1), n + 2) ⟨hlt3, by show nx ≤ n + 2; omega, ⟨by show W < n + 2; omega, nofun, ?_⟩, ?_, fun b hb => .inr (by cases hb; omega)⟩ (by show l.length - (j + 1) < l.length - j; omega) ?_)
      · intro b hb; cases hb; exact ⟨by omega, by show n + 1 < n + 2; omega⟩
      · intro b hb; cases hb; exact hL1 1
      · dsimp only
        rw [hT]
        simp only [wsl, wblk, List.length_append, List.length_cons, List.length_nil]
        refine le_of rfl (by simp only [RN, ↓reduceIte, ↓get8, reduceCtorEq, Nat.reduceLT, Nat.reduceEqDiff, Nat.reduceAdd, Nat.reduceMul, Nat.reduceLeDiff, Nat.reduceSub, Int.reduceToNat, Int.reduceNeg, Nat.reduceBEq]; first | done | trivial) (by simp only [RN, ↓reduceIte, ↓get8, reduceCtorEq, Nat.reduceLT, Nat.reduceEqDiff, Nat.reduceAdd, Nat.reduceMul, Nat.reduceLeDiff, Nat.reduceSub, Int.reduceToNat, Int.reduceNeg, Nat.reduceBEq, q1, q2, q3, q4, q5, q6, hbW, hLb, hW0, hW1, hL0, hL1, hW2, hW3, hL2, hL3, hWL, hLW, Nat.add_assoc, Nat.left_eq_add, Nat.add_eq_left, Nat.add_left_cancel_iff]; first | done | trivial) (Nat.le_refl _) rfl
  · have hj2 : j = l.length := by simp at hge; omega
    subst hj2
    refine JS_go (tbOk _) 99 fun x hx => ?_
    simp only [RN, ↓reduceIte, ↓get8, reduceCtorEq, Nat.reduceLT, Nat.reduceEqDiff, Nat.reduceAdd, Nat.reduceMul, Nat.reduceLeDiff, Nat.reduceSub, Int.reduceToNat, Int.reduceNeg, Nat.reduceBEq, TY] at hx
    subst hx
    refine ⟨_, _, rfl, by first | trivial | omega | (simp only [and_true, true_and]; omega), ?_⟩
    refine at_exit (in_exitI (by simp only [RN, ↓reduceIte, ↓get8, reduceCtorEq, Nat.reduceLT, Nat.reduceEqDiff, Nat.reduceAdd, Nat.reduceMul, Nat.reduceLeDiff, Nat.reduceSub, Int.reduceToNat, Int.reduceNeg, Nat.reduceBEq]; rfl) ?_)
    refine JS_go (tbOk _) 99 fun x hx => ?_
    simp only [RN, ↓reduceIte, ↓get8, reduceCtorEq, Nat.reduceLT, Nat.reduceEqDiff, Nat.reduceAdd, Nat.reduceMul, Nat.reduceLeDiff, Nat.reduceSub, Int.reduceToNat, Int.reduceNeg, Nat.reduceBEq, TY] at hx
    subst hx
    refine ⟨_, _, rfl, by first | trivial | omega | (simp only [and_true, true_and]; omega), ?_⟩
    rw [List.take_length] at hB
    refine at_done ?_
    refine nrm_endK (by simp only [RN, ↓reduceIte, ↓get8, reduceCtorEq, Nat.reduceLT, Nat.reduceEqDiff, Nat.reduceAdd, Nat.reduceMul, Nat.reduceLeDiff, Nat.reduceSub, Int.reduceToNat, Int.reduceNeg, Nat.reduceBEq]; rfl) rfl trivial ?_
    rw [hB]
    refine ⟨wrH W o B, ?_, rfl, o, rfl, hn, ⟨hWn, hno, hso⟩, hfr⟩
    unfold wrH
    cases o with
    | none => exact leL_look (by simp only [RN, ↓reduceIte, ↓get8, reduceCtorEq, Nat.reduceLT, Nat.reduceEqDiff, Nat.reduceAdd, Nat.reduceMul, Nat.reduceLeDiff, Nat.reduceSub, Int.reduceToNat, Int.reduceNeg, Nat.reduceBEq, wblk]; first | done | trivial)
    | some b =>
      have hbW : ¬ b = W := fun e => absurd (hso b rfl).1 (by omega)
      have hLb : ¬ Lb = b := hLo b rfl
      have q2 : ¬ b = Lb := fun e => hLb e.symm
      exact leL_look (by simp only [RN, ↓reduceIte, ↓get8, reduceCtorEq, Nat.reduceLT, Nat.reduceEqDiff, Nat.reduceAdd, Nat.reduceMul, Nat.reduceLeDiff, Nat.reduceSub, Int.reduceToNat, Int.reduceNeg, Nat.reduceBEq, wblk, hbW, q2]; first | done | trivial)
end Go.Proofs.Ytoihmanhldcjhaa.Id
namespace Go.Proofs.Ytoihmanhldcjhaa.Id
open Go Go.Proofs.Ytoihmanhldcjhaa.Rl
set_option linter.unusedSimpArgs false
set_option linter.unusedVariables false
def two (v : Int) : List UInt8 := [toB v, toB (v.fdiv 256)]
theorem two_len (v : Int) : (two v).length = 2 := rfl
theorem twos_len (l : List Int) : (l.flatMap two).length = 2 * l.length := by
  induction l with
  | nil => rfl
  | cons x l ih => rw [List.flatMap_cons, List.length_append, ih, two_len, List.length_cons]; omega
theorem bys_two (bs : List UInt8) (v : Int) : bys bs ++ [Value.int .u8 (toB v).toNat, Value.int .u8 (toB (v.fdiv 256)).toNat] = bys (bs ++ two v) := by simp [bys, two]
set_option maxRecDepth 100000 in
theorem twos_c (W : Nat) (o : Option Nat) (bs : List UInt8) (l : List Int) (Lb : Nat) (nx : Nat) (ro loose : Bool) (e : TypeId) (hok : wok W o bs nx) (hLW : ¬ Lb = W) (hLo : ∀ b, o = some b → ¬ Lb = b) (hLn : Lb < nx) (hl : l.length ≤ 1000) (hb : bs.length ≤ 100000) :
    CallW Try.prog 25 [.pointer (some ⟨W, 0, none⟩), .slice (some ⟨Lb, 0, none⟩) l.length l.length] (wrH W o bs ++ [(Lb, ⟨ints l, e, 1, ro, loose⟩)]) nx
      fun r F' nx' => r = .ret (.tuple #[]) ∧ ∃ o2, F' = wrH W o2 (bs ++ l.flatMap two) ∧ nx ≤ nx' ∧ wok W o2 (bs ++ l.flatMap two) nx' ∧ ∀ b, o2 = some b → o = some b ∨ nx ≤ b := by
  refine CallW_go (tbOk _) 25 [] Try.func25 rfl (by decide) rfl rfl (by simp) fun hlt => ?_
  simp only [params, Nat.zero_add, Nat.reduceAdd]
  refine JS_go (tbOk _) 99 fun x hx => ?_
  simp only [RN, ↓reduceIte, ↓get8, reduceCtorEq, Nat.reduceLT, Nat.reduceEqDiff, Nat.reduceAdd, Nat.reduceMul, Nat.reduceLeDiff, Nat.reduceSub, Int.reduceToNat, Int.reduceNeg, Nat.reduceBEq, TY] at hx
  subst hx
  refine ⟨_, _, rfl, by first | trivial | omega | (simp only [and_true, true_and]; omega), ?_⟩
  refine at_loop ?_
  refine JS_loopI (S := fun x : Nat × Option Nat × Nat => { n := 25, fr := [(8, Value.int IntKind.i64 x.1), (7, Value.int IntKind.i64 l.length), (6, Value.slice (some { block := Lb, off := 0 }) l.length l.length), (0, .pointer (some ⟨W, 0, none⟩))], F := (W, ⟨[wsl x.2.1 (bs ++ (l.take x.1).flatMap two).length], 53, 1, false, false⟩) :: (Lb, ⟨ints l, e, 1, ro, loose⟩) :: wblk x.2.1 (bs ++ (l.take x.1).flatMap two), nx := x.2.2, ds := [] })
    (fun p => p.1 ≤ l.length ∧ nx ≤ p.2.2 ∧ wok W p.2.1 (bs ++ (l.take p.1).flatMap two) p.2.2 ∧ (∀ b, p.2.1 = some b → ¬ Lb = b) ∧ ∀ b, p.2.1 = some b → o = some b ∨ nx ≤ b) (fun x => l.length - x.1) (0, o, nx) ⟨Nat.zero_le _, Nat.le_refl _, by simpa using hok, hLo, fun b h => .inl h⟩ ?_ ?_
  · refine le_of rfl (by simp only [RN, ↓reduceIte, ↓get8, reduceCtorEq, Nat.reduceLT, Nat.reduceEqDiff, Nat.reduceAdd, Nat.reduceMul, Nat.reduceLeDiff, Nat.reduceSub, Int.reduceToNat, Int.reduceNeg, Nat.reduceBEq]; first | done | trivial) ?_ (Nat.le_refl _) rfl
    unfold wrH
    cases o with
    | none => simp only [RN, ↓reduceIte, ↓get8, reduceCtorEq, Nat.reduceLT, Nat.reduceEqDiff, Nat.reduceAdd, Nat.reduceMul, Nat.reduceLeDiff, Nat.reduceSub, Int.reduceToNat, Int.reduceNeg, Nat.reduceBEq, wblk, hLW, List.flatMap_nil, List.take_zero]; first | done | trivial
    | some b =>
      have h1 : ¬ Lb = b := hLo b rfl
      have h2 : ¬ b = W := fun e => absurd (hok.2.2 b rfl).1 (by omega)
      have h3 : ¬ b = Lb := fun e => h1 e.symm
      simp only [RN, ↓reduceIte, ↓get8, reduceCtorEq, Nat.reduceLT, Nat.reduceEqDiff, Nat.reduceAdd, Nat.reduceMul, Nat.reduceLeDiff, Nat.reduceSub, Int.reduceToNat, Int.reduceNeg, Nat.reduceBEq, wblk, hLW, h1, h2, h3, List.flatMap_nil, List.take_zero]; first | done | trivial
  rintro ⟨j, o, n⟩ ⟨hj, hn, ⟨hWn, hno, hso⟩, hLo, hfr⟩
  dsimp only at hj hn hWn hno hso hLo hfr ⊢
  obtain ⟨B, hB⟩ : ∃ B, bs ++ (l.take j).flatMap two = B := ⟨_, rfl⟩
  rw [hB] at hno ⊢
  have hBl : B.length ≤ 102000 := by rw [← hB, List.length_append, twos_len]; simp; omega
  refine JS_go (tbOk _) 99 fun x hx => ?_
  simp only [RN, ↓reduceIte, ↓get8, reduceCtorEq, Nat.reduceLT, Nat.reduceEqDiff, Nat.reduceAdd, Nat.reduceMul, Nat.reduceLeDiff, Nat.reduceSub, Int.reduceToNat, Int.reduceNeg, Nat.reduceBEq, TY] at hx
  subst hx
  refine ⟨_, _, rfl, by first | trivial | omega | (simp only [and_true, true_and]; omega), ?_⟩
  refine at_cond (fun hlt2 => ?_) (fun hge => ?_)
  · have hlt3 : j < l.length := by simpa using hlt2
    have hg := ints_get hlt3
    have hwb := toB_wrap l[j]
    have hwb2 := toB_wrap (l[j].fdiv 256)
    have hsh : l[j].fdiv (2 ^ (min 8 IntKind.i64.bits)) = l[j].fdiv 256 := rfl
    have hW0 : ¬ W = n := by omega
    have hW1 : ∀ i, ¬ W = n + i := by intro i; omega
    have hL0 : ¬ Lb = n := by omega
    have hL1 : ∀ i, ¬ Lb = n + i := by intro i; omega
    have hW2 : ¬ n = W := by omega
    have hW3 : ∀ i, ¬ n + i = W := by intro i; omega
    have hL2 : ¬ n = Lb := by omega
    have hL3 : ∀ i, ¬ n + i = Lb := by intro i; omega
    have hWL : ¬ W = Lb := fun e => hLW e.symm
    have hT : bs ++ (l.take (j + 1)).flatMap two = B ++ two l[j] := by rw [← hB, List.take_succ_eq_append_getElem hlt3, List.flatMap_append, ← List.append_assoc]; simp
    have hw3 : IntKind.i64.wrap ((j : Int) + 1) = ((j + 1 : Nat) : Int) := wrap_i64 (j + 1) (by omega)
    cases o with
    | none =>
      have hB0 := hno rfl
      subst hB0
      simp only [wsl, wblk]
      refine JS_go (tbOk _) 99 fun x hx => ?_
      simp only [RN, ↓reduceIte, ↓get8, reduceCtorEq, Nat.reduceLT, Nat.reduceEqDiff, Nat.reduceAdd, Nat.reduceMul, Nat.reduceLeDiff, Nat.reduceSub, Int.reduceToNat, Int.reduceNeg, Nat.reduceBEq, TY, hg, hwb, hwb2, hsh, hw3, hW0, hW1, hL0, hL1, hW2, hW3, hL2, hL3, hWL, hLW, Nat.add_assoc, Nat.left_eq_add, Nat.add_eq_left, Nat.add_left_cancel_iff] at hx
      subst hx
      refine ⟨_, _, rfl, by first | trivial | omega | (simp only [and_true, true_and]; omega), ?_⟩
      refine at_done (in_nextI (j + 1, some (n + 1), n + 2) ⟨hlt3, by show nx ≤ n + 2; omega, ⟨by show W < n + 2; omega, nofun, ?_⟩, ?_, fun b hb => .inr (by cases hb; omega)⟩ (by show l.length - (j + 1) < l.length - j; omega) ?_)
      · intro b hb; cases hb; exact ⟨by omega, by show n + 1 < n + 2; omega⟩
      · intro b hb; cases hb; exact hL1 1
      · dsimp only
        rw [hT]
        simp only [wsl, wblk, bys, two]
        refine le_of rfl (by simp only [RN, ↓reduceIte, ↓get8, reduceCtorEq, Nat.reduceLT, Nat.reduceEqDiff, Nat.reduceAdd, Nat.reduceMul, Nat.reduceLeDiff, Nat.reduceSub, Int.reduceToNat, Int.reduceNeg, Nat.reduceBEq]; first | done | trivial) (by simp only [RN, ↓reduceIte, ↓get8, reduceCtorEq, Nat.reduceLT, Nat.reduceEqDiff, Nat.reduceAdd, Nat.reduceMul, Nat.reduceLeDiff, Nat.reduceSub, Int.reduceToNat, Int.reduceNeg, Nat.reduceBEq, hW0, hW1, hL0, hL1, hW2, hW3, hL2, hL3, hWL, hLW, Nat.add_assoc, Nat.left_eq_add, Nat.add_eq_left, Nat.add_left_cancel_iff]; first | done | trivial) (Nat.le_refl _) rfl
    | some b =>
      have hbW : ¬ b = W := fun e => absurd (hso b rfl).1 (by omega)
      have hbn : b < n := (hso b rfl).2
      have hLb : ¬ Lb = b := hLo b rfl
      have q1 : ¬ W = b := fun e => hbW e.symm
      have q2 : ¬ b = Lb := fun e => hLb e.symm
      have q3 : ¬ b = n := by omega
      have q4 : ∀ i, ¬ b = n + i := by intro i; omega
      have q5 : ¬ n = b := by omega
      have q6 : ∀ i, ¬ n + i = b := by intro i; omega
      have hsn := bys_two B l[j]
      have hlen := bys_len B
      have hle : ¬ (B.length + 2 ≤ B.length) := by omega
      simp only [wsl, wblk]
      refine JS_go (tbOk _) 99 fun x hx => ?_
      simp only [RN, ↓reduceIte, ↓get8, reduceCtorEq, Nat.reduceLT, Nat.reduceEqDiff, Nat.reduceAdd, Nat.reduceMul, Nat.reduceLeDiff, Nat.reduceSub, Int.reduceToNat, Int.reduceNeg, Nat.reduceBEq, TY, hsn, hlen, hle, q1, q2, q3, q4, q5, q6, hbW, hLb, hg, hwb, hwb2, hsh, hw3, hW0, hW1, hL0, hL1, hW2, hW3, hL2, hL3, hWL, hLW, Nat.add_assoc, Nat.left_eq_add, Nat.add_eq_left, Nat.add_left_cancel_iff] at hx
      subst hx
      refine ⟨_, _, rfl, by first | trivial | omega | (simp only [and_true, true_and]; omega), ?_⟩
      refine at_done (in_nextI (j + 1, some (n + 1), n + 2) ⟨hlt3, by show nx ≤ n + 2; omega, ⟨by show W < n + 2; omega, nofun, ?_⟩, ?_, fun b hb => .inr (by cases hb; omega)⟩ (by show l.length - (j + 1) < l.length - j; omega) ?_)
      · intro b hb; cases hb; exact ⟨by omega, by show n + 1 < n + 2; omega⟩
      · intro b hb; cases hb; exact hL1 1
      · dsimp only
        rw [hT]
        rw [List.length_append, two_len]
        refine le_of rfl (by simp only [RN, ↓reduceIte, ↓get8, reduceCtorEq, Nat.reduceLT, Nat.reduceEqDiff, Nat.reduceAdd, Nat.reduceMul, Nat.reduceLeDiff, Nat.reduceSub, Int.reduceToNat, Int.reduceNeg, Nat.reduceBEq]; first | done | trivial) (by simp only [RN, ↓reduceIte, ↓get8, reduceCtorEq, Nat.reduceLT, Nat.reduceEqDiff, Nat.reduceAdd, Nat.reduceMul, Nat.reduceLeDiff, Nat.reduceSub, Int.reduceToNat, Int.reduceNeg, Nat.reduceBEq, q1, q2, q3, q4, q5, q6, hbW, hLb, hW0, hW1, hL0, hL1, hW2, hW3, hL2, hL3, hWL, hLW, Nat.add_assoc, Nat.left_eq_add, Nat.add_eq_left, Nat.add_left_cancel_iff]; first | done | trivial) (Nat.le_refl _) rfl
  · have hj2 : j = l.length := by simp at hge; omega
    subst hj2
    refine JS_go (tbOk _) 99 fun x hx => ?_
    simp only [RN, ↓reduceIte, ↓get8, reduceCtorEq, Nat.reduceLT, Nat.reduceEqDiff, Nat.reduceAdd, Nat.reduceMul, Nat.reduceLeDiff, Nat.reduceSub, Int.reduceToNat, Int.reduceNeg, Nat.reduceBEq, TY] at hx
    subst hx
    refine ⟨_, _, rfl, by first | trivial | omega | (simp only [and_true, true_and]; omega), ?_⟩
    refine at_exit (in_exitI (by simp only [RN, ↓reduceIte, ↓get8, reduceCtorEq, Nat.reduceLT, Nat.reduceEqDiff, Nat.reduceAdd, Nat.reduceMul, Nat.reduceLeDiff, Nat.reduceSub, Int.reduceToNat, Int.reduceNeg, Nat.reduceBEq]; rfl) ?_)
    refine JS_go (tbOk _) 99 fun x hx => ?_
    simp only [RN, ↓reduceIte, ↓get8, reduceCtorEq, Nat.reduceLT, Nat.reduceEqDiff, Nat.reduceAdd, Nat.reduceMul, Nat.reduceLeDiff, Nat.reduceSub, Int.reduceToNat, Int.reduceNeg, Nat.reduceBEq, TY] at hx
    subst hx
    refine ⟨_, _, rfl, by first | trivial | omega | (simp only [and_true, true_and]; omega), ?_⟩
    rw [List.take_length] at hB
    refine at_done ?_
    refine nrm_endK (by simp only [RN, ↓reduceIte, ↓get8, reduceCtorEq, Nat.reduceLT, Nat.reduceEqDiff, Nat.reduceAdd, Nat.reduceMul, Nat.reduceLeDiff, Nat.reduceSub, Int.reduceToNat, Int.reduceNeg, Nat.reduceBEq]; rfl) rfl trivial ?_
    rw [hB]
    refine ⟨wrH W o B, ?_, rfl, o, rfl, hn, ⟨hWn, hno, hso⟩, hfr⟩
    unfold wrH
    cases o with
    | none => exact leL_look (by simp only [RN, ↓reduceIte, ↓get8, reduceCtorEq, Nat.reduceLT, Nat.reduceEqDiff, Nat.reduceAdd, Nat.reduceMul, Nat.reduceLeDiff, Nat.reduceSub, Int.reduceToNat, Int.reduceNeg, Nat.reduceBEq, wblk]; first | done | trivial)
    | some b =>
      have hbW : ¬ b = W := fun e => absurd (hso b rfl).1 (by omega)
      have hLb : ¬ Lb = b := hLo b rfl
      have q2 : ¬ b = Lb := fun e => hLb e.symm
      exact leL_look (by simp only [RN, ↓reduceIte, ↓get8, reduceCtorEq, Nat.reduceLT, Nat.reduceEqDiff, Nat.reduceAdd, Nat.reduceMul, Nat.reduceLeDiff, Nat.reduceSub, Int.reduceToNat, Int.reduceNeg, Nat.reduceBEq, wblk, hbW, q2]; first | done | trivial)
end Go.Proofs.Ytoihmanhldcjhaa.Id
namespace Go.Proofs.Ytoihmanhldcjhaa.Id
open Go Go.Proofs.Ytoihmanhldcjhaa.Rl
set_option linter.unusedSimpArgs false
set_option linter.unusedVariables false
def outB (b k : Nat) : List UInt8 := (List.range k).map fun i => toB ((b : Int).fdiv (2 ^ (8 * i)))
theorem outB_succ (b k : Nat) : outB b (k + 1) = outB b k ++ [toB ((b : Int).fdiv (2 ^ (8 * k)))] := by simp [outB, List.range_succ]
theorem outB_len (b k : Nat) : (outB b k).length = k := by simp [outB]
set_option maxRecDepth 100000 in
theorem wspeed_c (W : Nat) (o : Option Nat) (bs : List UInt8) (v : Int) (nx : Nat) (h0 : -70368744177664 ≤ v) (h1 : v < 70368744177664) (hok : wok W o bs nx) (hb : bs.length ≤ 100000) (B0 : Nat) (hB0 : toS v = B0) :
    CallW Try.prog 26 [.pointer (some ⟨W, 0, none⟩), .int .i64 v] (wrH W o bs) nx
      fun r F' nx' => r = .ret (.tuple #[]) ∧ ∃ o2, F' = wrH W o2 (bs ++ outB B0 8) ∧ nx ≤ nx' ∧ wok W o2 (bs ++ outB B0 8) nx' ∧ ∀ b, o2 = some b → o = some b ∨ nx ≤ b := by
  have hT := To_c v nx h0 h1
  rw [hB0] at hT
  have hF := bitsOf_c B0 nx
  refine CallW_go (tbOk _) 31 [] Try.func26 rfl (by decide) rfl rfl (by simp) fun hlt => ?_
  simp only [params, Nat.zero_add, Nat.reduceAdd]
  refine JS_go (tbOk _) 99 fun x hx => ?_
  simp only [RN, ↓reduceIte, ↓get8, reduceCtorEq, Nat.reduceLT, Nat.reduceEqDiff, Nat.reduceAdd, Nat.reduceMul, Nat.reduceLeDiff, Nat.reduceSub, Int.reduceToNat, Int.reduceNeg, Nat.reduceBEq, TY] at hx
  subst hx
  refine ⟨_, _, rfl, by first | trivial | omega | (simp only [and_true, true_and]; omega), ?_⟩
  refine at_callK (hT) (by simp only [RN, ↓reduceIte, ↓get8, reduceCtorEq, Nat.reduceLT, Nat.reduceEqDiff, Nat.reduceAdd, Nat.reduceMul, Nat.reduceLeDiff, Nat.reduceSub, Int.reduceToNat, Int.reduceNeg, Nat.reduceBEq]; first | done | trivial) (by simp only [RN, ↓reduceIte, ↓get8, reduceCtorEq, Nat.reduceLT, Nat.reduceEqDiff, Nat.reduceAdd, Nat.reduceMul, Nat.reduceLeDiff, Nat.reduceSub, Int.reduceToNat, Int.reduceNeg, Nat.reduceBEq]; rfl) ?_
  refine JS_go (tbOk _) 99 fun x hx => ?_
  simp only [RN, ↓reduceIte, ↓get8, reduceCtorEq, Nat.reduceLT, Nat.reduceEqDiff, Nat.reduceAdd, Nat.reduceMul, Nat.reduceLeDiff, Nat.reduceSub, Int.reduceToNat, Int.reduceNeg, Nat.reduceBEq, TY] at hx
  subst hx
  refine ⟨_, _, rfl, by first | trivial | omega | (simp only [and_true, true_and]; omega), ?_⟩
  refine at_callK (hF) (by simp only [RN, ↓reduceIte, ↓get8, reduceCtorEq, Nat.reduceLT, Nat.reduceEqDiff, Nat.reduceAdd, Nat.reduceMul, Nat.reduceLeDiff, Nat.reduceSub, Int.reduceToNat, Int.reduceNeg, Nat.reduceBEq]; first | done | trivial) (by simp only [RN, ↓reduceIte, ↓get8, reduceCtorEq, Nat.reduceLT, Nat.reduceEqDiff, Nat.reduceAdd, Nat.reduceMul, Nat.reduceLeDiff, Nat.reduceSub, Int.reduceToNat, Int.reduceNeg, Nat.reduceBEq]; rfl) ?_
  refine JS_go (tbOk _) 99 fun x hx => ?_
  simp only [RN, ↓reduceIte, ↓get8, reduceCtorEq, Nat.reduceLT, Nat.reduceEqDiff, Nat.reduceAdd, Nat.reduceMul, Nat.reduceLeDiff, Nat.reduceSub, Int.reduceToNat, Int.reduceNeg, Nat.reduceBEq, TY] at hx
  subst hx
  refine ⟨_, _, rfl, by first | trivial | omega | (simp only [and_true, true_and]; omega), ?_⟩
  refine at_loop ?_
  refine JS_loopI (S := fun x : Nat × Option Nat × Nat => { n := 31, fr := [(15, Value.int IntKind.i64 x.1), (6, .int .u64 B0), (0, .pointer (some ⟨W, 0, none⟩))], F := (W, ⟨[wsl x.2.1 (bs ++ outB B0 x.1).length], 53, 1, false, false⟩) :: wblk x.2.1 (bs ++ outB B0 x.1), nx := x.2.2, ds := [] })
    (fun p => p.1 ≤ 8 ∧ nx ≤ p.2.2 ∧ wok W p.2.1 (bs ++ outB B0 p.1) p.2.2 ∧ ∀ b, p.2.1 = some b → o = some b ∨ nx ≤ b) (fun x => 8 - x.1) (0, o, nx) ⟨Nat.zero_le _, Nat.le_refl _, by simpa [outB] using hok, fun b h => .inl h⟩ ?_ ?_
  · refine le_of rfl (by simp only [RN, ↓reduceIte, ↓get8, reduceCtorEq, Nat.reduceLT, Nat.reduceEqDiff, Nat.reduceAdd, Nat.reduceMul, Nat.reduceLeDiff, Nat.reduceSub, Int.reduceToNat, Int.reduceNeg, Nat.reduceBEq]; first | done | trivial) ?_ (Nat.le_refl _) rfl
    have e0 : bs ++ outB B0 0 = bs := by simp [outB]
    unfold wrH
    cases o with
    | none => simp only [RN, ↓reduceIte, ↓get8, reduceCtorEq, Nat.reduceLT, Nat.reduceEqDiff, Nat.reduceAdd, Nat.reduceMul, Nat.reduceLeDiff, Nat.reduceSub, Int.reduceToNat, Int.reduceNeg, Nat.reduceBEq, wblk, e0]; first | done | trivial
    | some b =>
      have h2 : ¬ b = W := fun e => absurd (hok.2.2 b rfl).1 (by omega)
      simp only [RN, ↓reduceIte, ↓get8, reduceCtorEq, Nat.reduceLT, Nat.reduceEqDiff, Nat.reduceAdd, Nat.reduceMul, Nat.reduceLeDiff, Nat.reduceSub, Int.reduceToNat, Int.reduceNeg, Nat.reduceBEq, wblk, h2, e0]; first | done | trivial
  rintro ⟨j, o, n⟩ ⟨hj, hn, ⟨hWn, hno, hso⟩, hfr⟩
  dsimp only at hj hn hWn hno hso hfr ⊢
  obtain ⟨B, hB⟩ : ∃ B, bs ++ outB B0 j = B := ⟨_, rfl⟩
  rw [hB] at hno ⊢
  have hBl : B.length ≤ 101000 := by rw [← hB, List.length_append, outB_len]; omega
  refine JS_go (tbOk _) 99 fun x hx => ?_
  simp only [RN, ↓reduceIte, ↓get8, reduceCtorEq, Nat.reduceLT, Nat.reduceEqDiff, Nat.reduceAdd, Nat.reduceMul, Nat.reduceLeDiff, Nat.reduceSub, Int.reduceToNat, Int.reduceNeg, Nat.reduceBEq, TY] at hx
  subst hx
  refine ⟨_, _, rfl, by first | trivial | omega | (simp only [and_true, true_and]; omega), ?_⟩
  refine at_cond (fun hlt2 => ?_) (fun hge => ?_)
  · have hlt3 : j < 8 := by simp at hlt2; omega
    have hT2 : bs ++ outB B0 (j + 1) = B ++ [toB ((B0 : Int).fdiv (2 ^ (8 * j)))] := by rw [← hB, outB_succ, List.append_assoc]
    have hw3 : IntKind.i64.wrap ((j : Int) + 1) = ((j + 1 : Nat) : Int) := wrap_i64 (j + 1) (by omega)
    have hw8 : IntKind.i64.wrap (8 * (j : Int)) = ((8 * j : Nat) : Int) := by rw [show (8 * (j : Int)) = ((8 * j : Nat) : Int) by omega]; exact wrap_i64 _ (by omega)
    have hsh : (B0 : Int).fdiv (2 ^ (min (8 * j) IntKind.u64.bits)) = (B0 : Int).fdiv (2 ^ (8 * j)) := by rw [show min (8 * j) IntKind.u64.bits = 8 * j from by show min (8 * j) 64 = 8 * j; omega]
    have hwb := toB_wrap ((B0 : Int).fdiv (2 ^ (8 * j)))
    have hW0 : ¬ W = n := by omega
    have hW1 : ∀ i, ¬ W = n + i := by intro i; omega
    have hW2 : ¬ n = W := by omega
    have hW3 : ∀ i, ¬ n + i = W := by intro i; omega
    refine JS_go (tbOk _) 99 fun x hx => ?_
    simp only [RN, ↓reduceIte, ↓get8, reduceCtorEq, Nat.reduceLT, Nat.reduceEqDiff, Nat.reduceAdd, Nat.reduceMul, Nat.reduceLeDiff, Nat.reduceSub, Int.reduceToNat, Int.reduceNeg, Nat.reduceBEq, TY] at hx
    subst hx
    refine ⟨_, _, rfl, by first | trivial | omega | (simp only [and_true, true_and]; omega), ?_⟩
    rw [CRJ]
    refine JS_draw (tbOk _) { wr := [(18, 0), (19, 1), (20, 2), (21, 3), (22, 4), (23, 5), (24, 6), (25, 7), (26, 8), (27, 9), (28, 10), (29, 11)], anc := [[], [], [1], [1, 2], [], [], [5], [4, 5, 6], [4, 5, 6, 7], [4, 5, 6, 7, 8], [1, 2, 3, 4, 5, 6, 7, 8, 9], [0, 1, 2, 3, 4, 5, 6, 7, 8, 9, 10], [0, 1, 2, 3, 4, 5, 6, 7, 8, 9, 10, 11]], ch := [(9, []), (10, []), (12, [])], ac := [[0, 1, 2, 3, 4, 5, 6, 7, 8], [0, 1, 2, 3], [0, 11], []], nw := [[0, 1, 2, 3, 4, 5, 6, 7, 8], [], [11], []], fl := [[], [0, 1, 2, 3], [0], []] } (by kernel_rfl) (by kernel_rfl) (by kernel_rfl) (by kernel_rfl) ?_
    cases o with
    | none =>
      have hB1 := hno rfl
      subst hB1
      simp only [wsl, wblk]
      refine JS_go (tbOk _) 99 fun x hx => ?_
      simp only [RN, ↓reduceIte, ↓get8, reduceCtorEq, Nat.reduceLT, Nat.reduceEqDiff, Nat.reduceAdd, Nat.reduceMul, Nat.reduceLeDiff, Nat.reduceSub, Int.reduceToNat, Int.reduceNeg, Nat.reduceBEq, TY, hsh, hwb, hw3, hw8, hW0, hW1, hW2, hW3, Nat.add_assoc, Nat.left_eq_add, Nat.add_eq_left, Nat.add_left_cancel_iff] at hx
      subst hx
      refine ⟨_, _, rfl, by first | trivial | omega | (simp only [and_true, true_and]; omega), ?_⟩
      refine at_done (in_nextI (j + 1, some (n + 1), n + 2) ⟨hlt3, by show nx ≤ n + 2; omega, ⟨by show W < n + 2; omega, nofun, ?_⟩, fun b hb => .inr (by cases hb; omega)⟩ (by show 8 - (j + 1) < 8 - j; omega) ?_)
      · intro b hb; cases hb; exact ⟨by omega, by show n + 1 < n + 2; omega⟩
      · dsimp only
        rw [hT2]
        simp only [wsl, wblk, bys]
        refine le_of rfl (by simp only [RN, ↓reduceIte, ↓get8, reduceCtorEq, Nat.reduceLT, Nat.reduceEqDiff, Nat.reduceAdd, Nat.reduceMul, Nat.reduceLeDiff, Nat.reduceSub, Int.reduceToNat, Int.reduceNeg, Nat.reduceBEq]; first | done | trivial) (by simp only [RN, ↓reduceIte, ↓get8, reduceCtorEq, Nat.reduceLT, Nat.reduceEqDiff, Nat.reduceAdd, Nat.reduceMul, Nat.reduceLeDiff, Nat.reduceSub, Int.reduceToNat, Int.reduceNeg, Nat.reduceBEq, hW0, hW1, hW2, hW3, Nat.add_assoc, Nat.left_eq_add, Nat.add_eq_left, Nat.add_left_cancel_iff]; first | done | trivial) (Nat.le_refl _) rfl
    | some b =>
      have hbW : ¬ b = W := fun e => absurd (hso b rfl).1 (by omega)
      have hbn : b < n := (hso b rfl).2
      have q1 : ¬ W = b := fun e => hbW e.symm
      have q3 : ¬ b = n := by omega
      have q4 : ∀ i, ¬ b = n + i := by intro i; omega
      have q5 : ¬ n = b := by omega
      have q6 : ∀ i, ¬ n + i = b := by intro i; omega
      have hsn := bys_snoc B (toB ((B0 : Int).fdiv (2 ^ (8 * j))))
      have hlen := bys_len B
      have hle : ¬ (B.length + 1 ≤ B.length) := by omega
      simp only [wsl, wblk]
      refine JS_go (tbOk _) 99 fun x hx => ?_
      simp only [RN, ↓reduceIte, ↓get8, reduceCtorEq, Nat.reduceLT, Nat.reduceEqDiff, Nat.reduceAdd, Nat.reduceMul, Nat.reduceLeDiff, Nat.reduceSub, Int.reduceToNat, Int.reduceNeg, Nat.reduceBEq, TY, hsn, hlen, hle, q1, q3, q4, q5, q6, hbW, hsh, hwb, hw3, hw8, hW0, hW1, hW2, hW3, Nat.add_assoc, Nat.left_eq_add, Nat.add_eq_left, Nat.add_left_cancel_iff] at hx
      subst hx
      refine ⟨_, _, rfl, by first | trivial | omega | (simp only [and_true, true_and]; omega), ?_⟩
      refine at_done (in_nextI (j + 1, some (n + 1), n + 2) ⟨hlt3, by show nx ≤ n + 2; omega, ⟨by show W < n + 2; omega, nofun, ?_⟩, fun b hb => .inr (by cases hb; omega)⟩ (by show 8 - (j + 1) < 8 - j; omega) ?_)
      · intro b hb; cases hb; exact ⟨by omega, by show n + 1 < n + 2; omega⟩
      · dsimp only
        rw [hT2]
        simp only [wsl, wblk, List.length_append, List.length_cons, List.length_nil]
        refine le_of rfl (by simp only [RN, ↓reduceIte, ↓get8, reduceCtorEq, Nat.reduceLT, Nat.reduceEqDiff, Nat.reduceAdd, Nat.reduceMul, Nat.reduceLeDiff, Nat.reduceSub, Int.reduceToNat, Int.reduceNeg, Nat.reduceBEq]; first | done | trivial) (by simp only [RN, ↓reduceIte, ↓get8, reduceCtorEq, Nat.reduceLT, Nat.reduceEqDiff, Nat.reduceAdd, Nat.reduceMul, Nat.reduceLeDiff, Nat.reduceSub, Int.reduceToNat, Int.reduceNeg, Nat.reduceBEq, q1, q3, q4, q5, q6, hbW, hW0, hW1, hW2, hW3, Nat.add_assoc, Nat.left_eq_add, Nat.add_eq_left, Nat.add_left_cancel_iff]; first | done | trivial) (Nat.le_refl _) rfl
  · have hj2 : j = 8 := by simp at hge; omega
    subst hj2
    refine JS_go (tbOk _) 99 fun x hx => ?_
    simp only [RN, ↓reduceIte, ↓get8, reduceCtorEq, Nat.reduceLT, Nat.reduceEqDiff, Nat.reduceAdd, Nat.reduceMul, Nat.reduceLeDiff, Nat.reduceSub, Int.reduceToNat, Int.reduceNeg, Nat.reduceBEq, TY] at hx
    subst hx
    refine ⟨_, _, rfl, by first | trivial | omega | (simp only [and_true, true_and]; omega), ?_⟩
    refine at_exit (in_exitI (by simp only [RN, ↓reduceIte, ↓get8, reduceCtorEq, Nat.reduceLT, Nat.reduceEqDiff, Nat.reduceAdd, Nat.reduceMul, Nat.reduceLeDiff, Nat.reduceSub, Int.reduceToNat, Int.reduceNeg, Nat.reduceBEq]; rfl) ?_)
    refine JS_go (tbOk _) 99 fun x hx => ?_
    simp only [RN, ↓reduceIte, ↓get8, reduceCtorEq, Nat.reduceLT, Nat.reduceEqDiff, Nat.reduceAdd, Nat.reduceMul, Nat.reduceLeDiff, Nat.reduceSub, Int.reduceToNat, Int.reduceNeg, Nat.reduceBEq, TY] at hx
    subst hx
    refine ⟨_, _, rfl, by first | trivial | omega | (simp only [and_true, true_and]; omega), ?_⟩
    refine at_done ?_
    refine nrm_endK (by simp only [RN, ↓reduceIte, ↓get8, reduceCtorEq, Nat.reduceLT, Nat.reduceEqDiff, Nat.reduceAdd, Nat.reduceMul, Nat.reduceLeDiff, Nat.reduceSub, Int.reduceToNat, Int.reduceNeg, Nat.reduceBEq]; rfl) rfl trivial ?_
    rw [hB]
    refine ⟨wrH W o B, ?_, rfl, o, rfl, hn, ⟨hWn, hno, hso⟩, hfr⟩
    unfold wrH
    cases o with
    | none => exact leL_look (by simp only [RN, ↓reduceIte, ↓get8, reduceCtorEq, Nat.reduceLT, Nat.reduceEqDiff, Nat.reduceAdd, Nat.reduceMul, Nat.reduceLeDiff, Nat.reduceSub, Int.reduceToNat, Int.reduceNeg, Nat.reduceBEq, wblk]; first | done | trivial)
    | some b =>
      have hbW : ¬ b = W := fun e => absurd (hso b rfl).1 (by omega)
      exact leL_look (by simp only [RN, ↓reduceIte, ↓get8, reduceCtorEq, Nat.reduceLT, Nat.reduceEqDiff, Nat.reduceAdd, Nat.reduceMul, Nat.reduceLeDiff, Nat.reduceSub, Int.reduceToNat, Int.reduceNeg, Nat.reduceBEq, wblk, hbW]; first | done | trivial)
end Go.Proofs.Ytoihmanhldcjhaa.Id
