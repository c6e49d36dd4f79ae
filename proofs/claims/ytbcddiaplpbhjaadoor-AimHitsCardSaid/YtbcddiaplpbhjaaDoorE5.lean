/- What the claim's proof leans on: texts of this claim, laid together. -/
import Derived.Test.YtbcddiaplpbhjaaDoorE4
import Derived.Test.YtbcddiaplpbhjaaDoorCards
import Derived.Test.YtbcddiaplpbhjaaDoorTie
import Derived.SevenTiedAt
import Derived.SizedLaws
namespace Go.Proofs.YtbcddiaplpbhjaaDoor.MAi
open Go.RowKit Go.Proofs.YtbcddiaplpbhjaaDoorW.PrintWords Go.Proofs.YtbcddiaplpbhjaaDoorW.PrintLast Go.Proofs.YtbcddiaplpbhjaaDoorW.PrintMore
attribute [local go_sem] max2_int min2_int max_two min_two max_three min_three max_four min_four
set_option linter.unusedVariables false
set_option linter.unusedSimpArgs false
attribute [local go_sem high] eqA47
mutual
noncomputable def bivouaclaw17_AimHits.l0 : Nat → Int → Int → Int → Int → Int → List Int → Int → Int → Int → Int → Int → Int → Int → Int → Int → Int → Int → Int → Int → Int → List Int → Int → Int → Int → Int → Int → Int → Option (Bool)
  | 0, _, _, _, _, _, _, _, _, _, _, _, _, _, _, _, _, _, _, _, _, _, _, _, _, _, _, _ => none
  | k + 1, x5, x7, x153000, x153001, x153002, x153003, x153004, x153005, x153006, x153007, x153008, x153009, x153010, x153011, x153012, x153013, x153014, x160000, x160001, x160002, x160003, x169000, x169001, x169002, x169003, x169004, x169005 => if x7 ≤ x5 then (bivouaclaw17_AimHits.j1 k x5 x7 (decide (x7 ≤ 64)) x153000 x153001 x153002 x153003 x153004 x153005 x153006 x153007 x153008 x153009 x153010 x153011 x153012 x153013 x153014 x160000 x160001 x160002 x160003 x169000 x169001 x169002 x169003 x169004 x169005) else (bivouaclaw17_AimHits.j1 k x5 x7 false x153000 x153001 x153002 x153003 x153004 x153005 x153006 x153007 x153008 x153009 x153010 x153011 x153012 x153013 x153014 x160000 x160001 x160002 x160003 x169000 x169001 x169002 x169003 x169004 x169005)
noncomputable def bivouaclaw17_AimHits.j1 : Nat → Int → Int → Bool → Int → Int → Int → List Int → Int → Int → Int → Int → Int → Int → Int → Int → Int → Int → Int → Int → Int → Int → List Int → Int → Int → Int → Int → Int → Int → Option (Bool)
  | 0, _, _, _, _, _, _, _, _, _, _, _, _, _, _, _, _, _, _, _, _, _, _, _, _, _, _, _, _ => none
  | k + 1, x5, x7, x48, x153000, x153001, x153002, x153003, x153004, x153005, x153006, x153007, x153008, x153009, x153010, x153011, x153012, x153013, x153014, x160000, x160001, x160002, x160003, x169000, x169001, x169002, x169003, x169004, x169005 => if x48 = true then ((aim_Shot.f k x153004 x153005 x153006 x153007 x153008 x153009 x153010 x153011 x153012 x7).bind fun bt171 => ((shot_Fly.f k x160000 x160001 x160002 x160003 bt171.1 bt171.2.1 bt171.2.2.1 bt171.2.2.2.1 bt171.2.2.2.2.1 bt171.2.2.2.2.2.1 1024).bind fun bt179 => (if bt179.2.1 = 1 then (if (wrap64 (Int.tdiv bt179.2.2.1 65536)) = (wrap64 (Int.tdiv x153010 65536)) then (bivouaclaw17_AimHits.j2 k x5 x7 bt171.2.2.2.2.2.2 bt179.2.2.2.2.2.2.2.2 ((wrap64 (Int.tdiv bt179.2.2.2.1 65536)) == (wrap64 (Int.tdiv x153011 65536))) x153000 x153001 x153002 x153003 x153004 x153005 x153006 x153007 x153008 x153009 x153010 x153011 x153012 x153013 x153014 x160000 x160001 x160002 x160003 x169000 x169001 x169002 x169003 x169004 x169005 bt171.1 bt171.2.1 bt171.2.2.1 bt171.2.2.2.1 bt171.2.2.2.2.1 bt171.2.2.2.2.2.1) else (bivouaclaw17_AimHits.j2 k x5 x7 bt171.2.2.2.2.2.2 bt179.2.2.2.2.2.2.2.2 false x153000 x153001 x153002 x153003 x153004 x153005 x153006 x153007 x153008 x153009 x153010 x153011 x153012 x153013 x153014 x160000 x160001 x160002 x160003 x169000 x169001 x169002 x169003 x169004 x169005 bt171.1 bt171.2.1 bt171.2.2.1 bt171.2.2.2.1 bt171.2.2.2.2.1 bt171.2.2.2.2.2.1)) else (if bt179.2.1 = 2 then (if (wrap64 (Int.tdiv bt179.2.2.1 65536)) = (wrap64 (Int.tdiv x153010 65536)) then (bivouaclaw17_AimHits.j2 k x5 x7 bt171.2.2.2.2.2.2 bt179.2.2.2.2.2.2.2.2 ((wrap64 (Int.tdiv bt179.2.2.2.1 65536)) == (wrap64 (Int.tdiv x153011 65536))) x153000 x153001 x153002 x153003 x153004 x153005 x153006 x153007 x153008 x153009 x153010 x153011 x153012 x153013 x153014 x160000 x160001 x160002 x160003 x169000 x169001 x169002 x169003 x169004 x169005 bt171.1 bt171.2.1 bt171.2.2.1 bt171.2.2.2.1 bt171.2.2.2.2.1 bt171.2.2.2.2.2.1) else (bivouaclaw17_AimHits.j2 k x5 x7 bt171.2.2.2.2.2.2 bt179.2.2.2.2.2.2.2.2 false x153000 x153001 x153002 x153003 x153004 x153005 x153006 x153007 x153008 x153009 x153010 x153011 x153012 x153013 x153014 x160000 x160001 x160002 x160003 x169000 x169001 x169002 x169003 x169004 x169005 bt171.1 bt171.2.1 bt171.2.2.1 bt171.2.2.2.1 bt171.2.2.2.2.1 bt171.2.2.2.2.2.1)) else (bivouaclaw17_AimHits.j2 k x5 x7 bt171.2.2.2.2.2.2 bt179.2.2.2.2.2.2.2.2 false x153000 x153001 x153002 x153003 x153004 x153005 x153006 x153007 x153008 x153009 x153010 x153011 x153012 x153013 x153014 x160000 x160001 x160002 x160003 x169000 x169001 x169002 x169003 x169004 x169005 bt171.1 bt171.2.1 bt171.2.2.1 bt171.2.2.2.1 bt171.2.2.2.2.1 bt171.2.2.2.2.2.1))))) else (if x5 ≤ 64 then ((bivouaclaw17_awake.f k).bind fun t170 => (some t170)) else (some false))
noncomputable def bivouaclaw17_AimHits.j2 : Nat → Int → Int → Int → Int → Bool → Int → Int → Int → List Int → Int → Int → Int → Int → Int → Int → Int → Int → Int → Int → Int → Int → Int → Int → List Int → Int → Int → Int → Int → Int → Int → Int → Int → Int → Int → Int → Int → Option (Bool)
  | 0, _, _, _, _, _, _, _, _, _, _, _, _, _, _, _, _, _, _, _, _, _, _, _, _, _, _, _, _, _, _, _, _, _, _, _, _ => none
  | k + 1, x5, x7, x9, x11, x12, x153000, x153001, x153002, x153003, x153004, x153005, x153006, x153007, x153008, x153009, x153010, x153011, x153012, x153013, x153014, x160000, x160001, x160002, x160003, x169000, x169001, x169002, x169003, x169004, x169005, x179000, x179001, x179002, x179003, x179004, x179005 => if x9 = 0 then (if x11 = 0 then (if (x12 != (x7 == x5)) = true then (bivouaclaw17_AimHits.j3 k x5 x7 true x153000 x153001 x153002 x153003 x153004 x153005 x153006 x153007 x153008 x153009 x153010 x153011 x153012 x153013 x153014 x160000 x160001 x160002 x160003 x169000 x169001 x169002 x169003 x169004 x169005) else (if x7 = x5 then (bivouaclaw17_AimHits.j3 k x5 x7 (!(x179000 == x169000) || (!(x179001 == x169001) || (!(x179002 == x169002) || (!(x179003 == x169003) || (!(x179004 == x169004) || (!(x179005 == x169005))))))) x153000 x153001 x153002 x153003 x153004 x153005 x153006 x153007 x153008 x153009 x153010 x153011 x153012 x153013 x153014 x160000 x160001 x160002 x160003 x169000 x169001 x169002 x169003 x169004 x169005) else (bivouaclaw17_AimHits.j3 k x5 x7 false x153000 x153001 x153002 x153003 x153004 x153005 x153006 x153007 x153008 x153009 x153010 x153011 x153012 x153013 x153014 x160000 x160001 x160002 x160003 x169000 x169001 x169002 x169003 x169004 x169005))) else (bivouaclaw17_AimHits.j3 k x5 x7 true x153000 x153001 x153002 x153003 x153004 x153005 x153006 x153007 x153008 x153009 x153010 x153011 x153012 x153013 x153014 x160000 x160001 x160002 x160003 x169000 x169001 x169002 x169003 x169004 x169005)) else (bivouaclaw17_AimHits.j3 k x5 x7 true x153000 x153001 x153002 x153003 x153004 x153005 x153006 x153007 x153008 x153009 x153010 x153011 x153012 x153013 x153014 x160000 x160001 x160002 x160003 x169000 x169001 x169002 x169003 x169004 x169005)
noncomputable def bivouaclaw17_AimHits.j3 : Nat → Int → Int → Bool → Int → Int → Int → List Int → Int → Int → Int → Int → Int → Int → Int → Int → Int → Int → Int → Int → Int → Int → List Int → Int → Int → Int → Int → Int → Int → Option (Bool)
  | 0, _, _, _, _, _, _, _, _, _, _, _, _, _, _, _, _, _, _, _, _, _, _, _, _, _, _, _, _ => none
  | k + 1, x5, x7, x120, x153000, x153001, x153002, x153003, x153004, x153005, x153006, x153007, x153008, x153009, x153010, x153011, x153012, x153013, x153014, x160000, x160001, x160002, x160003, x169000, x169001, x169002, x169003, x169004, x169005 => if x120 = true then (some false) else (bivouaclaw17_AimHits.l0 k x5 (wrap64 (x7 + 1)) x153000 x153001 x153002 x153003 x153004 x153005 x153006 x153007 x153008 x153009 x153010 x153011 x153012 x153013 x153014 x160000 x160001 x160002 x160003 x169000 x169001 x169002 x169003 x169004 x169005)
end
noncomputable def bivouaclaw17_AimHits.f (k : Nat) (a0_0 : Int) (a0_1 : Int) (a0_2 : Int) (l0_3 : List Int) (a0_4 : Int) (a0_5 : Int) (a0_6 : Int) (a0_7 : Int) (a0_8 : Int) (a0_9 : Int) (a0_10 : Int) (a0_11 : Int) (a0_12 : Int) (a0_13 : Int) (a0_14 : Int) : Option (Bool) := (bivouaclaw17_few.f a0_0 a0_1 a0_2 l0_3).bind fun bt153 => ((aim_Solve.f k bt153.1 bt153.2.1 bt153.2.2.1 bt153.2.2.2 a0_4 a0_5 a0_6 a0_7 a0_8 a0_9 a0_10 a0_11 a0_12).bind fun bt160 => (if bt160.2.2.2.2.2.2.2 = 0 then (bivouaclaw17_AimHits.l0 k bt160.2.2.2.2.2.2.1 0 a0_0 a0_1 a0_2 l0_3 a0_4 a0_5 a0_6 a0_7 a0_8 a0_9 a0_10 a0_11 a0_12 a0_13 a0_14 bt153.1 bt153.2.1 bt153.2.2.1 bt153.2.2.2 bt160.1 bt160.2.1 bt160.2.2.1 bt160.2.2.2.1 bt160.2.2.2.2.1 bt160.2.2.2.2.2.1) else (if (bt160.1 == 0 && (bt160.2.1 == 0 && (bt160.2.2.1 == 0 && (bt160.2.2.2.1 == 0 && (bt160.2.2.2.2.1 == 0 && (bt160.2.2.2.2.2.1 == 0)))))) = true then (if bt160.2.2.2.2.2.2.1 = 0 then ((bivouaclaw17_awake.f k).bind fun t169 => (some t169)) else (some false)) else (some false))))
set_option maxHeartbeats 8000000 in
set_option maxRecDepth 100000 in
theorem bivouaclaw17_AimHits.calls (k : Nat) (a0_0 : Int) (a0_1 : Int) (a0_2 : Int) (A0_3 : Option Addr) (c0_3 : Nat) (l0_3 : List Int) (a0_4 : Int) (a0_5 : Int) (a0_6 : Int) (a0_7 : Int) (a0_8 : Int) (a0_9 : Int) (a0_10 : Int) (a0_11 : Int) (a0_12 : Int) (a0_13 : Int) (a0_14 : Int) (w : World) (hr0_3 : Kd.C (Kd.int .u8) w A0_3 l0_3.length l0_3) (hc0_3 : l0_3.length ≤ c0_3) (hT_ : Tg.Tab w) (h : bivouaclaw17_AimHits.f k a0_0 a0_1 a0_2 l0_3 a0_4 a0_5 a0_6 a0_7 a0_8 a0_9 a0_10 a0_11 a0_12 a0_13 a0_14 = some true) :
    Calls Tryd.prog 11 #[.agg #[.int .i64 a0_0, .int .i64 a0_1, .int .i64 a0_2, .slice A0_3 l0_3.length c0_3, .int .i64 a0_4, .int .i64 a0_5, .int .i64 a0_6, .int .i64 a0_7, .int .i64 a0_8, .int .i64 a0_9, .int .i64 a0_10, .int .i64 a0_11, .int .i64 a0_12, .int .i64 a0_13, .int .i64 a0_14]] w fun e w' => e = .returned (.bool true) ∧ Below w.heap.size w w' := by
  have hu49 := Tryd.underlying49
  have hu45 := Tryd.underlying45
  have hu47 := Tryd.underlying47
  have hu62 := Tryd.underlying62
  have HR0_3 := Aside0.mk hr0_3
  have HC0_3 := Aside0.mk hc0_3
  clear hr0_3 hc0_3
  have HB := Aside0.mk (Below.refl w.heap.size w)
  have HTAB := Aside0.mk hT_
  clear hT_
  have H : ((bivouaclaw17_few.f a0_0 a0_1 a0_2 l0_3).bind fun bt153 => ((aim_Solve.f k bt153.1 bt153.2.1 bt153.2.2.1 bt153.2.2.2 a0_4 a0_5 a0_6 a0_7 a0_8 a0_9 a0_10 a0_11 a0_12).bind fun bt160 => (if bt160.2.2.2.2.2.2.2 = 0 then (bivouaclaw17_AimHits.l0 k bt160.2.2.2.2.2.2.1 0 a0_0 a0_1 a0_2 l0_3 a0_4 a0_5 a0_6 a0_7 a0_8 a0_9 a0_10 a0_11 a0_12 a0_13 a0_14 bt153.1 bt153.2.1 bt153.2.2.1 bt153.2.2.2 bt160.1 bt160.2.1 bt160.2.2.1 bt160.2.2.2.1 bt160.2.2.2.2.1 bt160.2.2.2.2.2.1) else (if (bt160.1 == 0 && (bt160.2.1 == 0 && (bt160.2.2.1 == 0 && (bt160.2.2.2.1 == 0 && (bt160.2.2.2.2.1 == 0 && (bt160.2.2.2.2.2.1 == 0)))))) = true then (if bt160.2.2.2.2.2.2.1 = 0 then ((bivouaclaw17_awake.f k).bind fun t169 => (some t169)) else (some false)) else (some false))))) = some true := h
  clear h
  replace H := Option.bind_eq_some_iff.mp H
  obtain ⟨⟨t153, t154, t155, t156⟩, A20, H⟩ := H
  replace H : ((aim_Solve.f k t153 t154 t155 t156 a0_4 a0_5 a0_6 a0_7 a0_8 a0_9 a0_10 a0_11 a0_12).bind fun bt160 => (if bt160.2.2.2.2.2.2.2 = 0 then (bivouaclaw17_AimHits.l0 k bt160.2.2.2.2.2.2.1 0 a0_0 a0_1 a0_2 l0_3 a0_4 a0_5 a0_6 a0_7 a0_8 a0_9 a0_10 a0_11 a0_12 a0_13 a0_14 t153 t154 t155 t156 bt160.1 bt160.2.1 bt160.2.2.1 bt160.2.2.2.1 bt160.2.2.2.2.1 bt160.2.2.2.2.2.1) else (if (bt160.1 == 0 && (bt160.2.1 == 0 && (bt160.2.2.1 == 0 && (bt160.2.2.2.1 == 0 && (bt160.2.2.2.2.1 == 0 && (bt160.2.2.2.2.2.1 == 0)))))) = true then (if bt160.2.2.2.2.2.2.1 = 0 then ((bivouaclaw17_awake.f k).bind fun t169 => (some t169)) else (some false)) else (some false)))) = some true := H
  have A2 := Aside0.mk A20
  clear A20
  replace H := Option.bind_eq_some_iff.mp H
  obtain ⟨⟨t160, t161, t162, t163, t164, t165, t166, t167⟩, A30, H⟩ := H
  replace H : (if t167 = 0 then (bivouaclaw17_AimHits.l0 k t166 0 a0_0 a0_1 a0_2 l0_3 a0_4 a0_5 a0_6 a0_7 a0_8 a0_9 a0_10 a0_11 a0_12 a0_13 a0_14 t153 t154 t155 t156 t160 t161 t162 t163 t164 t165) else (if (t160 == 0 && (t161 == 0 && (t162 == 0 && (t163 == 0 && (t164 == 0 && (t165 == 0)))))) = true then (if t166 = 0 then ((bivouaclaw17_awake.f k).bind fun t169 => (some t169)) else (some false)) else (some false))) = some true := H
  have A3 := Aside0.mk A30
  clear A30
  by_cases c4 : t167 = 0
  · rw [if_pos c4] at H
    have c4b0 : (t167 == 0) = true := beq_iff_eq.mpr c4
    have c4b1 : (t167 != 0) = false := bne_eq_false_iff_eq.mpr c4
    clear c4
    have H' := Aside0.mk H
    clear H
    go_enter Tryd.func11, Tryd.ntmps11
    go_wp2_with (first | ((with_reducible refine gate_dst (N := 1) rfl ?_); refine box_event ?hg (N := 1) ?hd (cs := #[.int .i64 a0_0, .int .i64 a0_1, .int .i64 a0_2, .slice A0_3 l0_3.length c0_3, .int .i64 a0_4, .int .i64 a0_5, .int .i64 a0_6, .int .i64 a0_7, .int .i64 a0_8, .int .i64 a0_9, .int .i64 a0_10, .int .i64 a0_11, .int .i64 a0_12, .int .i64 a0_13, .int .i64 a0_14]) (t := 49) ?hr ?_; (case hd => rfl); (case hg => rfl); (case hr => first | (go_simp; done) | (go_simp; rfl)); intro gb152 hg w5 hbox hb; have n0_ := Aside0.mk (below_step (by repeat (first | (with_reducible first | exact HB.out | apply below_alloc | apply pw_below_drewN | apply below_drew1) | exact HB.out)) hb); have n1_ := Aside0.mk (hbox); have n2_ := Aside0.mk ((by rw [hg]; exact (below_size (by repeat (first | (with_reducible first | exact HB.out | apply below_alloc | apply pw_below_drewN | apply below_drew1) | exact HB.out))) : w.heap.size ≤ gb152)); have n3_ := Aside0.mk ((by rw [hg]; exact (below_size (by repeat (first | (with_reducible first | exact HB.out | apply below_alloc | apply pw_below_drewN | apply below_drew1) | exact HB.out))) : w.heap.size ≤ gb152)); clear HB; have HB := n0_; have BK152 := n1_; have GW152 := n2_; have GE152 := n3_; clear n0_ n1_ n2_ n3_; clear hb hbox hg; have hcz6_0 : w5.cell? ⟨gb152, 0, none⟩ = some (.int .i64 a0_0) := (blk_cell BK152.out 0).trans rfl; have hcz6_1 : w5.cell? ⟨gb152, 1, none⟩ = some (.int .i64 a0_1) := (blk_cell BK152.out 1).trans rfl; have hcz6_2 : w5.cell? ⟨gb152, 2, none⟩ = some (.int .i64 a0_2) := (blk_cell BK152.out 2).trans rfl; have hcz6_3 : w5.cell? ⟨gb152, 3, none⟩ = some (.slice A0_3 l0_3.length c0_3) := (blk_cell BK152.out 3).trans rfl; have hcz6_4 : w5.cell? ⟨gb152, 4, none⟩ = some (.int .i64 a0_4) := (blk_cell BK152.out 4).trans rfl; have hcz6_5 : w5.cell? ⟨gb152, 5, none⟩ = some (.int .i64 a0_5) := (blk_cell BK152.out 5).trans rfl; have hcz6_6 : w5.cell? ⟨gb152, 6, none⟩ = some (.int .i64 a0_6) := (blk_cell BK152.out 6).trans rfl; have hcz6_7 : w5.cell? ⟨gb152, 7, none⟩ = some (.int .i64 a0_7) := (blk_cell BK152.out 7).trans rfl; have hcz6_8 : w5.cell? ⟨gb152, 8, none⟩ = some (.int .i64 a0_8) := (blk_cell BK152.out 8).trans rfl; have hcz6_9 : w5.cell? ⟨gb152, 9, none⟩ = some (.int .i64 a0_9) := (blk_cell BK152.out 9).trans rfl; have hcz6_10 : w5.cell? ⟨gb152, 10, none⟩ = some (.int .i64 a0_10) := (blk_cell BK152.out 10).trans rfl; have hcz6_11 : w5.cell? ⟨gb152, 11, none⟩ = some (.int .i64 a0_11) := (blk_cell BK152.out 11).trans rfl; have hcz6_12 : w5.cell? ⟨gb152, 12, none⟩ = some (.int .i64 a0_12) := (blk_cell BK152.out 12).trans rfl; have hcz6_13 : w5.cell? ⟨gb152, 13, none⟩ = some (.int .i64 a0_13) := (blk_cell BK152.out 13).trans rfl; have hcz6_14 : w5.cell? ⟨gb152, 14, none⟩ = some (.int .i64 a0_14) := (blk_cell BK152.out 14).trans rfl; have hfz6_0 := blk_frozen BK152.out 0; have hfz6_1 := blk_frozen BK152.out 1; have hfz6_2 := blk_frozen BK152.out 2; have hfz6_3 := blk_frozen BK152.out 3; have hfz6_4 := blk_frozen BK152.out 4; have hfz6_5 := blk_frozen BK152.out 5; have hfz6_6 := blk_frozen BK152.out 6; have hfz6_7 := blk_frozen BK152.out 7; have hfz6_8 := blk_frozen BK152.out 8; have hfz6_9 := blk_frozen BK152.out 9; have hfz6_10 := blk_frozen BK152.out 10; have hfz6_11 := blk_frozen BK152.out 11; have hfz6_12 := blk_frozen BK152.out 12; have hfz6_13 := blk_frozen BK152.out 13; have hfz6_14 := blk_frozen BK152.out 14) | ((with_reducible refine gate_callee (f := 24) rfl ?_); refine goesL_ (some 15) rfl rfl Tryd.func24 (by kernel_rfl) rfl #[.agg #[.int .i64 a0_0, .int .i64 a0_1, .int .i64 a0_2, .slice A0_3 l0_3.length c0_3]] rfl (by (try simp only [List.map_toArray, List.map_cons, List.map_nil]); first | done | rfl | (simp only [List.length_drop, List.length_take]; rfl)) ?_; (with_reducible refine (bivouaclaw17_few.calls a0_0 a0_1 a0_2 (fun k_ => k_ < w.heap.size) _ _ l0_3 t153 t154 t155 t156 _ ?side1 A2.out).mono ?_); (case side1 => exact Kd.V_mk HC0_3.out (Kd.F_below (Kd.C_F (Kd.heap_int .u8) HR0_3.out) (by repeat (first | (with_reducible first | exact HB.out | apply below_alloc | apply pw_below_drewN | apply below_drew1 | refine below_set ?_ GE152.out) | exact HB.out)))); rintro e w7 ⟨v157, rfl, ho0, hb⟩; refine ⟨_, rfl, ?_⟩; have n0_ := Aside0.mk (Kd.V_lower (Kd.V_mono (ok' := fun k_ => k_ ≠ gb152) ho0 (fun k_ hk_ => Or.elim hk_ (fun hs_ => fun e_ => Nat.not_le.2 hs_ (by rw [e_]; exact GW152.out)) (fun hn_ => (Kd.freshB (g := gb152) (o := .cells #[.int .i64 a0_0, .int .i64 a0_1, .int .i64 a0_2, .slice A0_3 l0_3.length c0_3, .int .i64 a0_4, .int .i64 a0_5, .int .i64 a0_6, .int .i64 a0_7, .int .i64 a0_8, .int .i64 a0_9, .int .i64 a0_10, .int .i64 a0_11, .int .i64 a0_12, .int .i64 a0_13, .int .i64 a0_14] 49 (0, 0)) (by (with_reducible repeat (first | refine blk_drewN ?_ _ | refine blk_drew ?_ | refine blk_alloc ?_ _)); exact BK152.out) k_ hn_)))) (below_size (by repeat (first | (with_reducible first | exact HB.out | apply below_alloc | apply pw_below_drewN | apply below_drew1 | refine below_set ?_ GE152.out) | exact HB.out)))); have n1_ := Aside0.mk (blk_below (g := gb152) (o := .cells #[.int .i64 a0_0, .int .i64 a0_1, .int .i64 a0_2, .slice A0_3 l0_3.length c0_3, .int .i64 a0_4, .int .i64 a0_5, .int .i64 a0_6, .int .i64 a0_7, .int .i64 a0_8, .int .i64 a0_9, .int .i64 a0_10, .int .i64 a0_11, .int .i64 a0_12, .int .i64 a0_13, .int .i64 a0_14] 49 (0, 0)) (by (with_reducible repeat (first | refine blk_drewN ?_ _ | refine blk_drew ?_ | refine blk_alloc ?_ _)); exact BK152.out) hb); have n2_ := Aside0.mk (below_step (by repeat (first | (with_reducible first | exact HB.out | apply below_alloc | apply pw_below_drewN | apply below_drew1 | refine below_set ?_ GE152.out) | exact HB.out)) hb); clear BK152; clear HB; have HO158 := n0_; have BK152 := n1_; have HB := n2_; clear n0_ n1_ n2_; (try clear hb); (try clear hb2); (try clear hk); (try clear hi); (try clear ho0)) | ((with_reducible refine gate_dst (N := 3) rfl ?_); refine box_event ?hg (N := 3) ?hd (cs := #[.int .i64 0, .int .i64 0, .int .i64 0, .slice none 0 0]) (t := 45) ?hr ?_; (case hd => rfl); (case hg => rfl); (case hr => first | (go_simp; done) | (go_simp; rfl)); intro gb159 hg w8 hbox hb; have n0_ := Aside0.mk (Kd.V_below (Kd.V_elderB (by (with_reducible repeat (first | apply Kd.V_alloc | apply Kd.V_drewN | apply Kd.V_drew)); exact HO158.out) gb159 (Nat.le_of_eq hg.symm)) hb); have n1_ := Aside0.mk (blk_below (g := gb152) (o := .cells #[.int .i64 a0_0, .int .i64 a0_1, .int .i64 a0_2, .slice A0_3 l0_3.length c0_3, .int .i64 a0_4, .int .i64 a0_5, .int .i64 a0_6, .int .i64 a0_7, .int .i64 a0_8, .int .i64 a0_9, .int .i64 a0_10, .int .i64 a0_11, .int .i64 a0_12, .int .i64 a0_13, .int .i64 a0_14] 49 (0, 0)) (by (with_reducible repeat (first | refine blk_drewN ?_ _ | refine blk_drew ?_ | refine blk_alloc ?_ _)); exact BK152.out) hb); have n2_ := Aside0.mk (below_step (by repeat (first | (with_reducible first | exact HB.out | apply below_alloc | apply pw_below_drewN | apply below_drew1 | refine below_set ?_ GE152.out) | exact HB.out)) hb); have n3_ := Aside0.mk (hbox); have n4_ := Aside0.mk ((by rw [hg]; exact (below_size (by repeat (first | (with_reducible first | exact HB.out | apply below_alloc | apply pw_below_drewN | apply below_drew1 | refine below_set ?_ GE152.out) | exact HB.out))) : w.heap.size ≤ gb159)); have n5_ := Aside0.mk ((by rw [hg]; exact (below_size (by repeat (first | (with_reducible first | exact HB.out | apply below_alloc | apply pw_below_drewN | apply below_drew1 | refine below_set ?_ GE152.out) | exact HB.out))) : w.heap.size ≤ gb159)); have n6_ := Aside0.mk ((by rw [hg]; exact Nat.ne_of_lt (blk_lt (g := gb152) (o := .cells #[.int .i64 a0_0, .int .i64 a0_1, .int .i64 a0_2, .slice A0_3 l0_3.length c0_3, .int .i64 a0_4, .int .i64 a0_5, .int .i64 a0_6, .int .i64 a0_7, .int .i64 a0_8, .int .i64 a0_9, .int .i64 a0_10, .int .i64 a0_11, .int .i64 a0_12, .int .i64 a0_13, .int .i64 a0_14] 49 (0, 0)) (by (with_reducible repeat (first | refine blk_drewN ?_ _ | refine blk_drew ?_ | refine blk_alloc ?_ _)); exact BK152.out)) : gb152 ≠ gb159)); have n7_ := Aside0.mk ((by rw [hg]; exact Nat.ne_of_gt (blk_lt (g := gb152) (o := .cells #[.int .i64 a0_0, .int .i64 a0_1, .int .i64 a0_2, .slice A0_3 l0_3.length c0_3, .int .i64 a0_4, .int .i64 a0_5, .int .i64 a0_6, .int .i64 a0_7, .int .i64 a0_8, .int .i64 a0_9, .int .i64 a0_10, .int .i64 a0_11, .int .i64 a0_12, .int .i64 a0_13, .int .i64 a0_14] 49 (0, 0)) (by (with_reducible repeat (first | refine blk_drewN ?_ _ | refine blk_drew ?_ | refine blk_alloc ?_ _)); exact BK152.out)) : gb159 ≠ gb152)); clear HO158; clear BK152; clear HB; have HO158 := n0_; have BK152 := n1_; have HB := n2_; have BK159 := n3_; have GW159 := n4_; have GE159 := n5_; have NB152_159 := n6_; have NB159_152 := n7_; clear n0_ n1_ n2_ n3_ n4_ n5_ n6_ n7_; clear hb hbox hg; have hnb9 := NB159_152.out; have hnc9 := NB152_159.out; have hcz10_0 : w8.cell? ⟨gb159, 0, none⟩ = some (.int .i64 0) := (blk_cell BK159.out 0).trans rfl; have hcz10_1 : w8.cell? ⟨gb159, 1, none⟩ = some (.int .i64 0) := (blk_cell BK159.out 1).trans rfl; have hcz10_2 : w8.cell? ⟨gb159, 2, none⟩ = some (.int .i64 0) := (blk_cell BK159.out 2).trans rfl; have hcz10_3 : w8.cell? ⟨gb159, 3, none⟩ = some (.slice none 0 0) := (blk_cell BK159.out 3).trans rfl; have hfz10_0 := blk_frozen BK159.out 0; have hfz10_1 := blk_frozen BK159.out 1; have hfz10_2 := blk_frozen BK159.out 2; have hfz10_3 := blk_frozen BK159.out 3; obtain ⟨Ao11, co11, eo11⟩ := Kd.V_slice HO158.out; subst eo11; have hcz12_0 : w8.cell? ⟨gb152, 0, none⟩ = some (.int .i64 a0_0) := (blk_cell BK152.out 0).trans rfl; have hcz12_1 : w8.cell? ⟨gb152, 1, none⟩ = some (.int .i64 a0_1) := (blk_cell BK152.out 1).trans rfl; have hcz12_2 : w8.cell? ⟨gb152, 2, none⟩ = some (.int .i64 a0_2) := (blk_cell BK152.out 2).trans rfl; have hcz12_3 : w8.cell? ⟨gb152, 3, none⟩ = some (.slice A0_3 l0_3.length c0_3) := (blk_cell BK152.out 3).trans rfl; have hcz12_4 : w8.cell? ⟨gb152, 4, none⟩ = some (.int .i64 a0_4) := (blk_cell BK152.out 4).trans rfl; have hcz12_5 : w8.cell? ⟨gb152, 5, none⟩ = some (.int .i64 a0_5) := (blk_cell BK152.out 5).trans rfl; have hcz12_6 : w8.cell? ⟨gb152, 6, none⟩ = some (.int .i64 a0_6) := (blk_cell BK152.out 6).trans rfl; have hcz12_7 : w8.cell? ⟨gb152, 7, none⟩ = some (.int .i64 a0_7) := (blk_cell BK152.out 7).trans rfl; have hcz12_8 : w8.cell? ⟨gb152, 8, none⟩ = some (.int .i64 a0_8) := (blk_cell BK152.out 8).trans rfl; have hcz12_9 : w8.cell? ⟨gb152, 9, none⟩ = some (.int .i64 a0_9) := (blk_cell BK152.out 9).trans rfl; have hcz12_10 : w8.cell? ⟨gb152, 10, none⟩ = some (.int .i64 a0_10) := (blk_cell BK152.out 10).trans rfl; have hcz12_11 : w8.cell? ⟨gb152, 11, none⟩ = some (.int .i64 a0_11) := (blk_cell BK152.out 11).trans rfl; have hcz12_12 : w8.cell? ⟨gb152, 12, none⟩ = some (.int .i64 a0_12) := (blk_cell BK152.out 12).trans rfl; have hcz12_13 : w8.cell? ⟨gb152, 13, none⟩ = some (.int .i64 a0_13) := (blk_cell BK152.out 13).trans rfl; have hcz12_14 : w8.cell? ⟨gb152, 14, none⟩ = some (.int .i64 a0_14) := (blk_cell BK152.out 14).trans rfl; have hfz12_0 := blk_frozen BK152.out 0; have hfz12_1 := blk_frozen BK152.out 1; have hfz12_2 := blk_frozen BK152.out 2; have hfz12_3 := blk_frozen BK152.out 3; have hfz12_4 := blk_frozen BK152.out 4; have hfz12_5 := blk_frozen BK152.out 5; have hfz12_6 := blk_frozen BK152.out 6; have hfz12_7 := blk_frozen BK152.out 7; have hfz12_8 := blk_frozen BK152.out 8; have hfz12_9 := blk_frozen BK152.out 9; have hfz12_10 := blk_frozen BK152.out 10; have hfz12_11 := blk_frozen BK152.out 11; have hfz12_12 := blk_frozen BK152.out 12; have hfz12_13 := blk_frozen BK152.out 13; have hfz12_14 := blk_frozen BK152.out 14) | ((with_reducible refine gate_callee (f := 25) rfl ?_); refine goesL_ (some 26) rfl rfl Tryd.func25 (by kernel_rfl) rfl #[.agg #[.int .i64 t153, .int .i64 t154, .int .i64 t155, .slice Ao11 t156.length co11], .agg #[.int .i64 a0_4, .int .i64 a0_5, .int .i64 a0_6, .int .i64 a0_7, .int .i64 a0_8, .int .i64 a0_9], .int .i64 a0_10, .int .i64 a0_11, .int .i64 a0_12] rfl (by (try simp only [List.map_toArray, List.map_cons, List.map_nil]); first | done | rfl | (simp only [List.length_drop, List.length_take]; rfl)) ?_; (with_reducible refine (aim_Solve.calls k t153 t154 t155 _ _ t156 a0_4 a0_5 a0_6 a0_7 a0_8 a0_9 a0_10 a0_11 a0_12 t160 t161 t162 t163 t164 t165 t166 t167 _ ?side1 ?side2 ?side3 A3.out).mono ?_); (case side1 => refine (Kd.V_reads' (e := 5) (base := w.heap.size) (ok := fun k_ => (k_ ≠ gb152 ∧ k_ ≠ gb159)) (n := t156.length) (c := co11) ?_).2.2; exact (by (with_reducible repeat (first | apply Kd.V_alloc | apply Kd.V_drewN | apply Kd.V_drew)); exact (Kd.V_mono (Kd.V_far (p := ⟨gb159, 3, none⟩) (Kd.V_far (p := ⟨gb159, 2, none⟩) (Kd.V_far (p := ⟨gb159, 1, none⟩) (Kd.V_far (p := ⟨gb159, 0, none⟩) (Kd.V_mono HO158.out (fun k_ hk => (⟨hk, hk.2⟩ : _ ∧ k_ ≠ gb159))) (fun _ hk => hk.2) (.int .i64 t153)) (fun _ hk => hk.2) (.int .i64 t154)) (fun _ hk => hk.2) (.int .i64 t155)) (fun _ hk => hk.2) (.slice Ao11 t156.length co11)) (fun _ h_ => h_.1)))); (case side2 => exact (Kd.V_reads' HO158.out).2.1); (case side3 => exact Tg.Tab.below HTAB.out (by repeat (first | (with_reducible first | exact HB.out | apply below_alloc | apply pw_below_drewN | apply below_drew1 | refine below_set ?_ GE152.out | refine below_set ?_ GE159.out) | exact HB.out))); rintro e w13 ⟨rfl, hb⟩; refine ⟨_, rfl, ?_⟩; have n0_ := Aside0.mk (Kd.V_below (by (with_reducible repeat (first | apply Kd.V_alloc | apply Kd.V_drewN | apply Kd.V_drew)); exact (Kd.V_mono (Kd.V_far (p := ⟨gb159, 3, none⟩) (Kd.V_far (p := ⟨gb159, 2, none⟩) (Kd.V_far (p := ⟨gb159, 1, none⟩) (Kd.V_far (p := ⟨gb159, 0, none⟩) (Kd.V_mono HO158.out (fun k_ hk => (⟨hk, hk.2⟩ : _ ∧ k_ ≠ gb159))) (fun _ hk => hk.2) (.int .i64 t153)) (fun _ hk => hk.2) (.int .i64 t154)) (fun _ hk => hk.2) (.int .i64 t155)) (fun _ hk => hk.2) (.slice Ao11 t156.length co11)) (fun _ h_ => h_.1))) hb); have n1_ := Aside0.mk (blk_below (g := gb152) (o := .cells #[.int .i64 a0_0, .int .i64 a0_1, .int .i64 a0_2, .slice A0_3 l0_3.length c0_3, .int .i64 a0_4, .int .i64 a0_5, .int .i64 a0_6, .int .i64 a0_7, .int .i64 a0_8, .int .i64 a0_9, .int .i64 a0_10, .int .i64 a0_11, .int .i64 a0_12, .int .i64 a0_13, .int .i64 a0_14] 49 (0, 0)) (by (with_reducible repeat (first | refine blk_drewN ?_ _ | refine blk_drew ?_ | refine blk_alloc ?_ _)); refine blk_far ?_ NB152_159.out _; (with_reducible repeat (first | refine blk_drewN ?_ _ | refine blk_drew ?_ | refine blk_alloc ?_ _)); refine blk_far ?_ NB152_159.out _; (with_reducible repeat (first | refine blk_drewN ?_ _ | refine blk_drew ?_ | refine blk_alloc ?_ _)); refine blk_far ?_ NB152_159.out _; (with_reducible repeat (first | refine blk_drewN ?_ _ | refine blk_drew ?_ | refine blk_alloc ?_ _)); refine blk_far ?_ NB152_159.out _; (with_reducible repeat (first | refine blk_drewN ?_ _ | refine blk_drew ?_ | refine blk_alloc ?_ _)); exact BK152.out) hb); have n2_ := Aside0.mk (blk_below (g := gb159) (o := .cells #[.int .i64 t153, .int .i64 t154, .int .i64 t155, .slice Ao11 t156.length co11] 45 (0, 0)) (by (with_reducible repeat (first | refine blk_drewN ?_ _ | refine blk_drew ?_ | refine blk_alloc ?_ _)); refine blk_put (cs := #[.int .i64 t153, .int .i64 t154, .int .i64 t155, .slice none 0 0]) ?_ 3 _ rfl; (with_reducible repeat (first | refine blk_drewN ?_ _ | refine blk_drew ?_ | refine blk_alloc ?_ _)); refine blk_put (cs := #[.int .i64 t153, .int .i64 t154, .int .i64 0, .slice none 0 0]) ?_ 2 _ rfl; (with_reducible repeat (first | refine blk_drewN ?_ _ | refine blk_drew ?_ | refine blk_alloc ?_ _)); refine blk_put (cs := #[.int .i64 t153, .int .i64 0, .int .i64 0, .slice none 0 0]) ?_ 1 _ rfl; (with_reducible repeat (first | refine blk_drewN ?_ _ | refine blk_drew ?_ | refine blk_alloc ?_ _)); refine blk_put (cs := #[.int .i64 0, .int .i64 0, .int .i64 0, .slice none 0 0]) ?_ 0 _ rfl; (with_reducible repeat (first | refine blk_drewN ?_ _ | refine blk_drew ?_ | refine blk_alloc ?_ _)); exact BK159.out) hb); have n3_ := Aside0.mk (below_step (by repeat (first | (with_reducible first | exact HB.out | apply below_alloc | apply pw_below_drewN | apply below_drew1 | refine below_set ?_ GE152.out | refine below_set ?_ GE159.out) | exact HB.out)) hb); clear HO158; clear BK152; clear BK159; clear HB; have HO158 := n0_; have BK152 := n1_; have BK159 := n2_; have HB := n3_; clear n0_ n1_ n2_ n3_; (try clear hb); (try clear hb2); (try clear hk); (try clear hi)) | ((with_reducible refine gate_dst (N := 4) rfl ?_); refine box_event ?hg (N := 4) ?hd (cs := #[.int .i64 0, .int .i64 0, .int .i64 0, .int .i64 0, .int .i64 0, .int .i64 0]) (t := 47) ?hr ?_; (case hd => rfl); (case hg => rfl); (case hr => first | (go_simp; done) | (go_simp; rfl)); intro gb168 hg w14 hbox hb; have n0_ := Aside0.mk (Kd.V_below (Kd.V_elderB (by (with_reducible repeat (first | apply Kd.V_alloc | apply Kd.V_drewN | apply Kd.V_drew)); exact HO158.out) gb168 (Nat.le_of_eq hg.symm)) hb); have n1_ := Aside0.mk (blk_below (g := gb152) (o := .cells #[.int .i64 a0_0, .int .i64 a0_1, .int .i64 a0_2, .slice A0_3 l0_3.length c0_3, .int .i64 a0_4, .int .i64 a0_5, .int .i64 a0_6, .int .i64 a0_7, .int .i64 a0_8, .int .i64 a0_9, .int .i64 a0_10, .int .i64 a0_11, .int .i64 a0_12, .int .i64 a0_13, .int .i64 a0_14] 49 (0, 0)) (by (with_reducible repeat (first | refine blk_drewN ?_ _ | refine blk_drew ?_ | refine blk_alloc ?_ _)); exact BK152.out) hb); have n2_ := Aside0.mk (blk_below (g := gb159) (o := .cells #[.int .i64 t153, .int .i64 t154, .int .i64 t155, .slice Ao11 t156.length co11] 45 (0, 0)) (by (with_reducible repeat (first | refine blk_drewN ?_ _ | refine blk_drew ?_ | refine blk_alloc ?_ _)); exact BK159.out) hb); have n3_ := Aside0.mk (below_step (by repeat (first | (with_reducible first | exact HB.out | apply below_alloc | apply pw_below_drewN | apply below_drew1 | refine below_set ?_ GE152.out | refine below_set ?_ GE159.out) | exact HB.out)) hb); have n4_ := Aside0.mk (hbox); have n5_ := Aside0.mk ((by rw [hg]; exact (below_size (by repeat (first | (with_reducible first | exact HB.out | apply below_alloc | apply pw_below_drewN | apply below_drew1 | refine below_set ?_ GE152.out | refine below_set ?_ GE159.out) | exact HB.out))) : w.heap.size ≤ gb168)); have n6_ := Aside0.mk ((by rw [hg]; exact (below_size (by repeat (first | (with_reducible first | exact HB.out | apply below_alloc | apply pw_below_drewN | apply below_drew1 | refine below_set ?_ GE152.out | refine below_set ?_ GE159.out) | exact HB.out))) : w.heap.size ≤ gb168)); have n7_ := Aside0.mk ((by rw [hg]; exact Nat.ne_of_lt (blk_lt (g := gb152) (o := .cells #[.int .i64 a0_0, .int .i64 a0_1, .int .i64 a0_2, .slice A0_3 l0_3.length c0_3, .int .i64 a0_4, .int .i64 a0_5, .int .i64 a0_6, .int .i64 a0_7, .int .i64 a0_8, .int .i64 a0_9, .int .i64 a0_10, .int .i64 a0_11, .int .i64 a0_12, .int .i64 a0_13, .int .i64 a0_14] 49 (0, 0)) (by (with_reducible repeat (first | refine blk_drewN ?_ _ | refine blk_drew ?_ | refine blk_alloc ?_ _)); exact BK152.out)) : gb152 ≠ gb168)); have n8_ := Aside0.mk ((by rw [hg]; exact Nat.ne_of_gt (blk_lt (g := gb152) (o := .cells #[.int .i64 a0_0, .int .i64 a0_1, .int .i64 a0_2, .slice A0_3 l0_3.length c0_3, .int .i64 a0_4, .int .i64 a0_5, .int .i64 a0_6, .int .i64 a0_7, .int .i64 a0_8, .int .i64 a0_9, .int .i64 a0_10, .int .i64 a0_11, .int .i64 a0_12, .int .i64 a0_13, .int .i64 a0_14] 49 (0, 0)) (by (with_reducible repeat (first | refine blk_drewN ?_ _ | refine blk_drew ?_ | refine blk_alloc ?_ _)); exact BK152.out)) : gb168 ≠ gb152)); have n9_ := Aside0.mk ((by rw [hg]; exact Nat.ne_of_lt (blk_lt (g := gb159) (o := .cells #[.int .i64 t153, .int .i64 t154, .int .i64 t155, .slice Ao11 t156.length co11] 45 (0, 0)) (by (with_reducible repeat (first | refine blk_drewN ?_ _ | refine blk_drew ?_ | refine blk_alloc ?_ _)); exact BK159.out)) : gb159 ≠ gb168)); have n10_ := Aside0.mk ((by rw [hg]; exact Nat.ne_of_gt (blk_lt (g := gb159) (o := .cells #[.int .i64 t153, .int .i64 t154, .int .i64 t155, .slice Ao11 t156.length co11] 45 (0, 0)) (by (with_reducible repeat (first | refine blk_drewN ?_ _ | refine blk_drew ?_ | refine blk_alloc ?_ _)); exact BK159.out)) : gb168 ≠ gb159)); clear HO158; clear BK152; clear BK159; clear HB; have HO158 := n0_; have BK152 := n1_; have BK159 := n2_; have HB := n3_; have BK168 := n4_; have GW168 := n5_; have GE168 := n6_; have NB152_168 := n7_; have NB168_152 := n8_; have NB159_168 := n9_; have NB168_159 := n10_; clear n0_ n1_ n2_ n3_ n4_ n5_ n6_ n7_ n8_ n9_ n10_; clear hb hbox hg; have hnb15 := NB168_152.out; have hnc15 := NB152_168.out; have hnb16 := NB168_159.out; have hnc16 := NB159_168.out; have hcz17_0 : w14.cell? ⟨gb168, 0, none⟩ = some (.int .i64 0) := (blk_cell BK168.out 0).trans rfl; have hcz17_1 : w14.cell? ⟨gb168, 1, none⟩ = some (.int .i64 0) := (blk_cell BK168.out 1).trans rfl; have hcz17_2 : w14.cell? ⟨gb168, 2, none⟩ = some (.int .i64 0) := (blk_cell BK168.out 2).trans rfl; have hcz17_3 : w14.cell? ⟨gb168, 3, none⟩ = some (.int .i64 0) := (blk_cell BK168.out 3).trans rfl; have hcz17_4 : w14.cell? ⟨gb168, 4, none⟩ = some (.int .i64 0) := (blk_cell BK168.out 4).trans rfl; have hcz17_5 : w14.cell? ⟨gb168, 5, none⟩ = some (.int .i64 0) := (blk_cell BK168.out 5).trans rfl; have hfz17_0 := blk_frozen BK168.out 0; have hfz17_1 := blk_frozen BK168.out 1; have hfz17_2 := blk_frozen BK168.out 2; have hfz17_3 := blk_frozen BK168.out 3; have hfz17_4 := blk_frozen BK168.out 4; have hfz17_5 := blk_frozen BK168.out 5))
    go_loopg [7] k (fun kq v7 w' => ∃ (x7_1 : Int), v7 = .int .i64 x7_1 ∧ Aside0 (bivouaclaw17_AimHits.l0 kq t166 x7_1 a0_0 a0_1 a0_2 l0_3 a0_4 a0_5 a0_6 a0_7 a0_8 a0_9 a0_10 a0_11 a0_12 a0_13 a0_14 t153 t154 t155 t156 t160 t161 t162 t163 t164 t165 = some true) ∧ Aside0 (kq ≤ k) ∧ Aside0 (Kd.V (Kd.int .u8) 5 w' w.heap.size (fun k_ => k_ ≠ gb152 ∧ k_ ≠ gb159 ∧ k_ ≠ gb168) (.slice Ao11 t156.length co11) t156) ∧ Aside0 (w'.heap[gb152]? = some (.cells #[.int .i64 a0_0, .int .i64 a0_1, .int .i64 a0_2, (.slice A0_3 l0_3.length c0_3), .int .i64 a0_4, .int .i64 a0_5, .int .i64 a0_6, .int .i64 a0_7, .int .i64 a0_8, .int .i64 a0_9, .int .i64 a0_10, .int .i64 a0_11, .int .i64 a0_12, .int .i64 a0_13, .int .i64 a0_14] 49 (0, 0))) ∧ Aside0 (w'.heap[gb159]? = some (.cells #[.int .i64 t153, .int .i64 t154, .int .i64 t155, (.slice Ao11 t156.length co11)] 45 (0, 0))) ∧ Aside0 (w'.heap[gb168]? = some (.cells #[.int .i64 t160, .int .i64 t161, .int .i64 t162, .int .i64 t163, .int .i64 t164, .int .i64 t165] 47 (0, 0))) ∧ Aside0 (Below w.heap.size w w'))
    case atStart => exact ⟨(0), (by first | rfl | (simp; done) | (simp [*]; done)), H', ⟨Nat.le_refl _⟩, ⟨by (with_reducible repeat (first | apply Kd.V_alloc | apply Kd.V_drewN | apply Kd.V_drew)); exact Kd.V_mono (Kd.V_far (p := ⟨gb168, 5, none⟩) (Kd.V_far (p := ⟨gb168, 4, none⟩) (Kd.V_far (p := ⟨gb168, 3, none⟩) (Kd.V_far (p := ⟨gb168, 2, none⟩) (Kd.V_far (p := ⟨gb168, 1, none⟩) (Kd.V_far (p := ⟨gb168, 0, none⟩) (Kd.V_mono HO158.out (fun k_ hk => (⟨hk, hk.2⟩ : _ ∧ k_ ≠ gb168))) (fun _ hk => hk.2) (.int .i64 t160)) (fun _ hk => hk.2) (.int .i64 t161)) (fun _ hk => hk.2) (.int .i64 t162)) (fun _ hk => hk.2) (.int .i64 t163)) (fun _ hk => hk.2) (.int .i64 t164)) (fun _ hk => hk.2) (.int .i64 t165)) (fun _ hk => ⟨hk.1.1.1, ⟨hk.1.1.2, hk.1.2⟩⟩)⟩, ⟨by (with_reducible repeat (first | refine blk_drewN ?_ _ | refine blk_drew ?_ | refine blk_alloc ?_ _)); refine blk_far ?_ NB152_168.out _; (with_reducible repeat (first | refine blk_drewN ?_ _ | refine blk_drew ?_ | refine blk_alloc ?_ _)); refine blk_far ?_ NB152_168.out _; (with_reducible repeat (first | refine blk_drewN ?_ _ | refine blk_drew ?_ | refine blk_alloc ?_ _)); refine blk_far ?_ NB152_168.out _; (with_reducible repeat (first | refine blk_drewN ?_ _ | refine blk_drew ?_ | refine blk_alloc ?_ _)); refine blk_far ?_ NB152_168.out _; (with_reducible repeat (first | refine blk_drewN ?_ _ | refine blk_drew ?_ | refine blk_alloc ?_ _)); refine blk_far ?_ NB152_168.out _; (with_reducible repeat (first | refine blk_drewN ?_ _ | refine blk_drew ?_ | refine blk_alloc ?_ _)); refine blk_far ?_ NB152_168.out _; (with_reducible repeat (first | refine blk_drewN ?_ _ | refine blk_drew ?_ | refine blk_alloc ?_ _)); exact BK152.out⟩, ⟨by (with_reducible repeat (first | refine blk_drewN ?_ _ | refine blk_drew ?_ | refine blk_alloc ?_ _)); refine blk_far ?_ NB159_168.out _; (with_reducible repeat (first | refine blk_drewN ?_ _ | refine blk_drew ?_ | refine blk_alloc ?_ _)); refine blk_far ?_ NB159_168.out _; (with_reducible repeat (first | refine blk_drewN ?_ _ | refine blk_drew ?_ | refine blk_alloc ?_ _)); refine blk_far ?_ NB159_168.out _; (with_reducible repeat (first | refine blk_drewN ?_ _ | refine blk_drew ?_ | refine blk_alloc ?_ _)); refine blk_far ?_ NB159_168.out _; (with_reducible repeat (first | refine blk_drewN ?_ _ | refine blk_drew ?_ | refine blk_alloc ?_ _)); refine blk_far ?_ NB159_168.out _; (with_reducible repeat (first | refine blk_drewN ?_ _ | refine blk_drew ?_ | refine blk_alloc ?_ _)); refine blk_far ?_ NB159_168.out _; (with_reducible repeat (first | refine blk_drewN ?_ _ | refine blk_drew ?_ | refine blk_alloc ?_ _)); exact BK159.out⟩, ⟨by (with_reducible repeat (first | refine blk_drewN ?_ _ | refine blk_drew ?_ | refine blk_alloc ?_ _)); refine blk_put (cs := #[.int .i64 t160, .int .i64 t161, .int .i64 t162, .int .i64 t163, .int .i64 t164, .int .i64 0]) ?_ 5 _ rfl; (with_reducible repeat (first | refine blk_drewN ?_ _ | refine blk_drew ?_ | refine blk_alloc ?_ _)); refine blk_put (cs := #[.int .i64 t160, .int .i64 t161, .int .i64 t162, .int .i64 t163, .int .i64 0, .int .i64 0]) ?_ 4 _ rfl; (with_reducible repeat (first | refine blk_drewN ?_ _ | refine blk_drew ?_ | refine blk_alloc ?_ _)); refine blk_put (cs := #[.int .i64 t160, .int .i64 t161, .int .i64 t162, .int .i64 0, .int .i64 0, .int .i64 0]) ?_ 3 _ rfl; (with_reducible repeat (first | refine blk_drewN ?_ _ | refine blk_drew ?_ | refine blk_alloc ?_ _)); refine blk_put (cs := #[.int .i64 t160, .int .i64 t161, .int .i64 0, .int .i64 0, .int .i64 0, .int .i64 0]) ?_ 2 _ rfl; (with_reducible repeat (first | refine blk_drewN ?_ _ | refine blk_drew ?_ | refine blk_alloc ?_ _)); refine blk_put (cs := #[.int .i64 t160, .int .i64 0, .int .i64 0, .int .i64 0, .int .i64 0, .int .i64 0]) ?_ 1 _ rfl; (with_reducible repeat (first | refine blk_drewN ?_ _ | refine blk_drew ?_ | refine blk_alloc ?_ _)); refine blk_put (cs := #[.int .i64 0, .int .i64 0, .int .i64 0, .int .i64 0, .int .i64 0, .int .i64 0]) ?_ 0 _ rfl; (with_reducible repeat (first | refine blk_drewN ?_ _ | refine blk_drew ?_ | refine blk_alloc ?_ _)); exact BK168.out⟩, ⟨by repeat (first | (with_reducible first | exact HB.out | apply below_alloc | apply pw_below_drewN | apply below_drew1 | refine below_set ?_ GE152.out | refine below_set ?_ GE159.out | refine below_set ?_ GE168.out) | exact HB.out)⟩⟩
    case round =>
      clear H'
      try clear c1
      try clear c2
      try clear p2
      try clear c4
      try clear c4b0
      try clear c4b1
      try clear c9
      try clear c11
      try clear c15
      try clear c16
      try clear hcz10_0
      try clear hcz10_1
      try clear hcz10_2
      try clear hcz10_3
      try clear hcz12_0
      try clear hcz12_1
      try clear hcz12_10
      try clear hcz12_11
      try clear hcz12_12
      try clear hcz12_13
      try clear hcz12_14
      try clear hcz12_2
      try clear hcz12_3
      try clear hcz12_4
      try clear hcz12_5
      try clear hcz12_6
      try clear hcz12_7
      try clear hcz12_8
      try clear hcz12_9
      try clear hcz17_0
      try clear hcz17_1
      try clear hcz17_2
      try clear hcz17_3
      try clear hcz17_4
      try clear hcz17_5
      try clear hcz6_0
      try clear hcz6_1
      try clear hcz6_10
      try clear hcz6_11
      try clear hcz6_12
      try clear hcz6_13
      try clear hcz6_14
      try clear hcz6_2
      try clear hcz6_3
      try clear hcz6_4
      try clear hcz6_5
      try clear hcz6_6
      try clear hcz6_7
      try clear hcz6_8
      try clear hcz6_9
      try clear hfz10_0
      try clear hfz10_1
      try clear hfz10_2
      try clear hfz10_3
      try clear hfz12_0
      try clear hfz12_1
      try clear hfz12_10
      try clear hfz12_11
      try clear hfz12_12
      try clear hfz12_13
      try clear hfz12_14
      try clear hfz12_2
      try clear hfz12_3
      try clear hfz12_4
      try clear hfz12_5
      try clear hfz12_6
      try clear hfz12_7
      try clear hfz12_8
      try clear hfz12_9
      try clear hfz17_0
      try clear hfz17_1
      try clear hfz17_2
      try clear hfz17_3
      try clear hfz17_4
      try clear hfz17_5
      try clear hfz6_0
      try clear hfz6_1
      try clear hfz6_10
      try clear hfz6_11
      try clear hfz6_12
      try clear hfz6_13
      try clear hfz6_14
      try clear hfz6_2
      try clear hfz6_3
      try clear hfz6_4
      try clear hfz6_5
      try clear hfz6_6
      try clear hfz6_7
      try clear hfz6_8
      try clear hfz6_9
      obtain ⟨x7_1, rfl, HA, HK1, HO_160003, BK152, BK159, BK168, HB⟩ := hrel
      cases gk with
      | zero => exact absurd HA.out (by simp [bivouaclaw17_AimHits.l0])
      | succ k1 =>
        have H := HA.out
        clear HA
        simp only [bivouaclaw17_AimHits.l0] at H
        have HC18 := Aside0.mk H
        clear H
        go_upto_region 6 with (fail)
        go_cut [48] (fun v48 wc => ∃ (kq : Nat) (x48_17 : Bool), v48 = .bool x48_17 ∧ Aside0 (bivouaclaw17_AimHits.j1 kq t166 x7_1 x48_17 a0_0 a0_1 a0_2 l0_3 a0_4 a0_5 a0_6 a0_7 a0_8 a0_9 a0_10 a0_11 a0_12 a0_13 a0_14 t153 t154 t155 t156 t160 t161 t162 t163 t164 t165 = some true) ∧ Aside0 (kq ≤ k1) ∧ Aside0 (Kd.V (Kd.int .u8) 5 wc w.heap.size (fun k_ => k_ ≠ gb152 ∧ k_ ≠ gb159 ∧ k_ ≠ gb168) (.slice Ao11 t156.length co11) t156) ∧ Aside0 (wc.heap[gb152]? = some (.cells #[.int .i64 a0_0, .int .i64 a0_1, .int .i64 a0_2, (.slice A0_3 l0_3.length c0_3), .int .i64 a0_4, .int .i64 a0_5, .int .i64 a0_6, .int .i64 a0_7, .int .i64 a0_8, .int .i64 a0_9, .int .i64 a0_10, .int .i64 a0_11, .int .i64 a0_12, .int .i64 a0_13, .int .i64 a0_14] 49 (0, 0))) ∧ Aside0 (wc.heap[gb159]? = some (.cells #[.int .i64 t153, .int .i64 t154, .int .i64 t155, (.slice Ao11 t156.length co11)] 45 (0, 0))) ∧ Aside0 (wc.heap[gb168]? = some (.cells #[.int .i64 t160, .int .i64 t161, .int .i64 t162, .int .i64 t163, .int .i64 t164, .int .i64 t165] 47 (0, 0))) ∧ Aside0 (Below w.heap.size w wc))
        case first =>
          have H := HC18.out
          clear HC18
          by_cases c19 : x7_1 ≤ t166
          · rw [if_pos c19] at H
            have c19b0 : decide (x7_1 ≤ t166) = true := decide_eq_true c19
            clear c19
            (first | rw [c19b0] | (simp only [i64_w, i32_w]; rw [c19b0]) | skip)
            have H' := Aside0.mk H
            clear H
            go_wp2
            go_meet
            case rel => exact ⟨_, (decide (x7_1 ≤ 64)), (by first | rfl | (simp; done) | (simp [*]; done)), H', ⟨by have := HK1.out; first | omega | exact Nat.le_refl _⟩, ⟨by (with_reducible repeat (first | apply Kd.V_alloc | apply Kd.V_drewN | apply Kd.V_drew)); exact HO_160003.out⟩, ⟨by (with_reducible repeat (first | refine blk_drewN ?_ _ | refine blk_drew ?_ | refine blk_alloc ?_ _)); exact BK152.out⟩, ⟨by (with_reducible repeat (first | refine blk_drewN ?_ _ | refine blk_drew ?_ | refine blk_alloc ?_ _)); exact BK159.out⟩, ⟨by (with_reducible repeat (first | refine blk_drewN ?_ _ | refine blk_drew ?_ | refine blk_alloc ?_ _)); exact BK168.out⟩, ⟨by repeat (first | (with_reducible first | exact HB.out | apply below_alloc | apply pw_below_drewN | apply below_drew1 | refine below_set ?_ GE152.out | refine below_set ?_ GE159.out | refine below_set ?_ GE168.out) | exact HB.out)⟩⟩
          · rw [if_neg c19] at H
            have c19b0 : decide (x7_1 ≤ t166) = false := decide_eq_false c19
            clear c19
            (first | rw [c19b0] | (simp only [i64_w, i32_w]; rw [c19b0]) | skip)
            have H' := Aside0.mk H
            clear H
            go_wp2
            go_meet
            case rel => exact ⟨_, (false), (by first | rfl | (simp; done) | (simp [*]; done)), H', ⟨by have := HK1.out; first | omega | exact Nat.le_refl _⟩, ⟨by (with_reducible repeat (first | apply Kd.V_alloc | apply Kd.V_drewN | apply Kd.V_drew)); exact HO_160003.out⟩, ⟨by (with_reducible repeat (first | refine blk_drewN ?_ _ | refine blk_drew ?_ | refine blk_alloc ?_ _)); exact BK152.out⟩, ⟨by (with_reducible repeat (first | refine blk_drewN ?_ _ | refine blk_drew ?_ | refine blk_alloc ?_ _)); exact BK159.out⟩, ⟨by (with_reducible repeat (first | refine blk_drewN ?_ _ | refine blk_drew ?_ | refine blk_alloc ?_ _)); exact BK168.out⟩, ⟨by repeat (first | (with_reducible first | exact HB.out | apply below_alloc | apply pw_below_drewN | apply below_drew1 | refine below_set ?_ GE152.out | refine below_set ?_ GE159.out | refine below_set ?_ GE168.out) | exact HB.out)⟩⟩
        case rest =>
          clear HC18
          try clear c1
          try clear c2
          try clear p2
          try clear c4
          try clear c4b0
          try clear c4b1
          try clear c9
          try clear c11
          try clear c15
          try clear c16
          try clear c19
          try clear c19b0
          try clear hcz10_0
          try clear hcz10_1
          try clear hcz10_2
          try clear hcz10_3
          try clear hcz12_0
          try clear hcz12_1
          try clear hcz12_10
          try clear hcz12_11
          try clear hcz12_12
          try clear hcz12_13
          try clear hcz12_14
          try clear hcz12_2
          try clear hcz12_3
          try clear hcz12_4
          try clear hcz12_5
          try clear hcz12_6
          try clear hcz12_7
          try clear hcz12_8
          try clear hcz12_9
          try clear hcz17_0
          try clear hcz17_1
          try clear hcz17_2
          try clear hcz17_3
          try clear hcz17_4
          try clear hcz17_5
          try clear hcz6_0
          try clear hcz6_1
          try clear hcz6_10
          try clear hcz6_11
          try clear hcz6_12
          try clear hcz6_13
          try clear hcz6_14
          try clear hcz6_2
          try clear hcz6_3
          try clear hcz6_4
          try clear hcz6_5
          try clear hcz6_6
          try clear hcz6_7
          try clear hcz6_8
          try clear hcz6_9
          try clear hfz10_0
          try clear hfz10_1
          try clear hfz10_2
          try clear hfz10_3
          try clear hfz12_0
          try clear hfz12_1
          try clear hfz12_10
          try clear hfz12_11
          try clear hfz12_12
          try clear hfz12_13
          try clear hfz12_14
          try clear hfz12_2
          try clear hfz12_3
          try clear hfz12_4
          try clear hfz12_5
          try clear hfz12_6
          try clear hfz12_7
          try clear hfz12_8
          try clear hfz12_9
          try clear hfz17_0
          try clear hfz17_1
          try clear hfz17_2
          try clear hfz17_3
          try clear hfz17_4
          try clear hfz17_5
          try clear hfz6_0
          try clear hfz6_1
          try clear hfz6_10
          try clear hfz6_11
          try clear hfz6_12
          try clear hfz6_13
          try clear hfz6_14
          try clear hfz6_2
          try clear hfz6_3
          try clear hfz6_4
          try clear hfz6_5
          try clear hfz6_6
          try clear hfz6_7
          try clear hfz6_8
          try clear hfz6_9
          try clear p2
          obtain ⟨kq, x48_17, rfl, HA, HJ17, HO_160003, BK152, BK159, BK168, HB⟩ := hcut
          cases kq with
          | zero => exact absurd HA.out (by simp [bivouaclaw17_AimHits.j1])
          | succ kj17 =>
            have H := HA.out
            clear HA
            simp only [bivouaclaw17_AimHits.j1] at H
            by_cases c20 : x48_17 = true
            · subst c20
              have H1 : ((aim_Shot.f kj17 a0_4 a0_5 a0_6 a0_7 a0_8 a0_9 a0_10 a0_11 a0_12 x7_1).bind fun bt171 => ((shot_Fly.f kj17 t153 t154 t155 t156 bt171.1 bt171.2.1 bt171.2.2.1 bt171.2.2.2.1 bt171.2.2.2.2.1 bt171.2.2.2.2.2.1 1024).bind fun bt179 => (if bt179.2.1 = 1 then (if (wrap64 (Int.tdiv bt179.2.2.1 65536)) = (wrap64 (Int.tdiv a0_10 65536)) then (bivouaclaw17_AimHits.j2 kj17 t166 x7_1 bt171.2.2.2.2.2.2 bt179.2.2.2.2.2.2.2.2 ((wrap64 (Int.tdiv bt179.2.2.2.1 65536)) == (wrap64 (Int.tdiv a0_11 65536))) a0_0 a0_1 a0_2 l0_3 a0_4 a0_5 a0_6 a0_7 a0_8 a0_9 a0_10 a0_11 a0_12 a0_13 a0_14 t153 t154 t155 t156 t160 t161 t162 t163 t164 t165 bt171.1 bt171.2.1 bt171.2.2.1 bt171.2.2.2.1 bt171.2.2.2.2.1 bt171.2.2.2.2.2.1) else (bivouaclaw17_AimHits.j2 kj17 t166 x7_1 bt171.2.2.2.2.2.2 bt179.2.2.2.2.2.2.2.2 false a0_0 a0_1 a0_2 l0_3 a0_4 a0_5 a0_6 a0_7 a0_8 a0_9 a0_10 a0_11 a0_12 a0_13 a0_14 t153 t154 t155 t156 t160 t161 t162 t163 t164 t165 bt171.1 bt171.2.1 bt171.2.2.1 bt171.2.2.2.1 bt171.2.2.2.2.1 bt171.2.2.2.2.2.1)) else (if bt179.2.1 = 2 then (if (wrap64 (Int.tdiv bt179.2.2.1 65536)) = (wrap64 (Int.tdiv a0_10 65536)) then (bivouaclaw17_AimHits.j2 kj17 t166 x7_1 bt171.2.2.2.2.2.2 bt179.2.2.2.2.2.2.2.2 ((wrap64 (Int.tdiv bt179.2.2.2.1 65536)) == (wrap64 (Int.tdiv a0_11 65536))) a0_0 a0_1 a0_2 l0_3 a0_4 a0_5 a0_6 a0_7 a0_8 a0_9 a0_10 a0_11 a0_12 a0_13 a0_14 t153 t154 t155 t156 t160 t161 t162 t163 t164 t165 bt171.1 bt171.2.1 bt171.2.2.1 bt171.2.2.2.1 bt171.2.2.2.2.1 bt171.2.2.2.2.2.1) else (bivouaclaw17_AimHits.j2 kj17 t166 x7_1 bt171.2.2.2.2.2.2 bt179.2.2.2.2.2.2.2.2 false a0_0 a0_1 a0_2 l0_3 a0_4 a0_5 a0_6 a0_7 a0_8 a0_9 a0_10 a0_11 a0_12 a0_13 a0_14 t153 t154 t155 t156 t160 t161 t162 t163 t164 t165 bt171.1 bt171.2.1 bt171.2.2.1 bt171.2.2.2.1 bt171.2.2.2.2.1 bt171.2.2.2.2.2.1)) else (bivouaclaw17_AimHits.j2 kj17 t166 x7_1 bt171.2.2.2.2.2.2 bt179.2.2.2.2.2.2.2.2 false a0_0 a0_1 a0_2 l0_3 a0_4 a0_5 a0_6 a0_7 a0_8 a0_9 a0_10 a0_11 a0_12 a0_13 a0_14 t153 t154 t155 t156 t160 t161 t162 t163 t164 t165 bt171.1 bt171.2.1 bt171.2.2.1 bt171.2.2.2.1 bt171.2.2.2.2.1 bt171.2.2.2.2.2.1))))) = some true := by rw [if_pos rfl] at H; exact H
              clear H
              have H := H1
              clear H1
              replace H := Option.bind_eq_some_iff.mp H
              obtain ⟨⟨t171, t172, t173, t174, t175, t176, t177⟩, A210, H⟩ := H
              replace H : ((shot_Fly.f kj17 t153 t154 t155 t156 t171 t172 t173 t174 t175 t176 1024).bind fun bt179 => (if bt179.2.1 = 1 then (if (wrap64 (Int.tdiv bt179.2.2.1 65536)) = (wrap64 (Int.tdiv a0_10 65536)) then (bivouaclaw17_AimHits.j2 kj17 t166 x7_1 t177 bt179.2.2.2.2.2.2.2.2 ((wrap64 (Int.tdiv bt179.2.2.2.1 65536)) == (wrap64 (Int.tdiv a0_11 65536))) a0_0 a0_1 a0_2 l0_3 a0_4 a0_5 a0_6 a0_7 a0_8 a0_9 a0_10 a0_11 a0_12 a0_13 a0_14 t153 t154 t155 t156 t160 t161 t162 t163 t164 t165 t171 t172 t173 t174 t175 t176) else (bivouaclaw17_AimHits.j2 kj17 t166 x7_1 t177 bt179.2.2.2.2.2.2.2.2 false a0_0 a0_1 a0_2 l0_3 a0_4 a0_5 a0_6 a0_7 a0_8 a0_9 a0_10 a0_11 a0_12 a0_13 a0_14 t153 t154 t155 t156 t160 t161 t162 t163 t164 t165 t171 t172 t173 t174 t175 t176)) else (if bt179.2.1 = 2 then (if (wrap64 (Int.tdiv bt179.2.2.1 65536)) = (wrap64 (Int.tdiv a0_10 65536)) then (bivouaclaw17_AimHits.j2 kj17 t166 x7_1 t177 bt179.2.2.2.2.2.2.2.2 ((wrap64 (Int.tdiv bt179.2.2.2.1 65536)) == (wrap64 (Int.tdiv a0_11 65536))) a0_0 a0_1 a0_2 l0_3 a0_4 a0_5 a0_6 a0_7 a0_8 a0_9 a0_10 a0_11 a0_12 a0_13 a0_14 t153 t154 t155 t156 t160 t161 t162 t163 t164 t165 t171 t172 t173 t174 t175 t176) else (bivouaclaw17_AimHits.j2 kj17 t166 x7_1 t177 bt179.2.2.2.2.2.2.2.2 false a0_0 a0_1 a0_2 l0_3 a0_4 a0_5 a0_6 a0_7 a0_8 a0_9 a0_10 a0_11 a0_12 a0_13 a0_14 t153 t154 t155 t156 t160 t161 t162 t163 t164 t165 t171 t172 t173 t174 t175 t176)) else (bivouaclaw17_AimHits.j2 kj17 t166 x7_1 t177 bt179.2.2.2.2.2.2.2.2 false a0_0 a0_1 a0_2 l0_3 a0_4 a0_5 a0_6 a0_7 a0_8 a0_9 a0_10 a0_11 a0_12 a0_13 a0_14 t153 t154 t155 t156 t160 t161 t162 t163 t164 t165 t171 t172 t173 t174 t175 t176)))) = some true := H
              have A21 := Aside0.mk A210
              clear A210
              replace H := Option.bind_eq_some_iff.mp H
              obtain ⟨⟨t179, t180, t181, t182, t183, t184, t185, t186, t187⟩, A220, H⟩ := H
              replace H : (if t180 = 1 then (if (wrap64 (Int.tdiv t181 65536)) = (wrap64 (Int.tdiv a0_10 65536)) then (bivouaclaw17_AimHits.j2 kj17 t166 x7_1 t177 t187 ((wrap64 (Int.tdiv t182 65536)) == (wrap64 (Int.tdiv a0_11 65536))) a0_0 a0_1 a0_2 l0_3 a0_4 a0_5 a0_6 a0_7 a0_8 a0_9 a0_10 a0_11 a0_12 a0_13 a0_14 t153 t154 t155 t156 t160 t161 t162 t163 t164 t165 t171 t172 t173 t174 t175 t176) else (bivouaclaw17_AimHits.j2 kj17 t166 x7_1 t177 t187 false a0_0 a0_1 a0_2 l0_3 a0_4 a0_5 a0_6 a0_7 a0_8 a0_9 a0_10 a0_11 a0_12 a0_13 a0_14 t153 t154 t155 t156 t160 t161 t162 t163 t164 t165 t171 t172 t173 t174 t175 t176)) else (if t180 = 2 then (if (wrap64 (Int.tdiv t181 65536)) = (wrap64 (Int.tdiv a0_10 65536)) then (bivouaclaw17_AimHits.j2 kj17 t166 x7_1 t177 t187 ((wrap64 (Int.tdiv t182 65536)) == (wrap64 (Int.tdiv a0_11 65536))) a0_0 a0_1 a0_2 l0_3 a0_4 a0_5 a0_6 a0_7 a0_8 a0_9 a0_10 a0_11 a0_12 a0_13 a0_14 t153 t154 t155 t156 t160 t161 t162 t163 t164 t165 t171 t172 t173 t174 t175 t176) else (bivouaclaw17_AimHits.j2 kj17 t166 x7_1 t177 t187 false a0_0 a0_1 a0_2 l0_3 a0_4 a0_5 a0_6 a0_7 a0_8 a0_9 a0_10 a0_11 a0_12 a0_13 a0_14 t153 t154 t155 t156 t160 t161 t162 t163 t164 t165 t171 t172 t173 t174 t175 t176)) else (bivouaclaw17_AimHits.j2 kj17 t166 x7_1 t177 t187 false a0_0 a0_1 a0_2 l0_3 a0_4 a0_5 a0_6 a0_7 a0_8 a0_9 a0_10 a0_11 a0_12 a0_13 a0_14 t153 t154 t155 t156 t160 t161 t162 t163 t164 t165 t171 t172 t173 t174 t175 t176))) = some true := H
              have A22 := Aside0.mk A220
              clear A220
              have HC23 := Aside0.mk H
              clear H
              have hnb24 := NB152_159.out
              have hnc24 := NB159_152.out
              have hnb25 := NB152_168.out
              have hnc25 := NB168_152.out
              have hcz26_0 : wc.cell? ⟨gb152, 0, none⟩ = some (.int .i64 a0_0) := (blk_cell BK152.out 0).trans rfl
              have hcz26_1 : wc.cell? ⟨gb152, 1, none⟩ = some (.int .i64 a0_1) := (blk_cell BK152.out 1).trans rfl
              have hcz26_2 : wc.cell? ⟨gb152, 2, none⟩ = some (.int .i64 a0_2) := (blk_cell BK152.out 2).trans rfl
              have hcz26_3 : wc.cell? ⟨gb152, 3, none⟩ = some (.slice A0_3 l0_3.length c0_3) := (blk_cell BK152.out 3).trans rfl
              have hcz26_4 : wc.cell? ⟨gb152, 4, none⟩ = some (.int .i64 a0_4) := (blk_cell BK152.out 4).trans rfl
              have hcz26_5 : wc.cell? ⟨gb152, 5, none⟩ = some (.int .i64 a0_5) := (blk_cell BK152.out 5).trans rfl
              have hcz26_6 : wc.cell? ⟨gb152, 6, none⟩ = some (.int .i64 a0_6) := (blk_cell BK152.out 6).trans rfl
              have hcz26_7 : wc.cell? ⟨gb152, 7, none⟩ = some (.int .i64 a0_7) := (blk_cell BK152.out 7).trans rfl
              have hcz26_8 : wc.cell? ⟨gb152, 8, none⟩ = some (.int .i64 a0_8) := (blk_cell BK152.out 8).trans rfl
              have hcz26_9 : wc.cell? ⟨gb152, 9, none⟩ = some (.int .i64 a0_9) := (blk_cell BK152.out 9).trans rfl
              have hcz26_10 : wc.cell? ⟨gb152, 10, none⟩ = some (.int .i64 a0_10) := (blk_cell BK152.out 10).trans rfl
              have hcz26_11 : wc.cell? ⟨gb152, 11, none⟩ = some (.int .i64 a0_11) := (blk_cell BK152.out 11).trans rfl
              have hcz26_12 : wc.cell? ⟨gb152, 12, none⟩ = some (.int .i64 a0_12) := (blk_cell BK152.out 12).trans rfl
              have hcz26_13 : wc.cell? ⟨gb152, 13, none⟩ = some (.int .i64 a0_13) := (blk_cell BK152.out 13).trans rfl
              have hcz26_14 : wc.cell? ⟨gb152, 14, none⟩ = some (.int .i64 a0_14) := (blk_cell BK152.out 14).trans rfl
              have hfz26_0 := blk_frozen BK152.out 0
              have hfz26_1 := blk_frozen BK152.out 1
              have hfz26_2 := blk_frozen BK152.out 2
              have hfz26_3 := blk_frozen BK152.out 3
              have hfz26_4 := blk_frozen BK152.out 4
              have hfz26_5 := blk_frozen BK152.out 5
              have hfz26_6 := blk_frozen BK152.out 6
              have hfz26_7 := blk_frozen BK152.out 7
              have hfz26_8 := blk_frozen BK152.out 8
              have hfz26_9 := blk_frozen BK152.out 9
              have hfz26_10 := blk_frozen BK152.out 10
              have hfz26_11 := blk_frozen BK152.out 11
              have hfz26_12 := blk_frozen BK152.out 12
              have hfz26_13 := blk_frozen BK152.out 13
              have hfz26_14 := blk_frozen BK152.out 14
              go_upto_region 10 with (first | ((with_reducible refine gate_callee (f := 20) rfl ?_); refine goesL_ (some 61) rfl rfl Tryd.func20 (by kernel_rfl) rfl #[.agg #[.int .i64 a0_4, .int .i64 a0_5, .int .i64 a0_6, .int .i64 a0_7, .int .i64 a0_8, .int .i64 a0_9], .int .i64 a0_10, .int .i64 a0_11, .int .i64 a0_12, .int .i64 x7_1] rfl (by (try simp only [List.map_toArray, List.map_cons, List.map_nil]); first | done | rfl | (simp only [List.length_drop, List.length_take]; rfl)) ?_; (with_reducible refine (aim_Shot.calls kj17 a0_4 a0_5 a0_6 a0_7 a0_8 a0_9 a0_10 a0_11 a0_12 x7_1 t171 t172 t173 t174 t175 t176 t177 _ ?side1 A21.out).mono ?_); (case side1 => exact Tg.Tab.below HTAB.out (by repeat (first | (with_reducible first | exact HB.out | apply below_alloc | apply pw_below_drewN | apply below_drew1 | refine below_set ?_ GE152.out | refine below_set ?_ GE159.out | refine below_set ?_ GE168.out) | exact HB.out))); rintro e w27 ⟨rfl, hb⟩; refine ⟨_, rfl, ?_⟩; have n0_ := Aside0.mk (Kd.V_below (by (with_reducible repeat (first | apply Kd.V_alloc | apply Kd.V_drewN | apply Kd.V_drew)); exact HO_160003.out) hb); have n1_ := Aside0.mk (blk_below (g := gb152) (o := .cells #[.int .i64 a0_0, .int .i64 a0_1, .int .i64 a0_2, .slice A0_3 l0_3.length c0_3, .int .i64 a0_4, .int .i64 a0_5, .int .i64 a0_6, .int .i64 a0_7, .int .i64 a0_8, .int .i64 a0_9, .int .i64 a0_10, .int .i64 a0_11, .int .i64 a0_12, .int .i64 a0_13, .int .i64 a0_14] 49 (0, 0)) (by (with_reducible repeat (first | refine blk_drewN ?_ _ | refine blk_drew ?_ | refine blk_alloc ?_ _)); exact BK152.out) hb); have n2_ := Aside0.mk (blk_below (g := gb159) (o := .cells #[.int .i64 t153, .int .i64 t154, .int .i64 t155, .slice Ao11 t156.length co11] 45 (0, 0)) (by (with_reducible repeat (first | refine blk_drewN ?_ _ | refine blk_drew ?_ | refine blk_alloc ?_ _)); exact BK159.out) hb); have n3_ := Aside0.mk (blk_below (g := gb168) (o := .cells #[.int .i64 t160, .int .i64 t161, .int .i64 t162, .int .i64 t163, .int .i64 t164, .int .i64 t165] 47 (0, 0)) (by (with_reducible repeat (first | refine blk_drewN ?_ _ | refine blk_drew ?_ | refine blk_alloc ?_ _)); exact BK168.out) hb); have n4_ := Aside0.mk (below_step (by repeat (first | (with_reducible first | exact HB.out | apply below_alloc | apply pw_below_drewN | apply below_drew1 | refine below_set ?_ GE152.out | refine below_set ?_ GE159.out | refine below_set ?_ GE168.out) | exact HB.out)) hb); clear HO_160003; clear BK152; clear BK159; clear BK168; clear HB; have HO_160003 := n0_; have BK152 := n1_; have BK159 := n2_; have BK168 := n3_; have HB := n4_; clear n0_ n1_ n2_ n3_ n4_; (try clear hb); (try clear hb2); (try clear hk); (try clear hi)) | ((with_reducible refine gate_dst (N := 8) rfl ?_); refine box_event ?hg (N := 8) ?hd (cs := #[.int .i64 0, .int .i64 0, .int .i64 0, .int .i64 0, .int .i64 0, .int .i64 0]) (t := 47) ?hr ?_; (case hd => rfl); (case hg => rfl); (case hr => first | (go_simp; done) | (go_simp; rfl)); intro gb178 hg w28 hbox hb; have n0_ := Aside0.mk (Kd.V_below (Kd.V_elderB (by (with_reducible repeat (first | apply Kd.V_alloc | apply Kd.V_drewN | apply Kd.V_drew)); exact HO_160003.out) gb178 (Nat.le_of_eq hg.symm)) hb); have n1_ := Aside0.mk (blk_below (g := gb152) (o := .cells #[.int .i64 a0_0, .int .i64 a0_1, .int .i64 a0_2, .slice A0_3 l0_3.length c0_3, .int .i64 a0_4, .int .i64 a0_5, .int .i64 a0_6, .int .i64 a0_7, .int .i64 a0_8, .int .i64 a0_9, .int .i64 a0_10, .int .i64 a0_11, .int .i64 a0_12, .int .i64 a0_13, .int .i64 a0_14] 49 (0, 0)) (by (with_reducible repeat (first | refine blk_drewN ?_ _ | refine blk_drew ?_ | refine blk_alloc ?_ _)); exact BK152.out) hb); have n2_ := Aside0.mk (blk_below (g := gb159) (o := .cells #[.int .i64 t153, .int .i64 t154, .int .i64 t155, .slice Ao11 t156.length co11] 45 (0, 0)) (by (with_reducible repeat (first | refine blk_drewN ?_ _ | refine blk_drew ?_ | refine blk_alloc ?_ _)); exact BK159.out) hb); have n3_ := Aside0.mk (blk_below (g := gb168) (o := .cells #[.int .i64 t160, .int .i64 t161, .int .i64 t162, .int .i64 t163, .int .i64 t164, .int .i64 t165] 47 (0, 0)) (by (with_reducible repeat (first | refine blk_drewN ?_ _ | refine blk_drew ?_ | refine blk_alloc ?_ _)); exact BK168.out) hb); have n4_ := Aside0.mk (below_step (by repeat (first | (with_reducible first | exact HB.out | apply below_alloc | apply pw_below_drewN | apply below_drew1 | refine below_set ?_ GE152.out | refine below_set ?_ GE159.out | refine below_set ?_ GE168.out) | exact HB.out)) hb); have n5_ := Aside0.mk (hbox); have n6_ := Aside0.mk ((by rw [hg]; exact (below_size (by repeat (first | (with_reducible first | exact HB.out | apply below_alloc | apply pw_below_drewN | apply below_drew1 | refine below_set ?_ GE152.out | refine below_set ?_ GE159.out | refine below_set ?_ GE168.out) | exact HB.out))) : w.heap.size ≤ gb178)); have n7_ := Aside0.mk ((by rw [hg]; exact (below_size (by repeat (first | (with_reducible first | exact HB.out | apply below_alloc | apply pw_below_drewN | apply below_drew1 | refine below_set ?_ GE152.out | refine below_set ?_ GE159.out | refine below_set ?_ GE168.out) | exact HB.out))) : w.heap.size ≤ gb178)); have n8_ := Aside0.mk ((by rw [hg]; exact Nat.ne_of_lt (blk_lt (g := gb152) (o := .cells #[.int .i64 a0_0, .int .i64 a0_1, .int .i64 a0_2, .slice A0_3 l0_3.length c0_3, .int .i64 a0_4, .int .i64 a0_5, .int .i64 a0_6, .int .i64 a0_7, .int .i64 a0_8, .int .i64 a0_9, .int .i64 a0_10, .int .i64 a0_11, .int .i64 a0_12, .int .i64 a0_13, .int .i64 a0_14] 49 (0, 0)) (by (with_reducible repeat (first | refine blk_drewN ?_ _ | refine blk_drew ?_ | refine blk_alloc ?_ _)); exact BK152.out)) : gb152 ≠ gb178)); have n9_ := Aside0.mk ((by rw [hg]; exact Nat.ne_of_gt (blk_lt (g := gb152) (o := .cells #[.int .i64 a0_0, .int .i64 a0_1, .int .i64 a0_2, .slice A0_3 l0_3.length c0_3, .int .i64 a0_4, .int .i64 a0_5, .int .i64 a0_6, .int .i64 a0_7, .int .i64 a0_8, .int .i64 a0_9, .int .i64 a0_10, .int .i64 a0_11, .int .i64 a0_12, .int .i64 a0_13, .int .i64 a0_14] 49 (0, 0)) (by (with_reducible repeat (first | refine blk_drewN ?_ _ | refine blk_drew ?_ | refine blk_alloc ?_ _)); exact BK152.out)) : gb178 ≠ gb152)); have n10_ := Aside0.mk ((by rw [hg]; exact Nat.ne_of_lt (blk_lt (g := gb159) (o := .cells #[.int .i64 t153, .int .i64 t154, .int .i64 t155, .slice Ao11 t156.length co11] 45 (0, 0)) (by (with_reducible repeat (first | refine blk_drewN ?_ _ | refine blk_drew ?_ | refine blk_alloc ?_ _)); exact BK159.out)) : gb159 ≠ gb178)); have n11_ := Aside0.mk ((by rw [hg]; exact Nat.ne_of_gt (blk_lt (g := gb159) (o := .cells #[.int .i64 t153, .int .i64 t154, .int .i64 t155, .slice Ao11 t156.length co11] 45 (0, 0)) (by (with_reducible repeat (first | refine blk_drewN ?_ _ | refine blk_drew ?_ | refine blk_alloc ?_ _)); exact BK159.out)) : gb178 ≠ gb159)); have n12_ := Aside0.mk ((by rw [hg]; exact Nat.ne_of_lt (blk_lt (g := gb168) (o := .cells #[.int .i64 t160, .int .i64 t161, .int .i64 t162, .int .i64 t163, .int .i64 t164, .int .i64 t165] 47 (0, 0)) (by (with_reducible repeat (first | refine blk_drewN ?_ _ | refine blk_drew ?_ | refine blk_alloc ?_ _)); exact BK168.out)) : gb168 ≠ gb178)); have n13_ := Aside0.mk ((by rw [hg]; exact Nat.ne_of_gt (blk_lt (g := gb168) (o := .cells #[.int .i64 t160, .int .i64 t161, .int .i64 t162, .int .i64 t163, .int .i64 t164, .int .i64 t165] 47 (0, 0)) (by (with_reducible repeat (first | refine blk_drewN ?_ _ | refine blk_drew ?_ | refine blk_alloc ?_ _)); exact BK168.out)) : gb178 ≠ gb168)); clear HO_160003; clear BK152; clear BK159; clear BK168; clear HB; have HO_160003 := n0_; have BK152 := n1_; have BK159 := n2_; have BK168 := n3_; have HB := n4_; have BK178 := n5_; have GW178 := n6_; have GE178 := n7_; have NB152_178 := n8_; have NB178_152 := n9_; have NB159_178 := n10_; have NB178_159 := n11_; have NB168_178 := n12_; have NB178_168 := n13_; clear n0_ n1_ n2_ n3_ n4_ n5_ n6_ n7_ n8_ n9_ n10_ n11_ n12_ n13_; clear hb hbox hg; have hnb29 := NB178_152.out; have hnc29 := NB152_178.out; have hnb30 := NB178_159.out; have hnc30 := NB159_178.out; have hnb31 := NB178_168.out; have hnc31 := NB168_178.out; have hcz32_0 : w28.cell? ⟨gb178, 0, none⟩ = some (.int .i64 0) := (blk_cell BK178.out 0).trans rfl; have hcz32_1 : w28.cell? ⟨gb178, 1, none⟩ = some (.int .i64 0) := (blk_cell BK178.out 1).trans rfl; have hcz32_2 : w28.cell? ⟨gb178, 2, none⟩ = some (.int .i64 0) := (blk_cell BK178.out 2).trans rfl; have hcz32_3 : w28.cell? ⟨gb178, 3, none⟩ = some (.int .i64 0) := (blk_cell BK178.out 3).trans rfl; have hcz32_4 : w28.cell? ⟨gb178, 4, none⟩ = some (.int .i64 0) := (blk_cell BK178.out 4).trans rfl; have hcz32_5 : w28.cell? ⟨gb178, 5, none⟩ = some (.int .i64 0) := (blk_cell BK178.out 5).trans rfl; have hfz32_0 := blk_frozen BK178.out 0; have hfz32_1 := blk_frozen BK178.out 1; have hfz32_2 := blk_frozen BK178.out 2; have hfz32_3 := blk_frozen BK178.out 3; have hfz32_4 := blk_frozen BK178.out 4; have hfz32_5 := blk_frozen BK178.out 5; have hnb33 := NB159_168.out; have hnc33 := NB168_159.out; have hcz34_0 : w28.cell? ⟨gb159, 0, none⟩ = some (.int .i64 t153) := (blk_cell BK159.out 0).trans rfl; have hcz34_1 : w28.cell? ⟨gb159, 1, none⟩ = some (.int .i64 t154) := (blk_cell BK159.out 1).trans rfl; have hcz34_2 : w28.cell? ⟨gb159, 2, none⟩ = some (.int .i64 t155) := (blk_cell BK159.out 2).trans rfl; have hcz34_3 : w28.cell? ⟨gb159, 3, none⟩ = some (.slice Ao11 t156.length co11) := (blk_cell BK159.out 3).trans rfl; have hfz34_0 := blk_frozen BK159.out 0; have hfz34_1 := blk_frozen BK159.out 1; have hfz34_2 := blk_frozen BK159.out 2; have hfz34_3 := blk_frozen BK159.out 3) | ((with_reducible refine gate_callee (f := 30) rfl ?_); refine goesL_ (some 67) rfl rfl Tryd.func30 (by kernel_rfl) rfl #[.agg #[.int .i64 t153, .int .i64 t154, .int .i64 t155, .slice Ao11 t156.length co11], .agg #[.int .i64 t171, .int .i64 t172, .int .i64 t173, .int .i64 t174, .int .i64 t175, .int .i64 t176], .int .i64 1024] rfl (by (try simp only [List.map_toArray, List.map_cons, List.map_nil]); first | done | rfl | (simp only [List.length_drop, List.length_take]; rfl)) ?_; (with_reducible refine (shot_Fly.calls kj17 t153 t154 t155 _ _ t156 t171 t172 t173 t174 t175 t176 1024 t179 t180 t181 t182 t183 t184 t185 t186 t187 _ ?side1 ?side2 A22.out).mono ?_); (case side1 => refine (Kd.V_reads' (e := 5) (base := w.heap.size) (ok := fun k_ => ((k_ ≠ gb152 ∧ (k_ ≠ gb159 ∧ k_ ≠ gb168)) ∧ k_ ≠ gb178)) (n := t156.length) (c := co11) ?_).2.2; exact (by (with_reducible repeat (first | apply Kd.V_alloc | apply Kd.V_drewN | apply Kd.V_drew)); exact (Kd.V_mono (Kd.V_far (p := ⟨gb178, 5, none⟩) (Kd.V_far (p := ⟨gb178, 4, none⟩) (Kd.V_far (p := ⟨gb178, 3, none⟩) (Kd.V_far (p := ⟨gb178, 2, none⟩) (Kd.V_far (p := ⟨gb178, 1, none⟩) (Kd.V_far (p := ⟨gb178, 0, none⟩) (Kd.V_mono HO_160003.out (fun k_ hk => (⟨hk, hk.2⟩ : _ ∧ k_ ≠ gb178))) (fun _ hk => hk.2) (.int .i64 t171)) (fun _ hk => hk.2) (.int .i64 t172)) (fun _ hk => hk.2) (.int .i64 t173)) (fun _ hk => hk.2) (.int .i64 t174)) (fun _ hk => hk.2) (.int .i64 t175)) (fun _ hk => hk.2) (.int .i64 t176)) (fun _ h_ => h_.1)))); (case side2 => exact (Kd.V_reads' HO_160003.out).2.1); rintro e w35 ⟨rfl, hb⟩; refine ⟨_, rfl, ?_⟩; have n0_ := Aside0.mk (Kd.V_below (by (with_reducible repeat (first | apply Kd.V_alloc | apply Kd.V_drewN | apply Kd.V_drew)); exact (Kd.V_mono (Kd.V_far (p := ⟨gb178, 5, none⟩) (Kd.V_far (p := ⟨gb178, 4, none⟩) (Kd.V_far (p := ⟨gb178, 3, none⟩) (Kd.V_far (p := ⟨gb178, 2, none⟩) (Kd.V_far (p := ⟨gb178, 1, none⟩) (Kd.V_far (p := ⟨gb178, 0, none⟩) (Kd.V_mono HO_160003.out (fun k_ hk => (⟨hk, hk.2⟩ : _ ∧ k_ ≠ gb178))) (fun _ hk => hk.2) (.int .i64 t171)) (fun _ hk => hk.2) (.int .i64 t172)) (fun _ hk => hk.2) (.int .i64 t173)) (fun _ hk => hk.2) (.int .i64 t174)) (fun _ hk => hk.2) (.int .i64 t175)) (fun _ hk => hk.2) (.int .i64 t176)) (fun _ h_ => h_.1))) hb); have n1_ := Aside0.mk (blk_below (g := gb152) (o := .cells #[.int .i64 a0_0, .int .i64 a0_1, .int .i64 a0_2, .slice A0_3 l0_3.length c0_3, .int .i64 a0_4, .int .i64 a0_5, .int .i64 a0_6, .int .i64 a0_7, .int .i64 a0_8, .int .i64 a0_9, .int .i64 a0_10, .int .i64 a0_11, .int .i64 a0_12, .int .i64 a0_13, .int .i64 a0_14] 49 (0, 0)) (by (with_reducible repeat (first | refine blk_drewN ?_ _ | refine blk_drew ?_ | refine blk_alloc ?_ _)); refine blk_far ?_ NB152_178.out _; (with_reducible repeat (first | refine blk_drewN ?_ _ | refine blk_drew ?_ | refine blk_alloc ?_ _)); refine blk_far ?_ NB152_178.out _; (with_reducible repeat (first | refine blk_drewN ?_ _ | refine blk_drew ?_ | refine blk_alloc ?_ _)); refine blk_far ?_ NB152_178.out _; (with_reducible repeat (first | refine blk_drewN ?_ _ | refine blk_drew ?_ | refine blk_alloc ?_ _)); refine blk_far ?_ NB152_178.out _; (with_reducible repeat (first | refine blk_drewN ?_ _ | refine blk_drew ?_ | refine blk_alloc ?_ _)); refine blk_far ?_ NB152_178.out _; (with_reducible repeat (first | refine blk_drewN ?_ _ | refine blk_drew ?_ | refine blk_alloc ?_ _)); refine blk_far ?_ NB152_178.out _; (with_reducible repeat (first | refine blk_drewN ?_ _ | refine blk_drew ?_ | refine blk_alloc ?_ _)); exact BK152.out) hb); have n2_ := Aside0.mk (blk_below (g := gb159) (o := .cells #[.int .i64 t153, .int .i64 t154, .int .i64 t155, .slice Ao11 t156.length co11] 45 (0, 0)) (by (with_reducible repeat (first | refine blk_drewN ?_ _ | refine blk_drew ?_ | refine blk_alloc ?_ _)); refine blk_far ?_ NB159_178.out _; (with_reducible repeat (first | refine blk_drewN ?_ _ | refine blk_drew ?_ | refine blk_alloc ?_ _)); refine blk_far ?_ NB159_178.out _; (with_reducible repeat (first | refine blk_drewN ?_ _ | refine blk_drew ?_ | refine blk_alloc ?_ _)); refine blk_far ?_ NB159_178.out _; (with_reducible repeat (first | refine blk_drewN ?_ _ | refine blk_drew ?_ | refine blk_alloc ?_ _)); refine blk_far ?_ NB159_178.out _; (with_reducible repeat (first | refine blk_drewN ?_ _ | refine blk_drew ?_ | refine blk_alloc ?_ _)); refine blk_far ?_ NB159_178.out _; (with_reducible repeat (first | refine blk_drewN ?_ _ | refine blk_drew ?_ | refine blk_alloc ?_ _)); refine blk_far ?_ NB159_178.out _; (with_reducible repeat (first | refine blk_drewN ?_ _ | refine blk_drew ?_ | refine blk_alloc ?_ _)); exact BK159.out) hb); have n3_ := Aside0.mk (blk_below (g := gb168) (o := .cells #[.int .i64 t160, .int .i64 t161, .int .i64 t162, .int .i64 t163, .int .i64 t164, .int .i64 t165] 47 (0, 0)) (by (with_reducible repeat (first | refine blk_drewN ?_ _ | refine blk_drew ?_ | refine blk_alloc ?_ _)); refine blk_far ?_ NB168_178.out _; (with_reducible repeat (first | refine blk_drewN ?_ _ | refine blk_drew ?_ | refine blk_alloc ?_ _)); refine blk_far ?_ NB168_178.out _; (with_reducible repeat (first | refine blk_drewN ?_ _ | refine blk_drew ?_ | refine blk_alloc ?_ _)); refine blk_far ?_ NB168_178.out _; (with_reducible repeat (first | refine blk_drewN ?_ _ | refine blk_drew ?_ | refine blk_alloc ?_ _)); refine blk_far ?_ NB168_178.out _; (with_reducible repeat (first | refine blk_drewN ?_ _ | refine blk_drew ?_ | refine blk_alloc ?_ _)); refine blk_far ?_ NB168_178.out _; (with_reducible repeat (first | refine blk_drewN ?_ _ | refine blk_drew ?_ | refine blk_alloc ?_ _)); refine blk_far ?_ NB168_178.out _; (with_reducible repeat (first | refine blk_drewN ?_ _ | refine blk_drew ?_ | refine blk_alloc ?_ _)); exact BK168.out) hb); have n4_ := Aside0.mk (blk_below (g := gb178) (o := .cells #[.int .i64 t171, .int .i64 t172, .int .i64 t173, .int .i64 t174, .int .i64 t175, .int .i64 t176] 47 (0, 0)) (by (with_reducible repeat (first | refine blk_drewN ?_ _ | refine blk_drew ?_ | refine blk_alloc ?_ _)); refine blk_put (cs := #[.int .i64 t171, .int .i64 t172, .int .i64 t173, .int .i64 t174, .int .i64 t175, .int .i64 0]) ?_ 5 _ rfl; (with_reducible repeat (first | refine blk_drewN ?_ _ | refine blk_drew ?_ | refine blk_alloc ?_ _)); refine blk_put (cs := #[.int .i64 t171, .int .i64 t172, .int .i64 t173, .int .i64 t174, .int .i64 0, .int .i64 0]) ?_ 4 _ rfl; (with_reducible repeat (first | refine blk_drewN ?_ _ | refine blk_drew ?_ | refine blk_alloc ?_ _)); refine blk_put (cs := #[.int .i64 t171, .int .i64 t172, .int .i64 t173, .int .i64 0, .int .i64 0, .int .i64 0]) ?_ 3 _ rfl; (with_reducible repeat (first | refine blk_drewN ?_ _ | refine blk_drew ?_ | refine blk_alloc ?_ _)); refine blk_put (cs := #[.int .i64 t171, .int .i64 t172, .int .i64 0, .int .i64 0, .int .i64 0, .int .i64 0]) ?_ 2 _ rfl; (with_reducible repeat (first | refine blk_drewN ?_ _ | refine blk_drew ?_ | refine blk_alloc ?_ _)); refine blk_put (cs := #[.int .i64 t171, .int .i64 0, .int .i64 0, .int .i64 0, .int .i64 0, .int .i64 0]) ?_ 1 _ rfl; (with_reducible repeat (first | refine blk_drewN ?_ _ | refine blk_drew ?_ | refine blk_alloc ?_ _)); refine blk_put (cs := #[.int .i64 0, .int .i64 0, .int .i64 0, .int .i64 0, .int .i64 0, .int .i64 0]) ?_ 0 _ rfl; (with_reducible repeat (first | refine blk_drewN ?_ _ | refine blk_drew ?_ | refine blk_alloc ?_ _)); exact BK178.out) hb); have n5_ := Aside0.mk (below_step (by repeat (first | (with_reducible first | exact HB.out | apply below_alloc | apply pw_below_drewN | apply below_drew1 | refine below_set ?_ GE152.out | refine below_set ?_ GE159.out | refine below_set ?_ GE168.out | refine below_set ?_ GE178.out) | exact HB.out)) hb); clear HO_160003; clear BK152; clear BK159; clear BK168; clear BK178; clear HB; have HO_160003 := n0_; have BK152 := n1_; have BK159 := n2_; have BK168 := n3_; have BK178 := n4_; have HB := n5_; clear n0_ n1_ n2_ n3_ n4_ n5_; (try clear hb); (try clear hb2); (try clear hk); (try clear hi)) | ((with_reducible refine gate_dst (N := 10) rfl ?_); refine box_event ?hg (N := 10) ?hd (cs := #[.int .i64 0, .int .i64 0, .int .i64 0, .int .i64 0, .int .i64 0, .int .i64 0, .int .i64 0, .int .i64 0]) (t := 62) ?hr ?_; (case hd => rfl); (case hg => rfl); (case hr => first | (go_simp; done) | (go_simp; rfl)); intro gb188 hg w36 hbox hb; have n0_ := Aside0.mk (Kd.V_below (Kd.V_elderB (by (with_reducible repeat (first | apply Kd.V_alloc | apply Kd.V_drewN | apply Kd.V_drew)); exact HO_160003.out) gb188 (Nat.le_of_eq hg.symm)) hb); have n1_ := Aside0.mk (blk_below (g := gb152) (o := .cells #[.int .i64 a0_0, .int .i64 a0_1, .int .i64 a0_2, .slice A0_3 l0_3.length c0_3, .int .i64 a0_4, .int .i64 a0_5, .int .i64 a0_6, .int .i64 a0_7, .int .i64 a0_8, .int .i64 a0_9, .int .i64 a0_10, .int .i64 a0_11, .int .i64 a0_12, .int .i64 a0_13, .int .i64 a0_14] 49 (0, 0)) (by (with_reducible repeat (first | refine blk_drewN ?_ _ | refine blk_drew ?_ | refine blk_alloc ?_ _)); exact BK152.out) hb); have n2_ := Aside0.mk (blk_below (g := gb159) (o := .cells #[.int .i64 t153, .int .i64 t154, .int .i64 t155, .slice Ao11 t156.length co11] 45 (0, 0)) (by (with_reducible repeat (first | refine blk_drewN ?_ _ | refine blk_drew ?_ | refine blk_alloc ?_ _)); exact BK159.out) hb); have n3_ := Aside0.mk (blk_below (g := gb168) (o := .cells #[.int .i64 t160, .int .i64 t161, .int .i64 t162, .int .i64 t163, .int .i64 t164, .int .i64 t165] 47 (0, 0)) (by (with_reducible repeat (first | refine blk_drewN ?_ _ | refine blk_drew ?_ | refine blk_alloc ?_ _)); exact BK168.out) hb); have n4_ := Aside0.mk (blk_below (g := gb178) (o := .cells #[.int .i64 t171, .int .i64 t172, .int .i64 t173, .int .i64 t174, .int .i64 t175, .int .i64 t176] 47 (0, 0)) (by (with_reducible repeat (first | refine blk_drewN ?_ _ | refine blk_drew ?_ | refine blk_alloc ?_ _)); exact BK178.out) hb); have n5_ := Aside0.mk (below_step (by repeat (first | (with_reducible first | exact HB.out | apply below_alloc | apply pw_below_drewN | apply below_drew1 | refine below_set ?_ GE152.out | refine below_set ?_ GE159.out | refine below_set ?_ GE168.out | refine below_set ?_ GE178.out) | exact HB.out)) hb); have n6_ := Aside0.mk (hbox); have n7_ := Aside0.mk ((by rw [hg]; exact (below_size (by repeat (first | (with_reducible first | exact HB.out | apply below_alloc | apply pw_below_drewN | apply below_drew1 | refine below_set ?_ GE152.out | refine below_set ?_ GE159.out | refine below_set ?_ GE168.out | refine below_set ?_ GE178.out) | exact HB.out))) : w.heap.size ≤ gb188)); have n8_ := Aside0.mk ((by rw [hg]; exact (below_size (by repeat (first | (with_reducible first | exact HB.out | apply below_alloc | apply pw_below_drewN | apply below_drew1 | refine below_set ?_ GE152.out | refine below_set ?_ GE159.out | refine below_set ?_ GE168.out | refine below_set ?_ GE178.out) | exact HB.out))) : w.heap.size ≤ gb188)); have n9_ := Aside0.mk ((by rw [hg]; exact Nat.ne_of_lt (blk_lt (g := gb152) (o := .cells #[.int .i64 a0_0, .int .i64 a0_1, .int .i64 a0_2, .slice A0_3 l0_3.length c0_3, .int .i64 a0_4, .int .i64 a0_5, .int .i64 a0_6, .int .i64 a0_7, .int .i64 a0_8, .int .i64 a0_9, .int .i64 a0_10, .int .i64 a0_11, .int .i64 a0_12, .int .i64 a0_13, .int .i64 a0_14] 49 (0, 0)) (by (with_reducible repeat (first | refine blk_drewN ?_ _ | refine blk_drew ?_ | refine blk_alloc ?_ _)); exact BK152.out)) : gb152 ≠ gb188)); have n10_ := Aside0.mk ((by rw [hg]; exact Nat.ne_of_gt (blk_lt (g := gb152) (o := .cells #[.int .i64 a0_0, .int .i64 a0_1, .int .i64 a0_2, .slice A0_3 l0_3.length c0_3, .int .i64 a0_4, .int .i64 a0_5, .int .i64 a0_6, .int .i64 a0_7, .int .i64 a0_8, .int .i64 a0_9, .int .i64 a0_10, .int .i64 a0_11, .int .i64 a0_12, .int .i64 a0_13, .int .i64 a0_14] 49 (0, 0)) (by (with_reducible repeat (first | refine blk_drewN ?_ _ | refine blk_drew ?_ | refine blk_alloc ?_ _)); exact BK152.out)) : gb188 ≠ gb152)); have n11_ := Aside0.mk ((by rw [hg]; exact Nat.ne_of_lt (blk_lt (g := gb159) (o := .cells #[.int .i64 t153, .int .i64 t154, .int .i64 t155, .slice Ao11 t156.length co11] 45 (0, 0)) (by (with_reducible repeat (first | refine blk_drewN ?_ _ | refine blk_drew ?_ | refine blk_alloc ?_ _)); exact BK159.out)) : gb159 ≠ gb188)); have n12_ := Aside0.mk ((by rw [hg]; exact Nat.ne_of_gt (blk_lt (g := gb159) (o := .cells #[.int .i64 t153, .int .i64 t154, .int .i64 t155, .slice Ao11 t156.length co11] 45 (0, 0)) (by (with_reducible repeat (first | refine blk_drewN ?_ _ | refine blk_drew ?_ | refine blk_alloc ?_ _)); exact BK159.out)) : gb188 ≠ gb159)); have n13_ := Aside0.mk ((by rw [hg]; exact Nat.ne_of_lt (blk_lt (g := gb168) (o := .cells #[.int .i64 t160, .int .i64 t161, .int .i64 t162, .int .i64 t163, .int .i64 t164, .int .i64 t165] 47 (0, 0)) (by (with_reducible repeat (first | refine blk_drewN ?_ _ | refine blk_drew ?_ | refine blk_alloc ?_ _)); exact BK168.out)) : gb168 ≠ gb188)); have n14_ := Aside0.mk ((by rw [hg]; exact Nat.ne_of_gt (blk_lt (g := gb168) (o := .cells #[.int .i64 t160, .int .i64 t161, .int .i64 t162, .int .i64 t163, .int .i64 t164, .int .i64 t165] 47 (0, 0)) (by (with_reducible repeat (first | refine blk_drewN ?_ _ | refine blk_drew ?_ | refine blk_alloc ?_ _)); exact BK168.out)) : gb188 ≠ gb168)); have n15_ := Aside0.mk ((by rw [hg]; exact Nat.ne_of_lt (blk_lt (g := gb178) (o := .cells #[.int .i64 t171, .int .i64 t172, .int .i64 t173, .int .i64 t174, .int .i64 t175, .int .i64 t176] 47 (0, 0)) (by (with_reducible repeat (first | refine blk_drewN ?_ _ | refine blk_drew ?_ | refine blk_alloc ?_ _)); exact BK178.out)) : gb178 ≠ gb188)); have n16_ := Aside0.mk ((by rw [hg]; exact Nat.ne_of_gt (blk_lt (g := gb178) (o := .cells #[.int .i64 t171, .int .i64 t172, .int .i64 t173, .int .i64 t174, .int .i64 t175, .int .i64 t176] 47 (0, 0)) (by (with_reducible repeat (first | refine blk_drewN ?_ _ | refine blk_drew ?_ | refine blk_alloc ?_ _)); exact BK178.out)) : gb188 ≠ gb178)); clear HO_160003; clear BK152; clear BK159; clear BK168; clear BK178; clear HB; have HO_160003 := n0_; have BK152 := n1_; have BK159 := n2_; have BK168 := n3_; have BK178 := n4_; have HB := n5_; have BK188 := n6_; have GW188 := n7_; have GE188 := n8_; have NB152_188 := n9_; have NB188_152 := n10_; have NB159_188 := n11_; have NB188_159 := n12_; have NB168_188 := n13_; have NB188_168 := n14_; have NB178_188 := n15_; have NB188_178 := n16_; clear n0_ n1_ n2_ n3_ n4_ n5_ n6_ n7_ n8_ n9_ n10_ n11_ n12_ n13_ n14_ n15_ n16_; clear hb hbox hg; have hnb37 := NB188_152.out; have hnc37 := NB152_188.out; have hnb38 := NB188_159.out; have hnc38 := NB159_188.out; have hnb39 := NB188_168.out; have hnc39 := NB168_188.out; have hnb40 := NB188_178.out; have hnc40 := NB178_188.out; have hcz41_0 : w36.cell? ⟨gb188, 0, none⟩ = some (.int .i64 0) := (blk_cell BK188.out 0).trans rfl; have hcz41_1 : w36.cell? ⟨gb188, 1, none⟩ = some (.int .i64 0) := (blk_cell BK188.out 1).trans rfl; have hcz41_2 : w36.cell? ⟨gb188, 2, none⟩ = some (.int .i64 0) := (blk_cell BK188.out 2).trans rfl; have hcz41_3 : w36.cell? ⟨gb188, 3, none⟩ = some (.int .i64 0) := (blk_cell BK188.out 3).trans rfl; have hcz41_4 : w36.cell? ⟨gb188, 4, none⟩ = some (.int .i64 0) := (blk_cell BK188.out 4).trans rfl; have hcz41_5 : w36.cell? ⟨gb188, 5, none⟩ = some (.int .i64 0) := (blk_cell BK188.out 5).trans rfl; have hcz41_6 : w36.cell? ⟨gb188, 6, none⟩ = some (.int .i64 0) := (blk_cell BK188.out 6).trans rfl; have hcz41_7 : w36.cell? ⟨gb188, 7, none⟩ = some (.int .i64 0) := (blk_cell BK188.out 7).trans rfl; have hfz41_0 := blk_frozen BK188.out 0; have hfz41_1 := blk_frozen BK188.out 1; have hfz41_2 := blk_frozen BK188.out 2; have hfz41_3 := blk_frozen BK188.out 3; have hfz41_4 := blk_frozen BK188.out 4; have hfz41_5 := blk_frozen BK188.out 5; have hfz41_6 := blk_frozen BK188.out 6; have hfz41_7 := blk_frozen BK188.out 7))
              (try simp only [Act.put, List.setIfInBounds_toArray, List.set_cons_zero, List.set_cons_succ])
              go_cut [12] (fun v12 wc => ∃ (kq : Nat) (x12_22 : Bool), v12 = .bool x12_22 ∧ Aside0 (bivouaclaw17_AimHits.j2 kq t166 x7_1 t177 t187 x12_22 a0_0 a0_1 a0_2 l0_3 a0_4 a0_5 a0_6 a0_7 a0_8 a0_9 a0_10 a0_11 a0_12 a0_13 a0_14 t153 t154 t155 t156 t160 t161 t162 t163 t164 t165 t171 t172 t173 t174 t175 t176 = some true) ∧ Aside0 (kq ≤ kj17) ∧ Aside0 (Kd.V (Kd.int .u8) 5 wc w.heap.size (fun k_ => k_ ≠ gb152 ∧ k_ ≠ gb159 ∧ k_ ≠ gb168 ∧ k_ ≠ gb178 ∧ k_ ≠ gb188) (.slice Ao11 t156.length co11) t156) ∧ Aside0 (wc.heap[gb152]? = some (.cells #[.int .i64 a0_0, .int .i64 a0_1, .int .i64 a0_2, (.slice A0_3 l0_3.length c0_3), .int .i64 a0_4, .int .i64 a0_5, .int .i64 a0_6, .int .i64 a0_7, .int .i64 a0_8, .int .i64 a0_9, .int .i64 a0_10, .int .i64 a0_11, .int .i64 a0_12, .int .i64 a0_13, .int .i64 a0_14] 49 (0, 0))) ∧ Aside0 (wc.heap[gb159]? = some (.cells #[.int .i64 t153, .int .i64 t154, .int .i64 t155, (.slice Ao11 t156.length co11)] 45 (0, 0))) ∧ Aside0 (wc.heap[gb168]? = some (.cells #[.int .i64 t160, .int .i64 t161, .int .i64 t162, .int .i64 t163, .int .i64 t164, .int .i64 t165] 47 (0, 0))) ∧ Aside0 (wc.heap[gb178]? = some (.cells #[.int .i64 t171, .int .i64 t172, .int .i64 t173, .int .i64 t174, .int .i64 t175, .int .i64 t176] 47 (0, 0))) ∧ Aside0 (wc.heap[gb188]? = some (.cells #[.int .i64 t179, .int .i64 t180, .int .i64 t181, .int .i64 t182, .int .i64 t183, .int .i64 t184, .int .i64 t185, .int .i64 t186] 62 (0, 0))) ∧ Aside0 (Below w.heap.size w wc))
              case first =>
                have H := HC23.out
                clear HC23
                by_cases c42 : t180 = 1
                · rw [if_pos c42] at H
                  have c42b0 : (t180 == 1) = true := beq_iff_eq.mpr c42
                  have c42b1 : (t180 != 1) = false := bne_eq_false_iff_eq.mpr c42
                  clear c42
                  (first | rw [c42b0] | (simp only [i64_w, i32_w]; rw [c42b0]) | skip)
                  by_cases c43 : (wrap64 (Int.tdiv t181 65536)) = (wrap64 (Int.tdiv a0_10 65536))
                  · rw [if_pos c43] at H
                    have c43b0 : ((wrap64 (Int.tdiv t181 65536)) == (wrap64 (Int.tdiv a0_10 65536))) = true := beq_iff_eq.mpr c43
                    have c43b1 : ((wrap64 (Int.tdiv t181 65536)) != (wrap64 (Int.tdiv a0_10 65536))) = false := bne_eq_false_iff_eq.mpr c43
                    clear c43
                    have H' := Aside0.mk H
                    clear H
                    have hnb44 := NB188_152.out
                    have hnc44 := NB152_188.out
                    have hnb45 := NB188_159.out
                    have hnc45 := NB159_188.out
                    have hnb46 := NB188_168.out
                    have hnc46 := NB168_188.out
                    have hnb47 := NB188_178.out
                    have hnc47 := NB178_188.out
                    have hcz48_0 : w36.cell? ⟨gb188, 0, none⟩ = some (.int .i64 0) := (blk_cell BK188.out 0).trans rfl
                    have hcz48_1 : w36.cell? ⟨gb188, 1, none⟩ = some (.int .i64 0) := (blk_cell BK188.out 1).trans rfl
                    have hcz48_2 : w36.cell? ⟨gb188, 2, none⟩ = some (.int .i64 0) := (blk_cell BK188.out 2).trans rfl
                    have hcz48_3 : w36.cell? ⟨gb188, 3, none⟩ = some (.int .i64 0) := (blk_cell BK188.out 3).trans rfl
                    have hcz48_4 : w36.cell? ⟨gb188, 4, none⟩ = some (.int .i64 0) := (blk_cell BK188.out 4).trans rfl
                    have hcz48_5 : w36.cell? ⟨gb188, 5, none⟩ = some (.int .i64 0) := (blk_cell BK188.out 5).trans rfl
                    have hcz48_6 : w36.cell? ⟨gb188, 6, none⟩ = some (.int .i64 0) := (blk_cell BK188.out 6).trans rfl
                    have hcz48_7 : w36.cell? ⟨gb188, 7, none⟩ = some (.int .i64 0) := (blk_cell BK188.out 7).trans rfl
                    have hfz48_0 := blk_frozen BK188.out 0
                    have hfz48_1 := blk_frozen BK188.out 1
                    have hfz48_2 := blk_frozen BK188.out 2
                    have hfz48_3 := blk_frozen BK188.out 3
                    have hfz48_4 := blk_frozen BK188.out 4
                    have hfz48_5 := blk_frozen BK188.out 5
                    have hfz48_6 := blk_frozen BK188.out 6
                    have hfz48_7 := blk_frozen BK188.out 7
                    have hnb49 := NB152_159.out
                    have hnc49 := NB159_152.out
                    have hnb50 := NB152_168.out
                    have hnc50 := NB168_152.out
                    have hnb51 := NB152_178.out
                    have hnc51 := NB178_152.out
                    have hcz52_0 : w36.cell? ⟨gb152, 0, none⟩ = some (.int .i64 a0_0) := (blk_cell BK152.out 0).trans rfl
                    have hcz52_1 : w36.cell? ⟨gb152, 1, none⟩ = some (.int .i64 a0_1) := (blk_cell BK152.out 1).trans rfl
                    have hcz52_2 : w36.cell? ⟨gb152, 2, none⟩ = some (.int .i64 a0_2) := (blk_cell BK152.out 2).trans rfl
                    have hcz52_3 : w36.cell? ⟨gb152, 3, none⟩ = some (.slice A0_3 l0_3.length c0_3) := (blk_cell BK152.out 3).trans rfl
                    have hcz52_4 : w36.cell? ⟨gb152, 4, none⟩ = some (.int .i64 a0_4) := (blk_cell BK152.out 4).trans rfl
                    have hcz52_5 : w36.cell? ⟨gb152, 5, none⟩ = some (.int .i64 a0_5) := (blk_cell BK152.out 5).trans rfl
                    have hcz52_6 : w36.cell? ⟨gb152, 6, none⟩ = some (.int .i64 a0_6) := (blk_cell BK152.out 6).trans rfl
                    have hcz52_7 : w36.cell? ⟨gb152, 7, none⟩ = some (.int .i64 a0_7) := (blk_cell BK152.out 7).trans rfl
                    have hcz52_8 : w36.cell? ⟨gb152, 8, none⟩ = some (.int .i64 a0_8) := (blk_cell BK152.out 8).trans rfl
                    have hcz52_9 : w36.cell? ⟨gb152, 9, none⟩ = some (.int .i64 a0_9) := (blk_cell BK152.out 9).trans rfl
                    have hcz52_10 : w36.cell? ⟨gb152, 10, none⟩ = some (.int .i64 a0_10) := (blk_cell BK152.out 10).trans rfl
                    have hcz52_11 : w36.cell? ⟨gb152, 11, none⟩ = some (.int .i64 a0_11) := (blk_cell BK152.out 11).trans rfl
                    have hcz52_12 : w36.cell? ⟨gb152, 12, none⟩ = some (.int .i64 a0_12) := (blk_cell BK152.out 12).trans rfl
                    have hcz52_13 : w36.cell? ⟨gb152, 13, none⟩ = some (.int .i64 a0_13) := (blk_cell BK152.out 13).trans rfl
                    have hcz52_14 : w36.cell? ⟨gb152, 14, none⟩ = some (.int .i64 a0_14) := (blk_cell BK152.out 14).trans rfl
                    have hfz52_0 := blk_frozen BK152.out 0
                    have hfz52_1 := blk_frozen BK152.out 1
                    have hfz52_2 := blk_frozen BK152.out 2
                    have hfz52_3 := blk_frozen BK152.out 3
                    have hfz52_4 := blk_frozen BK152.out 4
                    have hfz52_5 := blk_frozen BK152.out 5
                    have hfz52_6 := blk_frozen BK152.out 6
                    have hfz52_7 := blk_frozen BK152.out 7
                    have hfz52_8 := blk_frozen BK152.out 8
                    have hfz52_9 := blk_frozen BK152.out 9
                    have hfz52_10 := blk_frozen BK152.out 10
                    have hfz52_11 := blk_frozen BK152.out 11
                    have hfz52_12 := blk_frozen BK152.out 12
                    have hfz52_13 := blk_frozen BK152.out 13
                    have hfz52_14 := blk_frozen BK152.out 14
                    go_wp2
                    go_meet
                    case rel => exact ⟨_, (((wrap64 (Int.tdiv t182 65536)) == (wrap64 (Int.tdiv a0_11 65536)))), (by first | rfl | (simp; done) | (simp [*]; done)), H', ⟨by have := HK1.out; have := HJ17.out; first | omega | exact Nat.le_refl _⟩, ⟨by (with_reducible repeat (first | apply Kd.V_alloc | apply Kd.V_drewN | apply Kd.V_drew)); exact Kd.V_mono (Kd.V_far (p := ⟨gb188, 7, none⟩) (Kd.V_far (p := ⟨gb188, 6, none⟩) (Kd.V_far (p := ⟨gb188, 5, none⟩) (Kd.V_far (p := ⟨gb188, 4, none⟩) (Kd.V_far (p := ⟨gb188, 3, none⟩) (Kd.V_far (p := ⟨gb188, 2, none⟩) (Kd.V_far (p := ⟨gb188, 1, none⟩) (Kd.V_far (p := ⟨gb188, 0, none⟩) (Kd.V_mono HO_160003.out (fun k_ hk => (⟨hk, hk.2⟩ : _ ∧ k_ ≠ gb188))) (fun _ hk => hk.2) (.int .i64 t179)) (fun _ hk => hk.2) (.int .i64 t180)) (fun _ hk => hk.2) (.int .i64 t181)) (fun _ hk => hk.2) (.int .i64 t182)) (fun _ hk => hk.2) (.int .i64 t183)) (fun _ hk => hk.2) (.int .i64 t184)) (fun _ hk => hk.2) (.int .i64 t185)) (fun _ hk => hk.2) (.int .i64 t186)) (fun _ hk => ⟨hk.1.1.1.1, ⟨hk.1.1.1.2.1, ⟨hk.1.1.1.2.2, ⟨hk.1.1.2, hk.1.2⟩⟩⟩⟩)⟩, ⟨by (with_reducible repeat (first | refine blk_drewN ?_ _ | refine blk_drew ?_ | refine blk_alloc ?_ _)); refine blk_far ?_ NB152_188.out _; (with_reducible repeat (first | refine blk_drewN ?_ _ | refine blk_drew ?_ | refine blk_alloc ?_ _)); refine blk_far ?_ NB152_188.out _; (with_reducible repeat (first | refine blk_drewN ?_ _ | refine blk_drew ?_ | refine blk_alloc ?_ _)); refine blk_far ?_ NB152_188.out _; (with_reducible repeat (first | refine blk_drewN ?_ _ | refine blk_drew ?_ | refine blk_alloc ?_ _)); refine blk_far ?_ NB152_188.out _; (with_reducible repeat (first | refine blk_drewN ?_ _ | refine blk_drew ?_ | refine blk_alloc ?_ _)); refine blk_far ?_ NB152_188.out _; (with_reducible repeat (first | refine blk_drewN ?_ _ | refine blk_drew ?_ | refine blk_alloc ?_ _)); refine blk_far ?_ NB152_188.out _; (with_reducible repeat (first | refine blk_drewN ?_ _ | refine blk_drew ?_ | refine blk_alloc ?_ _)); refine blk_far ?_ NB152_188.out _; (with_reducible repeat (first | refine blk_drewN ?_ _ | refine blk_drew ?_ | refine blk_alloc ?_ _)); refine blk_far ?_ NB152_188.out _; (with_reducible repeat (first | refine blk_drewN ?_ _ | refine blk_drew ?_ | refine blk_alloc ?_ _)); exact BK152.out⟩, ⟨by (with_reducible repeat (first | refine blk_drewN ?_ _ | refine blk_drew ?_ | refine blk_alloc ?_ _)); refine blk_far ?_ NB159_188.out _; (with_reducible repeat (first | refine blk_drewN ?_ _ | refine blk_drew ?_ | refine blk_alloc ?_ _)); refine blk_far ?_ NB159_188.out _; (with_reducible repeat (first | refine blk_drewN ?_ _ | refine blk_drew ?_ | refine blk_alloc ?_ _)); refine blk_far ?_ NB159_188.out _; (with_reducible repeat (first | refine blk_drewN ?_ _ | refine blk_drew ?_ | refine blk_alloc ?_ _)); refine blk_far ?_ NB159_188.out _; (with_reducible repeat (first | refine blk_drewN ?_ _ | refine blk_drew ?_ | refine blk_alloc ?_ _)); refine blk_far ?_ NB159_188.out _; (with_reducible repeat (first | refine blk_drewN ?_ _ | refine blk_drew ?_ | refine blk_alloc ?_ _)); refine blk_far ?_ NB159_188.out _; (with_reducible repeat (first | refine blk_drewN ?_ _ | refine blk_drew ?_ | refine blk_alloc ?_ _)); refine blk_far ?_ NB159_188.out _; (with_reducible repeat (first | refine blk_drewN ?_ _ | refine blk_drew ?_ | refine blk_alloc ?_ _)); refine blk_far ?_ NB159_188.out _; (with_reducible repeat (first | refine blk_drewN ?_ _ | refine blk_drew ?_ | refine blk_alloc ?_ _)); exact BK159.out⟩, ⟨by (with_reducible repeat (first | refine blk_drewN ?_ _ | refine blk_drew ?_ | refine blk_alloc ?_ _)); refine blk_far ?_ NB168_188.out _; (with_reducible repeat (first | refine blk_drewN ?_ _ | refine blk_drew ?_ | refine blk_alloc ?_ _)); refine blk_far ?_ NB168_188.out _; (with_reducible repeat (first | refine blk_drewN ?_ _ | refine blk_drew ?_ | refine blk_alloc ?_ _)); refine blk_far ?_ NB168_188.out _; (with_reducible repeat (first | refine blk_drewN ?_ _ | refine blk_drew ?_ | refine blk_alloc ?_ _)); refine blk_far ?_ NB168_188.out _; (with_reducible repeat (first | refine blk_drewN ?_ _ | refine blk_drew ?_ | refine blk_alloc ?_ _)); refine blk_far ?_ NB168_188.out _; (with_reducible repeat (first | refine blk_drewN ?_ _ | refine blk_drew ?_ | refine blk_alloc ?_ _)); refine blk_far ?_ NB168_188.out _; (with_reducible repeat (first | refine blk_drewN ?_ _ | refine blk_drew ?_ | refine blk_alloc ?_ _)); refine blk_far ?_ NB168_188.out _; (with_reducible repeat (first | refine blk_drewN ?_ _ | refine blk_drew ?_ | refine blk_alloc ?_ _)); refine blk_far ?_ NB168_188.out _; (with_reducible repeat (first | refine blk_drewN ?_ _ | refine blk_drew ?_ | refine blk_alloc ?_ _)); exact BK168.out⟩, ⟨by (with_reducible repeat (first | refine blk_drewN ?_ _ | refine blk_drew ?_ | refine blk_alloc ?_ _)); refine blk_far ?_ NB178_188.out _; (with_reducible repeat (first | refine blk_drewN ?_ _ | refine blk_drew ?_ | refine blk_alloc ?_ _)); refine blk_far ?_ NB178_188.out _; (with_reducible repeat (first | refine blk_drewN ?_ _ | refine blk_drew ?_ | refine blk_alloc ?_ _)); refine blk_far ?_ NB178_188.out _; (with_reducible repeat (first | refine blk_drewN ?_ _ | refine blk_drew ?_ | refine blk_alloc ?_ _)); refine blk_far ?_ NB178_188.out _; (with_reducible repeat (first | refine blk_drewN ?_ _ | refine blk_drew ?_ | refine blk_alloc ?_ _)); refine blk_far ?_ NB178_188.out _; (with_reducible repeat (first | refine blk_drewN ?_ _ | refine blk_drew ?_ | refine blk_alloc ?_ _)); refine blk_far ?_ NB178_188.out _; (with_reducible repeat (first | refine blk_drewN ?_ _ | refine blk_drew ?_ | refine blk_alloc ?_ _)); refine blk_far ?_ NB178_188.out _; (with_reducible repeat (first | refine blk_drewN ?_ _ | refine blk_drew ?_ | refine blk_alloc ?_ _)); refine blk_far ?_ NB178_188.out _; (with_reducible repeat (first | refine blk_drewN ?_ _ | refine blk_drew ?_ | refine blk_alloc ?_ _)); exact BK178.out⟩, ⟨by (with_reducible repeat (first | refine blk_drewN ?_ _ | refine blk_drew ?_ | refine blk_alloc ?_ _)); refine blk_put (cs := #[.int .i64 t179, .int .i64 t180, .int .i64 t181, .int .i64 t182, .int .i64 t183, .int .i64 t184, .int .i64 t185, .int .i64 0]) ?_ 7 _ rfl; (with_reducible repeat (first | refine blk_drewN ?_ _ | refine blk_drew ?_ | refine blk_alloc ?_ _)); refine blk_put (cs := #[.int .i64 t179, .int .i64 t180, .int .i64 t181, .int .i64 t182, .int .i64 t183, .int .i64 t184, .int .i64 0, .int .i64 0]) ?_ 6 _ rfl; (with_reducible repeat (first | refine blk_drewN ?_ _ | refine blk_drew ?_ | refine blk_alloc ?_ _)); refine blk_put (cs := #[.int .i64 t179, .int .i64 t180, .int .i64 t181, .int .i64 t182, .int .i64 t183, .int .i64 0, .int .i64 0, .int .i64 0]) ?_ 5 _ rfl; (with_reducible repeat (first | refine blk_drewN ?_ _ | refine blk_drew ?_ | refine blk_alloc ?_ _)); refine blk_put (cs := #[.int .i64 t179, .int .i64 t180, .int .i64 t181, .int .i64 t182, .int .i64 0, .int .i64 0, .int .i64 0, .int .i64 0]) ?_ 4 _ rfl; (with_reducible repeat (first | refine blk_drewN ?_ _ | refine blk_drew ?_ | refine blk_alloc ?_ _)); refine blk_put (cs := #[.int .i64 t179, .int .i64 t180, .int .i64 t181, .int .i64 0, .int .i64 0, .int .i64 0, .int .i64 0, .int .i64 0]) ?_ 3 _ rfl; (with_reducible repeat (first | refine blk_drewN ?_ _ | refine blk_drew ?_ | refine blk_alloc ?_ _)); refine blk_put (cs := #[.int .i64 t179, .int .i64 t180, .int .i64 0, .int .i64 0, .int .i64 0, .int .i64 0, .int .i64 0, .int .i64 0]) ?_ 2 _ rfl; (with_reducible repeat (first | refine blk_drewN ?_ _ | refine blk_drew ?_ | refine blk_alloc ?_ _)); refine blk_put (cs := #[.int .i64 t179, .int .i64 0, .int .i64 0, .int .i64 0, .int .i64 0, .int .i64 0, .int .i64 0, .int .i64 0]) ?_ 1 _ rfl; (with_reducible repeat (first | refine blk_drewN ?_ _ | refine blk_drew ?_ | refine blk_alloc ?_ _)); refine blk_put (cs := #[.int .i64 0, .int .i64 0, .int .i64 0, .int .i64 0, .int .i64 0, .int .i64 0, .int .i64 0, .int .i64 0]) ?_ 0 _ rfl; (with_reducible repeat (first | refine blk_drewN ?_ _ | refine blk_drew ?_ | refine blk_alloc ?_ _)); exact BK188.out⟩, ⟨by repeat (first | (with_reducible first | exact HB.out | apply below_alloc | apply pw_below_drewN | apply below_drew1 | refine below_set ?_ GE152.out | refine below_set ?_ GE159.out | refine below_set ?_ GE168.out | refine below_set ?_ GE178.out | refine below_set ?_ GE188.out) | exact HB.out)⟩⟩
                  · rw [if_neg c43] at H
                    have c43b0 : ((wrap64 (Int.tdiv t181 65536)) == (wrap64 (Int.tdiv a0_10 65536))) = false := beq_eq_false_iff_ne.mpr c43
                    have c43b1 : ((wrap64 (Int.tdiv t181 65536)) != (wrap64 (Int.tdiv a0_10 65536))) = true := bne_iff_ne.mpr c43
                    have H' := Aside0.mk H
                    clear H
                    have hnb53 := NB188_152.out
                    have hnc53 := NB152_188.out
                    have hnb54 := NB188_159.out
                    have hnc54 := NB159_188.out
                    have hnb55 := NB188_168.out
                    have hnc55 := NB168_188.out
                    have hnb56 := NB188_178.out
                    have hnc56 := NB178_188.out
                    have hcz57_0 : w36.cell? ⟨gb188, 0, none⟩ = some (.int .i64 0) := (blk_cell BK188.out 0).trans rfl
                    have hcz57_1 : w36.cell? ⟨gb188, 1, none⟩ = some (.int .i64 0) := (blk_cell BK188.out 1).trans rfl
                    have hcz57_2 : w36.cell? ⟨gb188, 2, none⟩ = some (.int .i64 0) := (blk_cell BK188.out 2).trans rfl
                    have hcz57_3 : w36.cell? ⟨gb188, 3, none⟩ = some (.int .i64 0) := (blk_cell BK188.out 3).trans rfl
                    have hcz57_4 : w36.cell? ⟨gb188, 4, none⟩ = some (.int .i64 0) := (blk_cell BK188.out 4).trans rfl
                    have hcz57_5 : w36.cell? ⟨gb188, 5, none⟩ = some (.int .i64 0) := (blk_cell BK188.out 5).trans rfl
                    have hcz57_6 : w36.cell? ⟨gb188, 6, none⟩ = some (.int .i64 0) := (blk_cell BK188.out 6).trans rfl
                    have hcz57_7 : w36.cell? ⟨gb188, 7, none⟩ = some (.int .i64 0) := (blk_cell BK188.out 7).trans rfl
                    have hfz57_0 := blk_frozen BK188.out 0
                    have hfz57_1 := blk_frozen BK188.out 1
                    have hfz57_2 := blk_frozen BK188.out 2
                    have hfz57_3 := blk_frozen BK188.out 3
                    have hfz57_4 := blk_frozen BK188.out 4
                    have hfz57_5 := blk_frozen BK188.out 5
                    have hfz57_6 := blk_frozen BK188.out 6
                    have hfz57_7 := blk_frozen BK188.out 7
                    have hnb58 := NB152_159.out
                    have hnc58 := NB159_152.out
                    have hnb59 := NB152_168.out
                    have hnc59 := NB168_152.out
                    have hnb60 := NB152_178.out
                    have hnc60 := NB178_152.out
                    have hcz61_0 : w36.cell? ⟨gb152, 0, none⟩ = some (.int .i64 a0_0) := (blk_cell BK152.out 0).trans rfl
                    have hcz61_1 : w36.cell? ⟨gb152, 1, none⟩ = some (.int .i64 a0_1) := (blk_cell BK152.out 1).trans rfl
                    have hcz61_2 : w36.cell? ⟨gb152, 2, none⟩ = some (.int .i64 a0_2) := (blk_cell BK152.out 2).trans rfl
                    have hcz61_3 : w36.cell? ⟨gb152, 3, none⟩ = some (.slice A0_3 l0_3.length c0_3) := (blk_cell BK152.out 3).trans rfl
                    have hcz61_4 : w36.cell? ⟨gb152, 4, none⟩ = some (.int .i64 a0_4) := (blk_cell BK152.out 4).trans rfl
                    have hcz61_5 : w36.cell? ⟨gb152, 5, none⟩ = some (.int .i64 a0_5) := (blk_cell BK152.out 5).trans rfl
                    have hcz61_6 : w36.cell? ⟨gb152, 6, none⟩ = some (.int .i64 a0_6) := (blk_cell BK152.out 6).trans rfl
                    have hcz61_7 : w36.cell? ⟨gb152, 7, none⟩ = some (.int .i64 a0_7) := (blk_cell BK152.out 7).trans rfl
                    have hcz61_8 : w36.cell? ⟨gb152, 8, none⟩ = some (.int .i64 a0_8) := (blk_cell BK152.out 8).trans rfl
                    have hcz61_9 : w36.cell? ⟨gb152, 9, none⟩ = some (.int .i64 a0_9) := (blk_cell BK152.out 9).trans rfl
                    have hcz61_10 : w36.cell? ⟨gb152, 10, none⟩ = some (.int .i64 a0_10) := (blk_cell BK152.out 10).trans rfl
                    have hcz61_11 : w36.cell? ⟨gb152, 11, none⟩ = some (.int .i64 a0_11) := (blk_cell BK152.out 11).trans rfl
                    have hcz61_12 : w36.cell? ⟨gb152, 12, none⟩ = some (.int .i64 a0_12) := (blk_cell BK152.out 12).trans rfl
                    have hcz61_13 : w36.cell? ⟨gb152, 13, none⟩ = some (.int .i64 a0_13) := (blk_cell BK152.out 13).trans rfl
                    have hcz61_14 : w36.cell? ⟨gb152, 14, none⟩ = some (.int .i64 a0_14) := (blk_cell BK152.out 14).trans rfl
                    have hfz61_0 := blk_frozen BK152.out 0
                    have hfz61_1 := blk_frozen BK152.out 1
                    have hfz61_2 := blk_frozen BK152.out 2
                    have hfz61_3 := blk_frozen BK152.out 3
                    have hfz61_4 := blk_frozen BK152.out 4
                    have hfz61_5 := blk_frozen BK152.out 5
                    have hfz61_6 := blk_frozen BK152.out 6
                    have hfz61_7 := blk_frozen BK152.out 7
                    have hfz61_8 := blk_frozen BK152.out 8
                    have hfz61_9 := blk_frozen BK152.out 9
                    have hfz61_10 := blk_frozen BK152.out 10
                    have hfz61_11 := blk_frozen BK152.out 11
                    have hfz61_12 := blk_frozen BK152.out 12
                    have hfz61_13 := blk_frozen BK152.out 13
                    have hfz61_14 := blk_frozen BK152.out 14
                    go_wp2
                    go_meet
                    case rel => exact ⟨_, (false), (by first | rfl | (simp; done) | (simp [*]; done)), H', ⟨by have := HK1.out; have := HJ17.out; first | omega | exact Nat.le_refl _⟩, ⟨by (with_reducible repeat (first | apply Kd.V_alloc | apply Kd.V_drewN | apply Kd.V_drew)); exact Kd.V_mono (Kd.V_far (p := ⟨gb188, 7, none⟩) (Kd.V_far (p := ⟨gb188, 6, none⟩) (Kd.V_far (p := ⟨gb188, 5, none⟩) (Kd.V_far (p := ⟨gb188, 4, none⟩) (Kd.V_far (p := ⟨gb188, 3, none⟩) (Kd.V_far (p := ⟨gb188, 2, none⟩) (Kd.V_far (p := ⟨gb188, 1, none⟩) (Kd.V_far (p := ⟨gb188, 0, none⟩) (Kd.V_mono HO_160003.out (fun k_ hk => (⟨hk, hk.2⟩ : _ ∧ k_ ≠ gb188))) (fun _ hk => hk.2) (.int .i64 t179)) (fun _ hk => hk.2) (.int .i64 t180)) (fun _ hk => hk.2) (.int .i64 t181)) (fun _ hk => hk.2) (.int .i64 t182)) (fun _ hk => hk.2) (.int .i64 t183)) (fun _ hk => hk.2) (.int .i64 t184)) (fun _ hk => hk.2) (.int .i64 t185)) (fun _ hk => hk.2) (.int .i64 t186)) (fun _ hk => ⟨hk.1.1.1.1, ⟨hk.1.1.1.2.1, ⟨hk.1.1.1.2.2, ⟨hk.1.1.2, hk.1.2⟩⟩⟩⟩)⟩, ⟨by (with_reducible repeat (first | refine blk_drewN ?_ _ | refine blk_drew ?_ | refine blk_alloc ?_ _)); refine blk_far ?_ NB152_188.out _; (with_reducible repeat (first | refine blk_drewN ?_ _ | refine blk_drew ?_ | refine blk_alloc ?_ _)); refine blk_far ?_ NB152_188.out _; (with_reducible repeat (first | refine blk_drewN ?_ _ | refine blk_drew ?_ | refine blk_alloc ?_ _)); refine blk_far ?_ NB152_188.out _; (with_reducible repeat (first | refine blk_drewN ?_ _ | refine blk_drew ?_ | refine blk_alloc ?_ _)); refine blk_far ?_ NB152_188.out _; (with_reducible repeat (first | refine blk_drewN ?_ _ | refine blk_drew ?_ | refine blk_alloc ?_ _)); refine blk_far ?_ NB152_188.out _; (with_reducible repeat (first | refine blk_drewN ?_ _ | refine blk_drew ?_ | refine blk_alloc ?_ _)); refine blk_far ?_ NB152_188.out _; (with_reducible repeat (first | refine blk_drewN ?_ _ | refine blk_drew ?_ | refine blk_alloc ?_ _)); refine blk_far ?_ NB152_188.out _; (with_reducible repeat (first | refine blk_drewN ?_ _ | refine blk_drew ?_ | refine blk_alloc ?_ _)); refine blk_far ?_ NB152_188.out _; (with_reducible repeat (first | refine blk_drewN ?_ _ | refine blk_drew ?_ | refine blk_alloc ?_ _)); exact BK152.out⟩, ⟨by (with_reducible repeat (first | refine blk_drewN ?_ _ | refine blk_drew ?_ | refine blk_alloc ?_ _)); refine blk_far ?_ NB159_188.out _; (with_reducible repeat (first | refine blk_drewN ?_ _ | refine blk_drew ?_ | refine blk_alloc ?_ _)); refine blk_far ?_ NB159_188.out _; (with_reducible repeat (first | refine blk_drewN ?_ _ | refine blk_drew ?_ | refine blk_alloc ?_ _)); refine blk_far ?_ NB159_188.out _; (with_reducible repeat (first | refine blk_drewN ?_ _ | refine blk_drew ?_ | refine blk_alloc ?_ _)); refine blk_far ?_ NB159_188.out _; (with_reducible repeat (first | refine blk_drewN ?_ _ | refine blk_drew ?_ | refine blk_alloc ?_ _)); refine blk_far ?_ NB159_188.out _; (with_reducible repeat (first | refine blk_drewN ?_ _ | refine blk_drew ?_ | refine blk_alloc ?_ _)); refine blk_far ?_ NB159_188.out _; (with_reducible repeat (first | refine blk_drewN ?_ _ | refine blk_drew ?_ | refine blk_alloc ?_ _)); refine blk_far ?_ NB159_188.out _; (with_reducible repeat (first | refine blk_drewN ?_ _ | refine blk_drew ?_ | refine blk_alloc ?_ _)); refine blk_far ?_ NB159_188.out _; (with_reducible repeat (first | refine blk_drewN ?_ _ | refine blk_drew ?_ | refine blk_alloc ?_ _)); exact BK159.out⟩, ⟨by (with_reducible repeat (first | refine blk_drewN ?_ _ | refine blk_drew ?_ | refine blk_alloc ?_ _)); refine blk_far ?_ NB168_188.out _; (with_reducible repeat (first | refine blk_drewN ?_ _ | refine blk_drew ?_ | refine blk_alloc ?_ _)); refine blk_far ?_ NB168_188.out _; (with_reducible repeat (first | refine blk_drewN ?_ _ | refine blk_drew ?_ | refine blk_alloc ?_ _)); refine blk_far ?_ NB168_188.out _; (with_reducible repeat (first | refine blk_drewN ?_ _ | refine blk_drew ?_ | refine blk_alloc ?_ _)); refine blk_far ?_ NB168_188.out _; (with_reducible repeat (first | refine blk_drewN ?_ _ | refine blk_drew ?_ | refine blk_alloc ?_ _)); refine blk_far ?_ NB168_188.out _; (with_reducible repeat (first | refine blk_drewN ?_ _ | refine blk_drew ?_ | refine blk_alloc ?_ _)); refine blk_far ?_ NB168_188.out _; (with_reducible repeat (first | refine blk_drewN ?_ _ | refine blk_drew ?_ | refine blk_alloc ?_ _)); refine blk_far ?_ NB168_188.out _; (with_reducible repeat (first | refine blk_drewN ?_ _ | refine blk_drew ?_ | refine blk_alloc ?_ _)); refine blk_far ?_ NB168_188.out _; (with_reducible repeat (first | refine blk_drewN ?_ _ | refine blk_drew ?_ | refine blk_alloc ?_ _)); exact BK168.out⟩, ⟨by (with_reducible repeat (first | refine blk_drewN ?_ _ | refine blk_drew ?_ | refine blk_alloc ?_ _)); refine blk_far ?_ NB178_188.out _; (with_reducible repeat (first | refine blk_drewN ?_ _ | refine blk_drew ?_ | refine blk_alloc ?_ _)); refine blk_far ?_ NB178_188.out _; (with_reducible repeat (first | refine blk_drewN ?_ _ | refine blk_drew ?_ | refine blk_alloc ?_ _)); refine blk_far ?_ NB178_188.out _; (with_reducible repeat (first | refine blk_drewN ?_ _ | refine blk_drew ?_ | refine blk_alloc ?_ _)); refine blk_far ?_ NB178_188.out _; (with_reducible repeat (first | refine blk_drewN ?_ _ | refine blk_drew ?_ | refine blk_alloc ?_ _)); refine blk_far ?_ NB178_188.out _; (with_reducible repeat (first | refine blk_drewN ?_ _ | refine blk_drew ?_ | refine blk_alloc ?_ _)); refine blk_far ?_ NB178_188.out _; (with_reducible repeat (first | refine blk_drewN ?_ _ | refine blk_drew ?_ | refine blk_alloc ?_ _)); refine blk_far ?_ NB178_188.out _; (with_reducible repeat (first | refine blk_drewN ?_ _ | refine blk_drew ?_ | refine blk_alloc ?_ _)); refine blk_far ?_ NB178_188.out _; (with_reducible repeat (first | refine blk_drewN ?_ _ | refine blk_drew ?_ | refine blk_alloc ?_ _)); exact BK178.out⟩, ⟨by (with_reducible repeat (first | refine blk_drewN ?_ _ | refine blk_drew ?_ | refine blk_alloc ?_ _)); refine blk_put (cs := #[.int .i64 t179, .int .i64 t180, .int .i64 t181, .int .i64 t182, .int .i64 t183, .int .i64 t184, .int .i64 t185, .int .i64 0]) ?_ 7 _ rfl; (with_reducible repeat (first | refine blk_drewN ?_ _ | refine blk_drew ?_ | refine blk_alloc ?_ _)); refine blk_put (cs := #[.int .i64 t179, .int .i64 t180, .int .i64 t181, .int .i64 t182, .int .i64 t183, .int .i64 t184, .int .i64 0, .int .i64 0]) ?_ 6 _ rfl; (with_reducible repeat (first | refine blk_drewN ?_ _ | refine blk_drew ?_ | refine blk_alloc ?_ _)); refine blk_put (cs := #[.int .i64 t179, .int .i64 t180, .int .i64 t181, .int .i64 t182, .int .i64 t183, .int .i64 0, .int .i64 0, .int .i64 0]) ?_ 5 _ rfl; (with_reducible repeat (first | refine blk_drewN ?_ _ | refine blk_drew ?_ | refine blk_alloc ?_ _)); refine blk_put (cs := #[.int .i64 t179, .int .i64 t180, .int .i64 t181, .int .i64 t182, .int .i64 0, .int .i64 0, .int .i64 0, .int .i64 0]) ?_ 4 _ rfl; (with_reducible repeat (first | refine blk_drewN ?_ _ | refine blk_drew ?_ | refine blk_alloc ?_ _)); refine blk_put (cs := #[.int .i64 t179, .int .i64 t180, .int .i64 t181, .int .i64 0, .int .i64 0, .int .i64 0, .int .i64 0, .int .i64 0]) ?_ 3 _ rfl; (with_reducible repeat (first | refine blk_drewN ?_ _ | refine blk_drew ?_ | refine blk_alloc ?_ _)); refine blk_put (cs := #[.int .i64 t179, .int .i64 t180, .int .i64 0, .int .i64 0, .int .i64 0, .int .i64 0, .int .i64 0, .int .i64 0]) ?_ 2 _ rfl; (with_reducible repeat (first | refine blk_drewN ?_ _ | refine blk_drew ?_ | refine blk_alloc ?_ _)); refine blk_put (cs := #[.int .i64 t179, .int .i64 0, .int .i64 0, .int .i64 0, .int .i64 0, .int .i64 0, .int .i64 0, .int .i64 0]) ?_ 1 _ rfl; (with_reducible repeat (first | refine blk_drewN ?_ _ | refine blk_drew ?_ | refine blk_alloc ?_ _)); refine blk_put (cs := #[.int .i64 0, .int .i64 0, .int .i64 0, .int .i64 0, .int .i64 0, .int .i64 0, .int .i64 0, .int .i64 0]) ?_ 0 _ rfl; (with_reducible repeat (first | refine blk_drewN ?_ _ | refine blk_drew ?_ | refine blk_alloc ?_ _)); exact BK188.out⟩, ⟨by repeat (first | (with_reducible first | exact HB.out | apply below_alloc | apply pw_below_drewN | apply below_drew1 | refine below_set ?_ GE152.out | refine below_set ?_ GE159.out | refine below_set ?_ GE168.out | refine below_set ?_ GE178.out | refine below_set ?_ GE188.out) | exact HB.out)⟩⟩
                · rw [if_neg c42] at H
                  have c42b0 : (t180 == 1) = false := beq_eq_false_iff_ne.mpr c42
                  have c42b1 : (t180 != 1) = true := bne_iff_ne.mpr c42
                  (first | rw [c42b0] | (simp only [i64_w, i32_w]; rw [c42b0]) | skip)
                  by_cases c62 : t180 = 2
                  · rw [if_pos c62] at H
                    have c62b0 : (t180 == 2) = true := beq_iff_eq.mpr c62
                    have c62b1 : (t180 != 2) = false := bne_eq_false_iff_eq.mpr c62
                    clear c62
                    by_cases c63 : (wrap64 (Int.tdiv t181 65536)) = (wrap64 (Int.tdiv a0_10 65536))
                    · rw [if_pos c63] at H
                      have c63b0 : ((wrap64 (Int.tdiv t181 65536)) == (wrap64 (Int.tdiv a0_10 65536))) = true := beq_iff_eq.mpr c63
                      have c63b1 : ((wrap64 (Int.tdiv t181 65536)) != (wrap64 (Int.tdiv a0_10 65536))) = false := bne_eq_false_iff_eq.mpr c63
                      clear c63
                      have H' := Aside0.mk H
                      clear H
                      have hnb64 := NB188_152.out
                      have hnc64 := NB152_188.out
                      have hnb65 := NB188_159.out
                      have hnc65 := NB159_188.out
                      have hnb66 := NB188_168.out
                      have hnc66 := NB168_188.out
                      have hnb67 := NB188_178.out
                      have hnc67 := NB178_188.out
                      have hcz68_0 : w36.cell? ⟨gb188, 0, none⟩ = some (.int .i64 0) := (blk_cell BK188.out 0).trans rfl
                      have hcz68_1 : w36.cell? ⟨gb188, 1, none⟩ = some (.int .i64 0) := (blk_cell BK188.out 1).trans rfl
                      have hcz68_2 : w36.cell? ⟨gb188, 2, none⟩ = some (.int .i64 0) := (blk_cell BK188.out 2).trans rfl
                      have hcz68_3 : w36.cell? ⟨gb188, 3, none⟩ = some (.int .i64 0) := (blk_cell BK188.out 3).trans rfl
                      have hcz68_4 : w36.cell? ⟨gb188, 4, none⟩ = some (.int .i64 0) := (blk_cell BK188.out 4).trans rfl
                      have hcz68_5 : w36.cell? ⟨gb188, 5, none⟩ = some (.int .i64 0) := (blk_cell BK188.out 5).trans rfl
                      have hcz68_6 : w36.cell? ⟨gb188, 6, none⟩ = some (.int .i64 0) := (blk_cell BK188.out 6).trans rfl
                      have hcz68_7 : w36.cell? ⟨gb188, 7, none⟩ = some (.int .i64 0) := (blk_cell BK188.out 7).trans rfl
                      have hfz68_0 := blk_frozen BK188.out 0
                      have hfz68_1 := blk_frozen BK188.out 1
                      have hfz68_2 := blk_frozen BK188.out 2
                      have hfz68_3 := blk_frozen BK188.out 3
                      have hfz68_4 := blk_frozen BK188.out 4
                      have hfz68_5 := blk_frozen BK188.out 5
                      have hfz68_6 := blk_frozen BK188.out 6
                      have hfz68_7 := blk_frozen BK188.out 7
                      have hnb69 := NB152_159.out
                      have hnc69 := NB159_152.out
                      have hnb70 := NB152_168.out
                      have hnc70 := NB168_152.out
                      have hnb71 := NB152_178.out
                      have hnc71 := NB178_152.out
                      have hcz72_0 : w36.cell? ⟨gb152, 0, none⟩ = some (.int .i64 a0_0) := (blk_cell BK152.out 0).trans rfl
                      have hcz72_1 : w36.cell? ⟨gb152, 1, none⟩ = some (.int .i64 a0_1) := (blk_cell BK152.out 1).trans rfl
                      have hcz72_2 : w36.cell? ⟨gb152, 2, none⟩ = some (.int .i64 a0_2) := (blk_cell BK152.out 2).trans rfl
                      have hcz72_3 : w36.cell? ⟨gb152, 3, none⟩ = some (.slice A0_3 l0_3.length c0_3) := (blk_cell BK152.out 3).trans rfl
                      have hcz72_4 : w36.cell? ⟨gb152, 4, none⟩ = some (.int .i64 a0_4) := (blk_cell BK152.out 4).trans rfl
                      have hcz72_5 : w36.cell? ⟨gb152, 5, none⟩ = some (.int .i64 a0_5) := (blk_cell BK152.out 5).trans rfl
                      have hcz72_6 : w36.cell? ⟨gb152, 6, none⟩ = some (.int .i64 a0_6) := (blk_cell BK152.out 6).trans rfl
                      have hcz72_7 : w36.cell? ⟨gb152, 7, none⟩ = some (.int .i64 a0_7) := (blk_cell BK152.out 7).trans rfl
                      have hcz72_8 : w36.cell? ⟨gb152, 8, none⟩ = some (.int .i64 a0_8) := (blk_cell BK152.out 8).trans rfl
                      have hcz72_9 : w36.cell? ⟨gb152, 9, none⟩ = some (.int .i64 a0_9) := (blk_cell BK152.out 9).trans rfl
                      have hcz72_10 : w36.cell? ⟨gb152, 10, none⟩ = some (.int .i64 a0_10) := (blk_cell BK152.out 10).trans rfl
                      have hcz72_11 : w36.cell? ⟨gb152, 11, none⟩ = some (.int .i64 a0_11) := (blk_cell BK152.out 11).trans rfl
                      have hcz72_12 : w36.cell? ⟨gb152, 12, none⟩ = some (.int .i64 a0_12) := (blk_cell BK152.out 12).trans rfl
                      have hcz72_13 : w36.cell? ⟨gb152, 13, none⟩ = some (.int .i64 a0_13) := (blk_cell BK152.out 13).trans rfl
                      have hcz72_14 : w36.cell? ⟨gb152, 14, none⟩ = some (.int .i64 a0_14) := (blk_cell BK152.out 14).trans rfl
                      have hfz72_0 := blk_frozen BK152.out 0
                      have hfz72_1 := blk_frozen BK152.out 1
                      have hfz72_2 := blk_frozen BK152.out 2
                      have hfz72_3 := blk_frozen BK152.out 3
                      have hfz72_4 := blk_frozen BK152.out 4
                      have hfz72_5 := blk_frozen BK152.out 5
                      have hfz72_6 := blk_frozen BK152.out 6
                      have hfz72_7 := blk_frozen BK152.out 7
                      have hfz72_8 := blk_frozen BK152.out 8
                      have hfz72_9 := blk_frozen BK152.out 9
                      have hfz72_10 := blk_frozen BK152.out 10
                      have hfz72_11 := blk_frozen BK152.out 11
                      have hfz72_12 := blk_frozen BK152.out 12
                      have hfz72_13 := blk_frozen BK152.out 13
                      have hfz72_14 := blk_frozen BK152.out 14
                      go_wp2
                      go_meet
                      case rel => exact ⟨_, (((wrap64 (Int.tdiv t182 65536)) == (wrap64 (Int.tdiv a0_11 65536)))), (by first | rfl | (simp; done) | (simp [*]; done)), H', ⟨by have := HK1.out; have := HJ17.out; first | omega | exact Nat.le_refl _⟩, ⟨by (with_reducible repeat (first | apply Kd.V_alloc | apply Kd.V_drewN | apply Kd.V_drew)); exact Kd.V_mono (Kd.V_far (p := ⟨gb188, 7, none⟩) (Kd.V_far (p := ⟨gb188, 6, none⟩) (Kd.V_far (p := ⟨gb188, 5, none⟩) (Kd.V_far (p := ⟨gb188, 4, none⟩) (Kd.V_far (p := ⟨gb188, 3, none⟩) (Kd.V_far (p := ⟨gb188, 2, none⟩) (Kd.V_far (p := ⟨gb188, 1, none⟩) (Kd.V_far (p := ⟨gb188, 0, none⟩) (Kd.V_mono HO_160003.out (fun k_ hk => (⟨hk, hk.2⟩ : _ ∧ k_ ≠ gb188))) (fun _ hk => hk.2) (.int .i64 t179)) (fun _ hk => hk.2) (.int .i64 t180)) (fun _ hk => hk.2) (.int .i64 t181)) (fun _ hk => hk.2) (.int .i64 t182)) (fun _ hk => hk.2) (.int .i64 t183)) (fun _ hk => hk.2) (.int .i64 t184)) (fun _ hk => hk.2) (.int .i64 t185)) (fun _ hk => hk.2) (.int .i64 t186)) (fun _ hk => ⟨hk.1.1.1.1, ⟨hk.1.1.1.2.1, ⟨hk.1.1.1.2.2, ⟨hk.1.1.2, hk.1.2⟩⟩⟩⟩)⟩, ⟨by (with_reducible repeat (first | refine blk_drewN ?_ _ | refine blk_drew ?_ | refine blk_alloc ?_ _)); refine blk_far ?_ NB152_188.out _; (with_reducible repeat (first | refine blk_drewN ?_ _ | refine blk_drew ?_ | refine blk_alloc ?_ _)); refine blk_far ?_ NB152_188.out _; (with_reducible repeat (first | refine blk_drewN ?_ _ | refine blk_drew ?_ | refine blk_alloc ?_ _)); refine blk_far ?_ NB152_188.out _; (with_reducible repeat (first | refine blk_drewN ?_ _ | refine blk_drew ?_ | refine blk_alloc ?_ _)); refine blk_far ?_ NB152_188.out _; (with_reducible repeat (first | refine blk_drewN ?_ _ | refine blk_drew ?_ | refine blk_alloc ?_ _)); refine blk_far ?_ NB152_188.out _; (with_reducible repeat (first | refine blk_drewN ?_ _ | refine blk_drew ?_ | refine blk_alloc ?_ _)); refine blk_far ?_ NB152_188.out _; (with_reducible repeat (first | refine blk_drewN ?_ _ | refine blk_drew ?_ | refine blk_alloc ?_ _)); refine blk_far ?_ NB152_188.out _; (with_reducible repeat (first | refine blk_drewN ?_ _ | refine blk_drew ?_ | refine blk_alloc ?_ _)); refine blk_far ?_ NB152_188.out _; (with_reducible repeat (first | refine blk_drewN ?_ _ | refine blk_drew ?_ | refine blk_alloc ?_ _)); exact BK152.out⟩, ⟨by (with_reducible repeat (first | refine blk_drewN ?_ _ | refine blk_drew ?_ | refine blk_alloc ?_ _)); refine blk_far ?_ NB159_188.out _; (with_reducible repeat (first | refine blk_drewN ?_ _ | refine blk_drew ?_ | refine blk_alloc ?_ _)); refine blk_far ?_ NB159_188.out _; (with_reducible repeat (first | refine blk_drewN ?_ _ | refine blk_drew ?_ | refine blk_alloc ?_ _)); refine blk_far ?_ NB159_188.out _; (with_reducible repeat (first | refine blk_drewN ?_ _ | refine blk_drew ?_ | refine blk_alloc ?_ _)); refine blk_far ?_ NB159_188.out _; (with_reducible repeat (first | refine blk_drewN ?_ _ | refine blk_drew ?_ | refine blk_alloc ?_ _)); refine blk_far ?_ NB159_188.out _; (with_reducible repeat (first | refine blk_drewN ?_ _ | refine blk_drew ?_ | refine blk_alloc ?_ _)); refine blk_far ?_ NB159_188.out _; (with_reducible repeat (first | refine blk_drewN ?_ _ | refine blk_drew ?_ | refine blk_alloc ?_ _)); refine blk_far ?_ NB159_188.out _; (with_reducible repeat (first | refine blk_drewN ?_ _ | refine blk_drew ?_ | refine blk_alloc ?_ _)); refine blk_far ?_ NB159_188.out _; (with_reducible repeat (first | refine blk_drewN ?_ _ | refine blk_drew ?_ | refine blk_alloc ?_ _)); exact BK159.out⟩, ⟨by (with_reducible repeat (first | refine blk_drewN ?_ _ | refine blk_drew ?_ | refine blk_alloc ?_ _)); refine blk_far ?_ NB168_188.out _; (with_reducible repeat (first | refine blk_drewN ?_ _ | refine blk_drew ?_ | refine blk_alloc ?_ _)); refine blk_far ?_ NB168_188.out _; (with_reducible repeat (first | refine blk_drewN ?_ _ | refine blk_drew ?_ | refine blk_alloc ?_ _)); refine blk_far ?_ NB168_188.out _; (with_reducible repeat (first | refine blk_drewN ?_ _ | refine blk_drew ?_ | refine blk_alloc ?_ _)); refine blk_far ?_ NB168_188.out _; (with_reducible repeat (first | refine blk_drewN ?_ _ | refine blk_drew ?_ | refine blk_alloc ?_ _)); refine blk_far ?_ NB168_188.out _; (with_reducible repeat (first | refine blk_drewN ?_ _ | refine blk_drew ?_ | refine blk_alloc ?_ _)); refine blk_far ?_ NB168_188.out _; (with_reducible repeat (first | refine blk_drewN ?_ _ | refine blk_drew ?_ | refine blk_alloc ?_ _)); refine blk_far ?_ NB168_188.out _; (with_reducible repeat (first | refine blk_drewN ?_ _ | refine blk_drew ?_ | refine blk_alloc ?_ _)); refine blk_far ?_ NB168_188.out _; (with_reducible repeat (first | refine blk_drewN ?_ _ | refine blk_drew ?_ | refine blk_alloc ?_ _)); exact BK168.out⟩, ⟨by (with_reducible repeat (first | refine blk_drewN ?_ _ | refine blk_drew ?_ | refine blk_alloc ?_ _)); refine blk_far ?_ NB178_188.out _; (with_reducible repeat (first | refine blk_drewN ?_ _ | refine blk_drew ?_ | refine blk_alloc ?_ _)); refine blk_far ?_ NB178_188.out _; (with_reducible repeat (first | refine blk_drewN ?_ _ | refine blk_drew ?_ | refine blk_alloc ?_ _)); refine blk_far ?_ NB178_188.out _; (with_reducible repeat (first | refine blk_drewN ?_ _ | refine blk_drew ?_ | refine blk_alloc ?_ _)); refine blk_far ?_ NB178_188.out _; (with_reducible repeat (first | refine blk_drewN ?_ _ | refine blk_drew ?_ | refine blk_alloc ?_ _)); refine blk_far ?_ NB178_188.out _; (with_reducible repeat (first | refine blk_drewN ?_ _ | refine blk_drew ?_ | refine blk_alloc ?_ _)); refine blk_far ?_ NB178_188.out _; (with_reducible repeat (first | refine blk_drewN ?_ _ | refine blk_drew ?_ | refine blk_alloc ?_ _)); refine blk_far ?_ NB178_188.out _; (with_reducible repeat (first | refine blk_drewN ?_ _ | refine blk_drew ?_ | refine blk_alloc ?_ _)); refine blk_far ?_ NB178_188.out _; (with_reducible repeat (first | refine blk_drewN ?_ _ | refine blk_drew ?_ | refine blk_alloc ?_ _)); exact BK178.out⟩, ⟨by (with_reducible repeat (first | refine blk_drewN ?_ _ | refine blk_drew ?_ | refine blk_alloc ?_ _)); refine blk_put (cs := #[.int .i64 t179, .int .i64 t180, .int .i64 t181, .int .i64 t182, .int .i64 t183, .int .i64 t184, .int .i64 t185, .int .i64 0]) ?_ 7 _ rfl; (with_reducible repeat (first | refine blk_drewN ?_ _ | refine blk_drew ?_ | refine blk_alloc ?_ _)); refine blk_put (cs := #[.int .i64 t179, .int .i64 t180, .int .i64 t181, .int .i64 t182, .int .i64 t183, .int .i64 t184, .int .i64 0, .int .i64 0]) ?_ 6 _ rfl; (with_reducible repeat (first | refine blk_drewN ?_ _ | refine blk_drew ?_ | refine blk_alloc ?_ _)); refine blk_put (cs := #[.int .i64 t179, .int .i64 t180, .int .i64 t181, .int .i64 t182, .int .i64 t183, .int .i64 0, .int .i64 0, .int .i64 0]) ?_ 5 _ rfl; (with_reducible repeat (first | refine blk_drewN ?_ _ | refine blk_drew ?_ | refine blk_alloc ?_ _)); refine blk_put (cs := #[.int .i64 t179, .int .i64 t180, .int .i64 t181, .int .i64 t182, .int .i64 0, .int .i64 0, .int .i64 0, .int .i64 0]) ?_ 4 _ rfl; (with_reducible repeat (first | refine blk_drewN ?_ _ | refine blk_drew ?_ | refine blk_alloc ?_ _)); refine blk_put (cs := #[.int .i64 t179, .int .i64 t180, .int .i64 t181, .int .i64 0, .int .i64 0, .int .i64 0, .int .i64 0, .int .i64 0]) ?_ 3 _ rfl; (with_reducible repeat (first | refine blk_drewN ?_ _ | refine blk_drew ?_ | refine blk_alloc ?_ _)); refine blk_put (cs := #[.int .i64 t179, .int .i64 t180, .int .i64 0, .int .i64 0, .int .i64 0, .int .i64 0, .int .i64 0, .int .i64 0]) ?_ 2 _ rfl; (with_reducible repeat (first | refine blk_drewN ?_ _ | refine blk_drew ?_ | refine blk_alloc ?_ _)); refine blk_put (cs := #[.int .i64 t179, .int .i64 0, .int .i64 0, .int .i64 0, .int .i64 0, .int .i64 0, .int .i64 0, .int .i64 0]) ?_ 1 _ rfl; (with_reducible repeat (first | refine blk_drewN ?_ _ | refine blk_drew ?_ | refine blk_alloc ?_ _)); refine blk_put (cs := #[.int .i64 0, .int .i64 0, .int .i64 0, .int .i64 0, .int .i64 0, .int .i64 0, .int .i64 0, .int .i64 0]) ?_ 0 _ rfl; (with_reducible repeat (first | refine blk_drewN ?_ _ | refine blk_drew ?_ | refine blk_alloc ?_ _)); exact BK188.out⟩, ⟨by repeat (first | (with_reducible first | exact HB.out | apply below_alloc | apply pw_below_drewN | apply below_drew1 | refine below_set ?_ GE152.out | refine below_set ?_ GE159.out | refine below_set ?_ GE168.out | refine below_set ?_ GE178.out | refine below_set ?_ GE188.out) | exact HB.out)⟩⟩
                    · rw [if_neg c63] at H
                      have c63b0 : ((wrap64 (Int.tdiv t181 65536)) == (wrap64 (Int.tdiv a0_10 65536))) = false := beq_eq_false_iff_ne.mpr c63
                      have c63b1 : ((wrap64 (Int.tdiv t181 65536)) != (wrap64 (Int.tdiv a0_10 65536))) = true := bne_iff_ne.mpr c63
                      have H' := Aside0.mk H
                      clear H
                      have hnb73 := NB188_152.out
                      have hnc73 := NB152_188.out
                      have hnb74 := NB188_159.out
                      have hnc74 := NB159_188.out
                      have hnb75 := NB188_168.out
                      have hnc75 := NB168_188.out
                      have hnb76 := NB188_178.out
                      have hnc76 := NB178_188.out
                      have hcz77_0 : w36.cell? ⟨gb188, 0, none⟩ = some (.int .i64 0) := (blk_cell BK188.out 0).trans rfl
                      have hcz77_1 : w36.cell? ⟨gb188, 1, none⟩ = some (.int .i64 0) := (blk_cell BK188.out 1).trans rfl
                      have hcz77_2 : w36.cell? ⟨gb188, 2, none⟩ = some (.int .i64 0) := (blk_cell BK188.out 2).trans rfl
                      have hcz77_3 : w36.cell? ⟨gb188, 3, none⟩ = some (.int .i64 0) := (blk_cell BK188.out 3).trans rfl
                      have hcz77_4 : w36.cell? ⟨gb188, 4, none⟩ = some (.int .i64 0) := (blk_cell BK188.out 4).trans rfl
                      have hcz77_5 : w36.cell? ⟨gb188, 5, none⟩ = some (.int .i64 0) := (blk_cell BK188.out 5).trans rfl
                      have hcz77_6 : w36.cell? ⟨gb188, 6, none⟩ = some (.int .i64 0) := (blk_cell BK188.out 6).trans rfl
                      have hcz77_7 : w36.cell? ⟨gb188, 7, none⟩ = some (.int .i64 0) := (blk_cell BK188.out 7).trans rfl
                      have hfz77_0 := blk_frozen BK188.out 0
                      have hfz77_1 := blk_frozen BK188.out 1
                      have hfz77_2 := blk_frozen BK188.out 2
                      have hfz77_3 := blk_frozen BK188.out 3
                      have hfz77_4 := blk_frozen BK188.out 4
                      have hfz77_5 := blk_frozen BK188.out 5
                      have hfz77_6 := blk_frozen BK188.out 6
                      have hfz77_7 := blk_frozen BK188.out 7
                      have hnb78 := NB152_159.out
                      have hnc78 := NB159_152.out
                      have hnb79 := NB152_168.out
                      have hnc79 := NB168_152.out
                      have hnb80 := NB152_178.out
                      have hnc80 := NB178_152.out
                      have hcz81_0 : w36.cell? ⟨gb152, 0, none⟩ = some (.int .i64 a0_0) := (blk_cell BK152.out 0).trans rfl
                      have hcz81_1 : w36.cell? ⟨gb152, 1, none⟩ = some (.int .i64 a0_1) := (blk_cell BK152.out 1).trans rfl
                      have hcz81_2 : w36.cell? ⟨gb152, 2, none⟩ = some (.int .i64 a0_2) := (blk_cell BK152.out 2).trans rfl
                      have hcz81_3 : w36.cell? ⟨gb152, 3, none⟩ = some (.slice A0_3 l0_3.length c0_3) := (blk_cell BK152.out 3).trans rfl
                      have hcz81_4 : w36.cell? ⟨gb152, 4, none⟩ = some (.int .i64 a0_4) := (blk_cell BK152.out 4).trans rfl
                      have hcz81_5 : w36.cell? ⟨gb152, 5, none⟩ = some (.int .i64 a0_5) := (blk_cell BK152.out 5).trans rfl
                      have hcz81_6 : w36.cell? ⟨gb152, 6, none⟩ = some (.int .i64 a0_6) := (blk_cell BK152.out 6).trans rfl
                      have hcz81_7 : w36.cell? ⟨gb152, 7, none⟩ = some (.int .i64 a0_7) := (blk_cell BK152.out 7).trans rfl
                      have hcz81_8 : w36.cell? ⟨gb152, 8, none⟩ = some (.int .i64 a0_8) := (blk_cell BK152.out 8).trans rfl
                      have hcz81_9 : w36.cell? ⟨gb152, 9, none⟩ = some (.int .i64 a0_9) := (blk_cell BK152.out 9).trans rfl
                      have hcz81_10 : w36.cell? ⟨gb152, 10, none⟩ = some (.int .i64 a0_10) := (blk_cell BK152.out 10).trans rfl
                      have hcz81_11 : w36.cell? ⟨gb152, 11, none⟩ = some (.int .i64 a0_11) := (blk_cell BK152.out 11).trans rfl
                      have hcz81_12 : w36.cell? ⟨gb152, 12, none⟩ = some (.int .i64 a0_12) := (blk_cell BK152.out 12).trans rfl
                      have hcz81_13 : w36.cell? ⟨gb152, 13, none⟩ = some (.int .i64 a0_13) := (blk_cell BK152.out 13).trans rfl
                      have hcz81_14 : w36.cell? ⟨gb152, 14, none⟩ = some (.int .i64 a0_14) := (blk_cell BK152.out 14).trans rfl
                      have hfz81_0 := blk_frozen BK152.out 0
                      have hfz81_1 := blk_frozen BK152.out 1
                      have hfz81_2 := blk_frozen BK152.out 2
                      have hfz81_3 := blk_frozen BK152.out 3
                      have hfz81_4 := blk_frozen BK152.out 4
                      have hfz81_5 := blk_frozen BK152.out 5
                      have hfz81_6 := blk_frozen BK152.out 6
                      have hfz81_7 := blk_frozen BK152.out 7
                      have hfz81_8 := blk_frozen BK152.out 8
                      have hfz81_9 := blk_frozen BK152.out 9
                      have hfz81_10 := blk_frozen BK152.out 10
                      have hfz81_11 := blk_frozen BK152.out 11
                      have hfz81_12 := blk_frozen BK152.out 12
                      have hfz81_13 := blk_frozen BK152.out 13
                      have hfz81_14 := blk_frozen BK152.out 14
                      go_wp2
                      go_meet
                      case rel => exact ⟨_, (false), (by first | rfl | (simp; done) | (simp [*]; done)), H', ⟨by have := HK1.out; have := HJ17.out; first | omega | exact Nat.le_refl _⟩, ⟨by (with_reducible repeat (first | apply Kd.V_alloc | apply Kd.V_drewN | apply Kd.V_drew)); exact Kd.V_mono (Kd.V_far (p := ⟨gb188, 7, none⟩) (Kd.V_far (p := ⟨gb188, 6, none⟩) (Kd.V_far (p := ⟨gb188, 5, none⟩) (Kd.V_far (p := ⟨gb188, 4, none⟩) (Kd.V_far (p := ⟨gb188, 3, none⟩) (Kd.V_far (p := ⟨gb188, 2, none⟩) (Kd.V_far (p := ⟨gb188, 1, none⟩) (Kd.V_far (p := ⟨gb188, 0, none⟩) (Kd.V_mono HO_160003.out (fun k_ hk => (⟨hk, hk.2⟩ : _ ∧ k_ ≠ gb188))) (fun _ hk => hk.2) (.int .i64 t179)) (fun _ hk => hk.2) (.int .i64 t180)) (fun _ hk => hk.2) (.int .i64 t181)) (fun _ hk => hk.2) (.int .i64 t182)) (fun _ hk => hk.2) (.int .i64 t183)) (fun _ hk => hk.2) (.int .i64 t184)) (fun _ hk => hk.2) (.int .i64 t185)) (fun _ hk => hk.2) (.int .i64 t186)) (fun _ hk => ⟨hk.1.1.1.1, ⟨hk.1.1.1.2.1, ⟨hk.1.1.1.2.2, ⟨hk.1.1.2, hk.1.2⟩⟩⟩⟩)⟩, ⟨by (with_reducible repeat (first | refine blk_drewN ?_ _ | refine blk_drew ?_ | refine blk_alloc ?_ _)); refine blk_far ?_ NB152_188.out _; (with_reducible repeat (first | refine blk_drewN ?_ _ | refine blk_drew ?_ | refine blk_alloc ?_ _)); refine blk_far ?_ NB152_188.out _; (with_reducible repeat (first | refine blk_drewN ?_ _ | refine blk_drew ?_ | refine blk_alloc ?_ _)); refine blk_far ?_ NB152_188.out _; (with_reducible repeat (first | refine blk_drewN ?_ _ | refine blk_drew ?_ | refine blk_alloc ?_ _)); refine blk_far ?_ NB152_188.out _; (with_reducible repeat (first | refine blk_drewN ?_ _ | refine blk_drew ?_ | refine blk_alloc ?_ _)); refine blk_far ?_ NB152_188.out _; (with_reducible repeat (first | refine blk_drewN ?_ _ | refine blk_drew ?_ | refine blk_alloc ?_ _)); refine blk_far ?_ NB152_188.out _; (with_reducible repeat (first | refine blk_drewN ?_ _ | refine blk_drew ?_ | refine blk_alloc ?_ _)); refine blk_far ?_ NB152_188.out _; (with_reducible repeat (first | refine blk_drewN ?_ _ | refine blk_drew ?_ | refine blk_alloc ?_ _)); refine blk_far ?_ NB152_188.out _; (with_reducible repeat (first | refine blk_drewN ?_ _ | refine blk_drew ?_ | refine blk_alloc ?_ _)); exact BK152.out⟩, ⟨by (with_reducible repeat (first | refine blk_drewN ?_ _ | refine blk_drew ?_ | refine blk_alloc ?_ _)); refine blk_far ?_ NB159_188.out _; (with_reducible repeat (first | refine blk_drewN ?_ _ | refine blk_drew ?_ | refine blk_alloc ?_ _)); refine blk_far ?_ NB159_188.out _; (with_reducible repeat (first | refine blk_drewN ?_ _ | refine blk_drew ?_ | refine blk_alloc ?_ _)); refine blk_far ?_ NB159_188.out _; (with_reducible repeat (first | refine blk_drewN ?_ _ | refine blk_drew ?_ | refine blk_alloc ?_ _)); refine blk_far ?_ NB159_188.out _; (with_reducible repeat (first | refine blk_drewN ?_ _ | refine blk_drew ?_ | refine blk_alloc ?_ _)); refine blk_far ?_ NB159_188.out _; (with_reducible repeat (first | refine blk_drewN ?_ _ | refine blk_drew ?_ | refine blk_alloc ?_ _)); refine blk_far ?_ NB159_188.out _; (with_reducible repeat (first | refine blk_drewN ?_ _ | refine blk_drew ?_ | refine blk_alloc ?_ _)); refine blk_far ?_ NB159_188.out _; (with_reducible repeat (first | refine blk_drewN ?_ _ | refine blk_drew ?_ | refine blk_alloc ?_ _)); refine blk_far ?_ NB159_188.out _; (with_reducible repeat (first | refine blk_drewN ?_ _ | refine blk_drew ?_ | refine blk_alloc ?_ _)); exact BK159.out⟩, ⟨by (with_reducible repeat (first | refine blk_drewN ?_ _ | refine blk_drew ?_ | refine blk_alloc ?_ _)); refine blk_far ?_ NB168_188.out _; (with_reducible repeat (first | refine blk_drewN ?_ _ | refine blk_drew ?_ | refine blk_alloc ?_ _)); refine blk_far ?_ NB168_188.out _; (with_reducible repeat (first | refine blk_drewN ?_ _ | refine blk_drew ?_ | refine blk_alloc ?_ _)); refine blk_far ?_ NB168_188.out _; (with_reducible repeat (first | refine blk_drewN ?_ _ | refine blk_drew ?_ | refine blk_alloc ?_ _)); refine blk_far ?_ NB168_188.out _; (with_reducible repeat (first | refine blk_drewN ?_ _ | refine blk_drew ?_ | refine blk_alloc ?_ _)); refine blk_far ?_ NB168_188.out _; (with_reducible repeat (first | refine blk_drewN ?_ _ | refine blk_drew ?_ | refine blk_alloc ?_ _)); refine blk_far ?_ NB168_188.out _; (with_reducible repeat (first | refine blk_drewN ?_ _ | refine blk_drew ?_ | refine blk_alloc ?_ _)); refine blk_far ?_ NB168_188.out _; (with_reducible repeat (first | refine blk_drewN ?_ _ | refine blk_drew ?_ | refine blk_alloc ?_ _)); refine blk_far ?_ NB168_188.out _; (with_reducible repeat (first | refine blk_drewN ?_ _ | refine blk_drew ?_ | refine blk_alloc ?_ _)); exact BK168.out⟩, ⟨by (with_reducible repeat (first | refine blk_drewN ?_ _ | refine blk_drew ?_ | refine blk_alloc ?_ _)); refine blk_far ?_ NB178_188.out _; (with_reducible repeat (first | refine blk_drewN ?_ _ | refine blk_drew ?_ | refine blk_alloc ?_ _)); refine blk_far ?_ NB178_188.out _; (with_reducible repeat (first | refine blk_drewN ?_ _ | refine blk_drew ?_ | refine blk_alloc ?_ _)); refine blk_far ?_ NB178_188.out _; (with_reducible repeat (first | refine blk_drewN ?_ _ | refine blk_drew ?_ | refine blk_alloc ?_ _)); refine blk_far ?_ NB178_188.out _; (with_reducible repeat (first | refine blk_drewN ?_ _ | refine blk_drew ?_ | refine blk_alloc ?_ _)); refine blk_far ?_ NB178_188.out _; (with_reducible repeat (first | refine blk_drewN ?_ _ | refine blk_drew ?_ | refine blk_alloc ?_ _)); refine blk_far ?_ NB178_188.out _; (with_reducible repeat (first | refine blk_drewN ?_ _ | refine blk_drew ?_ | refine blk_alloc ?_ _)); refine blk_far ?_ NB178_188.out _; (with_reducible repeat (first | refine blk_drewN ?_ _ | refine blk_drew ?_ | refine blk_alloc ?_ _)); refine blk_far ?_ NB178_188.out _; (with_reducible repeat (first | refine blk_drewN ?_ _ | refine blk_drew ?_ | refine blk_alloc ?_ _)); exact BK178.out⟩, ⟨by (with_reducible repeat (first | refine blk_drewN ?_ _ | refine blk_drew ?_ | refine blk_alloc ?_ _)); refine blk_put (cs := #[.int .i64 t179, .int .i64 t180, .int .i64 t181, .int .i64 t182, .int .i64 t183, .int .i64 t184, .int .i64 t185, .int .i64 0]) ?_ 7 _ rfl; (with_reducible repeat (first | refine blk_drewN ?_ _ | refine blk_drew ?_ | refine blk_alloc ?_ _)); refine blk_put (cs := #[.int .i64 t179, .int .i64 t180, .int .i64 t181, .int .i64 t182, .int .i64 t183, .int .i64 t184, .int .i64 0, .int .i64 0]) ?_ 6 _ rfl; (with_reducible repeat (first | refine blk_drewN ?_ _ | refine blk_drew ?_ | refine blk_alloc ?_ _)); refine blk_put (cs := #[.int .i64 t179, .int .i64 t180, .int .i64 t181, .int .i64 t182, .int .i64 t183, .int .i64 0, .int .i64 0, .int .i64 0]) ?_ 5 _ rfl; (with_reducible repeat (first | refine blk_drewN ?_ _ | refine blk_drew ?_ | refine blk_alloc ?_ _)); refine blk_put (cs := #[.int .i64 t179, .int .i64 t180, .int .i64 t181, .int .i64 t182, .int .i64 0, .int .i64 0, .int .i64 0, .int .i64 0]) ?_ 4 _ rfl; (with_reducible repeat (first | refine blk_drewN ?_ _ | refine blk_drew ?_ | refine blk_alloc ?_ _)); refine blk_put (cs := #[.int .i64 t179, .int .i64 t180, .int .i64 t181, .int .i64 0, .int .i64 0, .int .i64 0, .int .i64 0, .int .i64 0]) ?_ 3 _ rfl; (with_reducible repeat (first | refine blk_drewN ?_ _ | refine blk_drew ?_ | refine blk_alloc ?_ _)); refine blk_put (cs := #[.int .i64 t179, .int .i64 t180, .int .i64 0, .int .i64 0, .int .i64 0, .int .i64 0, .int .i64 0, .int .i64 0]) ?_ 2 _ rfl; (with_reducible repeat (first | refine blk_drewN ?_ _ | refine blk_drew ?_ | refine blk_alloc ?_ _)); refine blk_put (cs := #[.int .i64 t179, .int .i64 0, .int .i64 0, .int .i64 0, .int .i64 0, .int .i64 0, .int .i64 0, .int .i64 0]) ?_ 1 _ rfl; (with_reducible repeat (first | refine blk_drewN ?_ _ | refine blk_drew ?_ | refine blk_alloc ?_ _)); refine blk_put (cs := #[.int .i64 0, .int .i64 0, .int .i64 0, .int .i64 0, .int .i64 0, .int .i64 0, .int .i64 0, .int .i64 0]) ?_ 0 _ rfl; (with_reducible repeat (first | refine blk_drewN ?_ _ | refine blk_drew ?_ | refine blk_alloc ?_ _)); exact BK188.out⟩, ⟨by repeat (first | (with_reducible first | exact HB.out | apply below_alloc | apply pw_below_drewN | apply below_drew1 | refine below_set ?_ GE152.out | refine below_set ?_ GE159.out | refine below_set ?_ GE168.out | refine below_set ?_ GE178.out | refine below_set ?_ GE188.out) | exact HB.out)⟩⟩
                  · rw [if_neg c62] at H
                    have c62b0 : (t180 == 2) = false := beq_eq_false_iff_ne.mpr c62
                    have c62b1 : (t180 != 2) = true := bne_iff_ne.mpr c62
                    have H' := Aside0.mk H
                    clear H
                    have hnb82 := NB188_152.out
                    have hnc82 := NB152_188.out
                    have hnb83 := NB188_159.out
                    have hnc83 := NB159_188.out
                    have hnb84 := NB188_168.out
                    have hnc84 := NB168_188.out
                    have hnb85 := NB188_178.out
                    have hnc85 := NB178_188.out
                    have hcz86_0 : w36.cell? ⟨gb188, 0, none⟩ = some (.int .i64 0) := (blk_cell BK188.out 0).trans rfl
                    have hcz86_1 : w36.cell? ⟨gb188, 1, none⟩ = some (.int .i64 0) := (blk_cell BK188.out 1).trans rfl
                    have hcz86_2 : w36.cell? ⟨gb188, 2, none⟩ = some (.int .i64 0) := (blk_cell BK188.out 2).trans rfl
                    have hcz86_3 : w36.cell? ⟨gb188, 3, none⟩ = some (.int .i64 0) := (blk_cell BK188.out 3).trans rfl
                    have hcz86_4 : w36.cell? ⟨gb188, 4, none⟩ = some (.int .i64 0) := (blk_cell BK188.out 4).trans rfl
                    have hcz86_5 : w36.cell? ⟨gb188, 5, none⟩ = some (.int .i64 0) := (blk_cell BK188.out 5).trans rfl
                    have hcz86_6 : w36.cell? ⟨gb188, 6, none⟩ = some (.int .i64 0) := (blk_cell BK188.out 6).trans rfl
                    have hcz86_7 : w36.cell? ⟨gb188, 7, none⟩ = some (.int .i64 0) := (blk_cell BK188.out 7).trans rfl
                    have hfz86_0 := blk_frozen BK188.out 0
                    have hfz86_1 := blk_frozen BK188.out 1
                    have hfz86_2 := blk_frozen BK188.out 2
                    have hfz86_3 := blk_frozen BK188.out 3
                    have hfz86_4 := blk_frozen BK188.out 4
                    have hfz86_5 := blk_frozen BK188.out 5
                    have hfz86_6 := blk_frozen BK188.out 6
                    have hfz86_7 := blk_frozen BK188.out 7
                    go_wp2
                    go_meet
                    case rel => exact ⟨_, (false), (by first | rfl | (simp; done) | (simp [*]; done)), H', ⟨by have := HK1.out; have := HJ17.out; first | omega | exact Nat.le_refl _⟩, ⟨by (with_reducible repeat (first | apply Kd.V_alloc | apply Kd.V_drewN | apply Kd.V_drew)); exact Kd.V_mono (Kd.V_far (p := ⟨gb188, 7, none⟩) (Kd.V_far (p := ⟨gb188, 6, none⟩) (Kd.V_far (p := ⟨gb188, 5, none⟩) (Kd.V_far (p := ⟨gb188, 4, none⟩) (Kd.V_far (p := ⟨gb188, 3, none⟩) (Kd.V_far (p := ⟨gb188, 2, none⟩) (Kd.V_far (p := ⟨gb188, 1, none⟩) (Kd.V_far (p := ⟨gb188, 0, none⟩) (Kd.V_mono HO_160003.out (fun k_ hk => (⟨hk, hk.2⟩ : _ ∧ k_ ≠ gb188))) (fun _ hk => hk.2) (.int .i64 t179)) (fun _ hk => hk.2) (.int .i64 t180)) (fun _ hk => hk.2) (.int .i64 t181)) (fun _ hk => hk.2) (.int .i64 t182)) (fun _ hk => hk.2) (.int .i64 t183)) (fun _ hk => hk.2) (.int .i64 t184)) (fun _ hk => hk.2) (.int .i64 t185)) (fun _ hk => hk.2) (.int .i64 t186)) (fun _ hk => ⟨hk.1.1.1.1, ⟨hk.1.1.1.2.1, ⟨hk.1.1.1.2.2, ⟨hk.1.1.2, hk.1.2⟩⟩⟩⟩)⟩, ⟨by (with_reducible repeat (first | refine blk_drewN ?_ _ | refine blk_drew ?_ | refine blk_alloc ?_ _)); refine blk_far ?_ NB152_188.out _; (with_reducible repeat (first | refine blk_drewN ?_ _ | refine blk_drew ?_ | refine blk_alloc ?_ _)); refine blk_far ?_ NB152_188.out _; (with_reducible repeat (first | refine blk_drewN ?_ _ | refine blk_drew ?_ | refine blk_alloc ?_ _)); refine blk_far ?_ NB152_188.out _; (with_reducible repeat (first | refine blk_drewN ?_ _ | refine blk_drew ?_ | refine blk_alloc ?_ _)); refine blk_far ?_ NB152_188.out _; (with_reducible repeat (first | refine blk_drewN ?_ _ | refine blk_drew ?_ | refine blk_alloc ?_ _)); refine blk_far ?_ NB152_188.out _; (with_reducible repeat (first | refine blk_drewN ?_ _ | refine blk_drew ?_ | refine blk_alloc ?_ _)); refine blk_far ?_ NB152_188.out _; (with_reducible repeat (first | refine blk_drewN ?_ _ | refine blk_drew ?_ | refine blk_alloc ?_ _)); refine blk_far ?_ NB152_188.out _; (with_reducible repeat (first | refine blk_drewN ?_ _ | refine blk_drew ?_ | refine blk_alloc ?_ _)); refine blk_far ?_ NB152_188.out _; (with_reducible repeat (first | refine blk_drewN ?_ _ | refine blk_drew ?_ | refine blk_alloc ?_ _)); exact BK152.out⟩, ⟨by (with_reducible repeat (first | refine blk_drewN ?_ _ | refine blk_drew ?_ | refine blk_alloc ?_ _)); refine blk_far ?_ NB159_188.out _; (with_reducible repeat (first | refine blk_drewN ?_ _ | refine blk_drew ?_ | refine blk_alloc ?_ _)); refine blk_far ?_ NB159_188.out _; (with_reducible repeat (first | refine blk_drewN ?_ _ | refine blk_drew ?_ | refine blk_alloc ?_ _)); refine blk_far ?_ NB159_188.out _; (with_reducible repeat (first | refine blk_drewN ?_ _ | refine blk_drew ?_ | refine blk_alloc ?_ _)); refine blk_far ?_ NB159_188.out _; (with_reducible repeat (first | refine blk_drewN ?_ _ | refine blk_drew ?_ | refine blk_alloc ?_ _)); refine blk_far ?_ NB159_188.out _; (with_reducible repeat (first | refine blk_drewN ?_ _ | refine blk_drew ?_ | refine blk_alloc ?_ _)); refine blk_far ?_ NB159_188.out _; (with_reducible repeat (first | refine blk_drewN ?_ _ | refine blk_drew ?_ | refine blk_alloc ?_ _)); refine blk_far ?_ NB159_188.out _; (with_reducible repeat (first | refine blk_drewN ?_ _ | refine blk_drew ?_ | refine blk_alloc ?_ _)); refine blk_far ?_ NB159_188.out _; (with_reducible repeat (first | refine blk_drewN ?_ _ | refine blk_drew ?_ | refine blk_alloc ?_ _)); exact BK159.out⟩, ⟨by (with_reducible repeat (first | refine blk_drewN ?_ _ | refine blk_drew ?_ | refine blk_alloc ?_ _)); refine blk_far ?_ NB168_188.out _; (with_reducible repeat (first | refine blk_drewN ?_ _ | refine blk_drew ?_ | refine blk_alloc ?_ _)); refine blk_far ?_ NB168_188.out _; (with_reducible repeat (first | refine blk_drewN ?_ _ | refine blk_drew ?_ | refine blk_alloc ?_ _)); refine blk_far ?_ NB168_188.out _; (with_reducible repeat (first | refine blk_drewN ?_ _ | refine blk_drew ?_ | refine blk_alloc ?_ _)); refine blk_far ?_ NB168_188.out _; (with_reducible repeat (first | refine blk_drewN ?_ _ | refine blk_drew ?_ | refine blk_alloc ?_ _)); refine blk_far ?_ NB168_188.out _; (with_reducible repeat (first | refine blk_drewN ?_ _ | refine blk_drew ?_ | refine blk_alloc ?_ _)); refine blk_far ?_ NB168_188.out _; (with_reducible repeat (first | refine blk_drewN ?_ _ | refine blk_drew ?_ | refine blk_alloc ?_ _)); refine blk_far ?_ NB168_188.out _; (with_reducible repeat (first | refine blk_drewN ?_ _ | refine blk_drew ?_ | refine blk_alloc ?_ _)); refine blk_far ?_ NB168_188.out _; (with_reducible repeat (first | refine blk_drewN ?_ _ | refine blk_drew ?_ | refine blk_alloc ?_ _)); exact BK168.out⟩, ⟨by (with_reducible repeat (first | refine blk_drewN ?_ _ | refine blk_drew ?_ | refine blk_alloc ?_ _)); refine blk_far ?_ NB178_188.out _; (with_reducible repeat (first | refine blk_drewN ?_ _ | refine blk_drew ?_ | refine blk_alloc ?_ _)); refine blk_far ?_ NB178_188.out _; (with_reducible repeat (first | refine blk_drewN ?_ _ | refine blk_drew ?_ | refine blk_alloc ?_ _)); refine blk_far ?_ NB178_188.out _; (with_reducible repeat (first | refine blk_drewN ?_ _ | refine blk_drew ?_ | refine blk_alloc ?_ _)); refine blk_far ?_ NB178_188.out _; (with_reducible repeat (first | refine blk_drewN ?_ _ | refine blk_drew ?_ | refine blk_alloc ?_ _)); refine blk_far ?_ NB178_188.out _; (with_reducible repeat (first | refine blk_drewN ?_ _ | refine blk_drew ?_ | refine blk_alloc ?_ _)); refine blk_far ?_ NB178_188.out _; (with_reducible repeat (first | refine blk_drewN ?_ _ | refine blk_drew ?_ | refine blk_alloc ?_ _)); refine blk_far ?_ NB178_188.out _; (with_reducible repeat (first | refine blk_drewN ?_ _ | refine blk_drew ?_ | refine blk_alloc ?_ _)); refine blk_far ?_ NB178_188.out _; (with_reducible repeat (first | refine blk_drewN ?_ _ | refine blk_drew ?_ | refine blk_alloc ?_ _)); exact BK178.out⟩, ⟨by (with_reducible repeat (first | refine blk_drewN ?_ _ | refine blk_drew ?_ | refine blk_alloc ?_ _)); refine blk_put (cs := #[.int .i64 t179, .int .i64 t180, .int .i64 t181, .int .i64 t182, .int .i64 t183, .int .i64 t184, .int .i64 t185, .int .i64 0]) ?_ 7 _ rfl; (with_reducible repeat (first | refine blk_drewN ?_ _ | refine blk_drew ?_ | refine blk_alloc ?_ _)); refine blk_put (cs := #[.int .i64 t179, .int .i64 t180, .int .i64 t181, .int .i64 t182, .int .i64 t183, .int .i64 t184, .int .i64 0, .int .i64 0]) ?_ 6 _ rfl; (with_reducible repeat (first | refine blk_drewN ?_ _ | refine blk_drew ?_ | refine blk_alloc ?_ _)); refine blk_put (cs := #[.int .i64 t179, .int .i64 t180, .int .i64 t181, .int .i64 t182, .int .i64 t183, .int .i64 0, .int .i64 0, .int .i64 0]) ?_ 5 _ rfl; (with_reducible repeat (first | refine blk_drewN ?_ _ | refine blk_drew ?_ | refine blk_alloc ?_ _)); refine blk_put (cs := #[.int .i64 t179, .int .i64 t180, .int .i64 t181, .int .i64 t182, .int .i64 0, .int .i64 0, .int .i64 0, .int .i64 0]) ?_ 4 _ rfl; (with_reducible repeat (first | refine blk_drewN ?_ _ | refine blk_drew ?_ | refine blk_alloc ?_ _)); refine blk_put (cs := #[.int .i64 t179, .int .i64 t180, .int .i64 t181, .int .i64 0, .int .i64 0, .int .i64 0, .int .i64 0, .int .i64 0]) ?_ 3 _ rfl; (with_reducible repeat (first | refine blk_drewN ?_ _ | refine blk_drew ?_ | refine blk_alloc ?_ _)); refine blk_put (cs := #[.int .i64 t179, .int .i64 t180, .int .i64 0, .int .i64 0, .int .i64 0, .int .i64 0, .int .i64 0, .int .i64 0]) ?_ 2 _ rfl; (with_reducible repeat (first | refine blk_drewN ?_ _ | refine blk_drew ?_ | refine blk_alloc ?_ _)); refine blk_put (cs := #[.int .i64 t179, .int .i64 0, .int .i64 0, .int .i64 0, .int .i64 0, .int .i64 0, .int .i64 0, .int .i64 0]) ?_ 1 _ rfl; (with_reducible repeat (first | refine blk_drewN ?_ _ | refine blk_drew ?_ | refine blk_alloc ?_ _)); refine blk_put (cs := #[.int .i64 0, .int .i64 0, .int .i64 0, .int .i64 0, .int .i64 0, .int .i64 0, .int .i64 0, .int .i64 0]) ?_ 0 _ rfl; (with_reducible repeat (first | refine blk_drewN ?_ _ | refine blk_drew ?_ | refine blk_alloc ?_ _)); exact BK188.out⟩, ⟨by repeat (first | (with_reducible first | exact HB.out | apply below_alloc | apply pw_below_drewN | apply below_drew1 | refine below_set ?_ GE152.out | refine below_set ?_ GE159.out | refine below_set ?_ GE168.out | refine below_set ?_ GE178.out | refine below_set ?_ GE188.out) | exact HB.out)⟩⟩
              case rest =>
                clear HC23
                try clear c1
                try clear c2
                try clear p2
                try clear c3
                try clear c4
                try clear c4b0
                try clear c4b1
                try clear c5
                try clear c6
                try clear p6
                try clear c7
                try clear c8
                try clear c9
                try clear c11
                try clear c15
                try clear c16
                try clear c19
                try clear c19b0
                try clear c20
                try clear c24
                try clear c25
                try clear c29
                try clear c30
                try clear c31
                try clear c33
                try clear c37
                try clear c38
                try clear c39
                try clear c40
                try clear c42
                try clear c42b0
                try clear c42b1
                try clear c43
                try clear c43b0
                try clear c43b1
                try clear c44
                try clear c45
                try clear c46
                try clear c47
                try clear c49
                try clear c50
                try clear c51
                try clear c53
                try clear c54
                try clear c55
                try clear c56
                try clear c58
                try clear c59
                try clear c60
                try clear c62
                try clear c62b0
                try clear c62b1
                try clear c63
                try clear c63b0
                try clear c63b1
                try clear c64
                try clear p64
                try clear c65
                try clear c66
                try clear c67
                try clear c69
                try clear c70
                try clear c71
                try clear c73
                try clear c74
                try clear c75
                try clear c76
                try clear c78
                try clear c79
                try clear c80
                try clear c82
                try clear c83
                try clear c84
                try clear c85
                try clear hcz10_0
                try clear hcz10_1
                try clear hcz10_2
                try clear hcz10_3
                try clear hcz12_0
                try clear hcz12_1
                try clear hcz12_10
                try clear hcz12_11
                try clear hcz12_12
                try clear hcz12_13
                try clear hcz12_14
                try clear hcz12_2
                try clear hcz12_3
                try clear hcz12_4
                try clear hcz12_5
                try clear hcz12_6
                try clear hcz12_7
                try clear hcz12_8
                try clear hcz12_9
                try clear hcz17_0
                try clear hcz17_1
                try clear hcz17_2
                try clear hcz17_3
                try clear hcz17_4
                try clear hcz17_5
                try clear hcz26_0
                try clear hcz26_1
                try clear hcz26_10
                try clear hcz26_11
                try clear hcz26_12
                try clear hcz26_13
                try clear hcz26_14
                try clear hcz26_2
                try clear hcz26_3
                try clear hcz26_4
                try clear hcz26_5
                try clear hcz26_6
                try clear hcz26_7
                try clear hcz26_8
                try clear hcz26_9
                try clear hcz32_0
                try clear hcz32_1
                try clear hcz32_2
                try clear hcz32_3
                try clear hcz32_4
                try clear hcz32_5
                try clear hcz34_0
                try clear hcz34_1
                try clear hcz34_2
                try clear hcz34_3
                try clear hcz41_0
                try clear hcz41_1
                try clear hcz41_2
                try clear hcz41_3
                try clear hcz41_4
                try clear hcz41_5
                try clear hcz41_6
                try clear hcz41_7
                try clear hcz48_0
                try clear hcz48_1
                try clear hcz48_2
                try clear hcz48_3
                try clear hcz48_4
                try clear hcz48_5
                try clear hcz48_6
                try clear hcz48_7
                try clear hcz52_0
                try clear hcz52_1
                try clear hcz52_10
                try clear hcz52_11
                try clear hcz52_12
                try clear hcz52_13
                try clear hcz52_14
                try clear hcz52_2
                try clear hcz52_3
                try clear hcz52_4
                try clear hcz52_5
                try clear hcz52_6
                try clear hcz52_7
                try clear hcz52_8
                try clear hcz52_9
                try clear hcz57_0
                try clear hcz57_1
                try clear hcz57_2
                try clear hcz57_3
                try clear hcz57_4
                try clear hcz57_5
                try clear hcz57_6
                try clear hcz57_7
                try clear hcz61_0
                try clear hcz61_1
                try clear hcz61_10
                try clear hcz61_11
                try clear hcz61_12
                try clear hcz61_13
                try clear hcz61_14
                try clear hcz61_2
                try clear hcz61_3
                try clear hcz61_4
                try clear hcz61_5
                try clear hcz61_6
                try clear hcz61_7
                try clear hcz61_8
                try clear hcz61_9
                try clear hcz68_0
                try clear hcz68_1
                try clear hcz68_2
                try clear hcz68_3
                try clear hcz68_4
                try clear hcz68_5
                try clear hcz68_6
                try clear hcz68_7
                try clear hcz6_0
                try clear hcz6_1
                try clear hcz6_10
                try clear hcz6_11
                try clear hcz6_12
                try clear hcz6_13
                try clear hcz6_14
                try clear hcz6_2
                try clear hcz6_3
                try clear hcz6_4
                try clear hcz6_5
                try clear hcz6_6
                try clear hcz6_7
                try clear hcz6_8
                try clear hcz6_9
                try clear hcz72_0
                try clear hcz72_1
                try clear hcz72_10
                try clear hcz72_11
                try clear hcz72_12
                try clear hcz72_13
                try clear hcz72_14
                try clear hcz72_2
                try clear hcz72_3
                try clear hcz72_4
                try clear hcz72_5
                try clear hcz72_6
                try clear hcz72_7
                try clear hcz72_8
                try clear hcz72_9
                try clear hcz77_0
                try clear hcz77_1
                try clear hcz77_2
                try clear hcz77_3
                try clear hcz77_4
                try clear hcz77_5
                try clear hcz77_6
                try clear hcz77_7
                try clear hcz81_0
                try clear hcz81_1
                try clear hcz81_10
                try clear hcz81_11
                try clear hcz81_12
                try clear hcz81_13
                try clear hcz81_14
                try clear hcz81_2
                try clear hcz81_3
                try clear hcz81_4
                try clear hcz81_5
                try clear hcz81_6
                try clear hcz81_7
                try clear hcz81_8
                try clear hcz81_9
                try clear hcz86_0
                try clear hcz86_1
                try clear hcz86_2
                try clear hcz86_3
                try clear hcz86_4
                try clear hcz86_5
                try clear hcz86_6
                try clear hcz86_7
                try clear hfz10_0
                try clear hfz10_1
                try clear hfz10_2
                try clear hfz10_3
                try clear hfz12_0
                try clear hfz12_1
                try clear hfz12_10
                try clear hfz12_11
                try clear hfz12_12
                try clear hfz12_13
                try clear hfz12_14
                try clear hfz12_2
                try clear hfz12_3
                try clear hfz12_4
                try clear hfz12_5
                try clear hfz12_6
                try clear hfz12_7
                try clear hfz12_8
                try clear hfz12_9
                try clear hfz17_0
                try clear hfz17_1
                try clear hfz17_2
                try clear hfz17_3
                try clear hfz17_4
                try clear hfz17_5
                try clear hfz26_0
                try clear hfz26_1
                try clear hfz26_10
                try clear hfz26_11
                try clear hfz26_12
                try clear hfz26_13
                try clear hfz26_14
                try clear hfz26_2
                try clear hfz26_3
                try clear hfz26_4
                try clear hfz26_5
                try clear hfz26_6
                try clear hfz26_7
                try clear hfz26_8
                try clear hfz26_9
                try clear hfz32_0
                try clear hfz32_1
                try clear hfz32_2
                try clear hfz32_3
                try clear hfz32_4
                try clear hfz32_5
                try clear hfz34_0
                try clear hfz34_1
                try clear hfz34_2
                try clear hfz34_3
                try clear hfz41_0
                try clear hfz41_1
                try clear hfz41_2
                try clear hfz41_3
                try clear hfz41_4
                try clear hfz41_5
                try clear hfz41_6
                try clear hfz41_7
                try clear hfz48_0
                try clear hfz48_1
                try clear hfz48_2
                try clear hfz48_3
                try clear hfz48_4
                try clear hfz48_5
                try clear hfz48_6
                try clear hfz48_7
                try clear hfz52_0
                try clear hfz52_1
                try clear hfz52_10
                try clear hfz52_11
                try clear hfz52_12
                try clear hfz52_13
                try clear hfz52_14
                try clear hfz52_2
                try clear hfz52_3
                try clear hfz52_4
                try clear hfz52_5
                try clear hfz52_6
                try clear hfz52_7
                try clear hfz52_8
                try clear hfz52_9
                try clear hfz57_0
                try clear hfz57_1
                try clear hfz57_2
                try clear hfz57_3
                try clear hfz57_4
                try clear hfz57_5
                try clear hfz57_6
                try clear hfz57_7
                try clear hfz61_0
                try clear hfz61_1
                try clear hfz61_10
                try clear hfz61_11
                try clear hfz61_12
                try clear hfz61_13
                try clear hfz61_14
                try clear hfz61_2
                try clear hfz61_3
                try clear hfz61_4
                try clear hfz61_5
                try clear hfz61_6
                try clear hfz61_7
                try clear hfz61_8
                try clear hfz61_9
                try clear hfz68_0
                try clear hfz68_1
                try clear hfz68_2
                try clear hfz68_3
                try clear hfz68_4
                try clear hfz68_5
                try clear hfz68_6
                try clear hfz68_7
                try clear hfz6_0
                try clear hfz6_1
                try clear hfz6_10
                try clear hfz6_11
                try clear hfz6_12
                try clear hfz6_13
                try clear hfz6_14
                try clear hfz6_2
                try clear hfz6_3
                try clear hfz6_4
                try clear hfz6_5
                try clear hfz6_6
                try clear hfz6_7
                try clear hfz6_8
                try clear hfz6_9
                try clear hfz72_0
                try clear hfz72_1
                try clear hfz72_10
                try clear hfz72_11
                try clear hfz72_12
                try clear hfz72_13
                try clear hfz72_14
                try clear hfz72_2
                try clear hfz72_3
                try clear hfz72_4
                try clear hfz72_5
                try clear hfz72_6
                try clear hfz72_7
                try clear hfz72_8
                try clear hfz72_9
                try clear hfz77_0
                try clear hfz77_1
                try clear hfz77_2
                try clear hfz77_3
                try clear hfz77_4
                try clear hfz77_5
                try clear hfz77_6
                try clear hfz77_7
                try clear hfz81_0
                try clear hfz81_1
                try clear hfz81_10
                try clear hfz81_11
                try clear hfz81_12
                try clear hfz81_13
                try clear hfz81_14
                try clear hfz81_2
                try clear hfz81_3
                try clear hfz81_4
                try clear hfz81_5
                try clear hfz81_6
                try clear hfz81_7
                try clear hfz81_8
                try clear hfz81_9
                try clear hfz86_0
                try clear hfz86_1
                try clear hfz86_2
                try clear hfz86_3
                try clear hfz86_4
                try clear hfz86_5
                try clear hfz86_6
                try clear hfz86_7
                try clear p2
                obtain ⟨kq, x12_22, rfl, HA, HJ22, HO_160003, BK152, BK159, BK168, BK178, BK188, HB⟩ := hcut
                cases kq with
                | zero => exact absurd HA.out (by simp [bivouaclaw17_AimHits.j2])
                | succ kj22 =>
                  have H := HA.out
                  clear HA
                  simp only [bivouaclaw17_AimHits.j2] at H
                  have HC87 := Aside0.mk H
                  clear H
                  go_upto_region 11 with (fail)
                  go_cut [120] (fun v120 wc => ∃ (kq : Nat) (x120_86 : Bool), v120 = .bool x120_86 ∧ Aside0 (bivouaclaw17_AimHits.j3 kq t166 x7_1 x120_86 a0_0 a0_1 a0_2 l0_3 a0_4 a0_5 a0_6 a0_7 a0_8 a0_9 a0_10 a0_11 a0_12 a0_13 a0_14 t153 t154 t155 t156 t160 t161 t162 t163 t164 t165 = some true) ∧ Aside0 (kq ≤ kj22) ∧ Aside0 (Kd.V (Kd.int .u8) 5 wc w.heap.size (fun k_ => k_ ≠ gb152 ∧ k_ ≠ gb159 ∧ k_ ≠ gb168 ∧ k_ ≠ gb178 ∧ k_ ≠ gb188) (.slice Ao11 t156.length co11) t156) ∧ Aside0 (wc.heap[gb152]? = some (.cells #[.int .i64 a0_0, .int .i64 a0_1, .int .i64 a0_2, (.slice A0_3 l0_3.length c0_3), .int .i64 a0_4, .int .i64 a0_5, .int .i64 a0_6, .int .i64 a0_7, .int .i64 a0_8, .int .i64 a0_9, .int .i64 a0_10, .int .i64 a0_11, .int .i64 a0_12, .int .i64 a0_13, .int .i64 a0_14] 49 (0, 0))) ∧ Aside0 (wc.heap[gb159]? = some (.cells #[.int .i64 t153, .int .i64 t154, .int .i64 t155, (.slice Ao11 t156.length co11)] 45 (0, 0))) ∧ Aside0 (wc.heap[gb168]? = some (.cells #[.int .i64 t160, .int .i64 t161, .int .i64 t162, .int .i64 t163, .int .i64 t164, .int .i64 t165] 47 (0, 0))) ∧ Aside0 (wc.heap[gb178]? = some (.cells #[.int .i64 t171, .int .i64 t172, .int .i64 t173, .int .i64 t174, .int .i64 t175, .int .i64 t176] 47 (0, 0))) ∧ Aside0 (wc.heap[gb188]? = some (.cells #[.int .i64 t179, .int .i64 t180, .int .i64 t181, .int .i64 t182, .int .i64 t183, .int .i64 t184, .int .i64 t185, .int .i64 t186] 62 (0, 0))) ∧ Aside0 (Below w.heap.size w wc))
                  case first =>
                    have H := HC87.out
                    clear HC87
                    by_cases c88 : t177 = 0
                    · rw [if_pos c88] at H
                      have c88b0 : (t177 == 0) = true := beq_iff_eq.mpr c88
                      have c88b1 : (t177 != 0) = false := bne_eq_false_iff_eq.mpr c88
                      clear c88
                      (first | rw [c88b0] | (simp only [i64_w, i32_w]; rw [c88b0]) | skip)
                      by_cases c89 : t187 = 0
                      · rw [if_pos c89] at H
                        have c89b0 : (t187 == 0) = true := beq_iff_eq.mpr c89
                        have c89b1 : (t187 != 0) = false := bne_eq_false_iff_eq.mpr c89
                        clear c89
                        by_cases c90 : (x12_22 != (x7_1 == t166)) = true
                        · rw [if_pos c90] at H
                          have c90b0 : (x12_22 != (x7_1 == t166)) = true := c90
                          (try (have c90b1 : decide (x12_22 = (x7_1 == t166)) = false := by simpa using c90))
                          (try (have c90b2 : (x12_22 == (x7_1 == t166)) = false := by simpa using c90))
                          (try (have c90b3 : ¬ (x12_22 = (x7_1 == t166)) := by simpa using c90))
                          clear c90
                          have H' := Aside0.mk H
                          clear H
                          go_wp2
                          go_meet
                          case rel => exact ⟨_, (true), (by first | rfl | (simp; done) | (simp [*]; done)), H', ⟨by have := HK1.out; have := HJ17.out; have := HJ22.out; first | omega | exact Nat.le_refl _⟩, ⟨by (with_reducible repeat (first | apply Kd.V_alloc | apply Kd.V_drewN | apply Kd.V_drew)); exact HO_160003.out⟩, ⟨by (with_reducible repeat (first | refine blk_drewN ?_ _ | refine blk_drew ?_ | refine blk_alloc ?_ _)); exact BK152.out⟩, ⟨by (with_reducible repeat (first | refine blk_drewN ?_ _ | refine blk_drew ?_ | refine blk_alloc ?_ _)); exact BK159.out⟩, ⟨by (with_reducible repeat (first | refine blk_drewN ?_ _ | refine blk_drew ?_ | refine blk_alloc ?_ _)); exact BK168.out⟩, ⟨by (with_reducible repeat (first | refine blk_drewN ?_ _ | refine blk_drew ?_ | refine blk_alloc ?_ _)); exact BK178.out⟩, ⟨by (with_reducible repeat (first | refine blk_drewN ?_ _ | refine blk_drew ?_ | refine blk_alloc ?_ _)); exact BK188.out⟩, ⟨by repeat (first | (with_reducible first | exact HB.out | apply below_alloc | apply pw_below_drewN | apply below_drew1 | refine below_set ?_ GE152.out | refine below_set ?_ GE159.out | refine below_set ?_ GE168.out | refine below_set ?_ GE178.out | refine below_set ?_ GE188.out) | exact HB.out)⟩⟩
                        · rw [if_neg c90] at H
                          have c90b0 : (x12_22 != (x7_1 == t166)) = false := by simpa using c90
                          (try (have c90b1 : decide (x12_22 = (x7_1 == t166)) = true := by simpa using c90))
                          (try (have c90b2 : (x12_22 == (x7_1 == t166)) = true := by simpa using c90))
                          clear c90
                          by_cases c91 : x7_1 = t166
                          · rw [if_pos c91] at H
                            have c91b0 : (x7_1 == t166) = true := beq_iff_eq.mpr c91
                            have c91b1 : (x7_1 != t166) = false := bne_eq_false_iff_eq.mpr c91
                            obtain rfl : x12_22 = true := by rw [c91b0] at c90b0; revert c90b0; cases x12_22 <;> decide
                            clear c91
                            have H' := Aside0.mk H
                            clear H
                            have hnb92 := NB178_152.out
                            have hnc92 := NB152_178.out
                            have hnb93 := NB178_159.out
                            have hnc93 := NB159_178.out
                            have hnb94 := NB178_168.out
                            have hnc94 := NB168_178.out
                            have hnb95 := NB178_188.out
                            have hnc95 := NB188_178.out
                            have hcz96_0 : wc.cell? ⟨gb178, 0, none⟩ = some (.int .i64 t171) := (blk_cell BK178.out 0).trans rfl
                            have hcz96_1 : wc.cell? ⟨gb178, 1, none⟩ = some (.int .i64 t172) := (blk_cell BK178.out 1).trans rfl
                            have hcz96_2 : wc.cell? ⟨gb178, 2, none⟩ = some (.int .i64 t173) := (blk_cell BK178.out 2).trans rfl
                            have hcz96_3 : wc.cell? ⟨gb178, 3, none⟩ = some (.int .i64 t174) := (blk_cell BK178.out 3).trans rfl
                            have hcz96_4 : wc.cell? ⟨gb178, 4, none⟩ = some (.int .i64 t175) := (blk_cell BK178.out 4).trans rfl
                            have hcz96_5 : wc.cell? ⟨gb178, 5, none⟩ = some (.int .i64 t176) := (blk_cell BK178.out 5).trans rfl
                            have hfz96_0 := blk_frozen BK178.out 0
                            have hfz96_1 := blk_frozen BK178.out 1
                            have hfz96_2 := blk_frozen BK178.out 2
                            have hfz96_3 := blk_frozen BK178.out 3
                            have hfz96_4 := blk_frozen BK178.out 4
                            have hfz96_5 := blk_frozen BK178.out 5
                            have hnb97 := NB168_152.out
                            have hnc97 := NB152_168.out
                            have hnb98 := NB168_159.out
                            have hnc98 := NB159_168.out
                            have hnb99 := NB168_188.out
                            have hnc99 := NB188_168.out
                            have hcz100_0 : wc.cell? ⟨gb168, 0, none⟩ = some (.int .i64 t160) := (blk_cell BK168.out 0).trans rfl
                            have hcz100_1 : wc.cell? ⟨gb168, 1, none⟩ = some (.int .i64 t161) := (blk_cell BK168.out 1).trans rfl
                            have hcz100_2 : wc.cell? ⟨gb168, 2, none⟩ = some (.int .i64 t162) := (blk_cell BK168.out 2).trans rfl
                            have hcz100_3 : wc.cell? ⟨gb168, 3, none⟩ = some (.int .i64 t163) := (blk_cell BK168.out 3).trans rfl
                            have hcz100_4 : wc.cell? ⟨gb168, 4, none⟩ = some (.int .i64 t164) := (blk_cell BK168.out 4).trans rfl
                            have hcz100_5 : wc.cell? ⟨gb168, 5, none⟩ = some (.int .i64 t165) := (blk_cell BK168.out 5).trans rfl
                            have hfz100_0 := blk_frozen BK168.out 0
                            have hfz100_1 := blk_frozen BK168.out 1
                            have hfz100_2 := blk_frozen BK168.out 2
                            have hfz100_3 := blk_frozen BK168.out 3
                            have hfz100_4 := blk_frozen BK168.out 4
                            have hfz100_5 := blk_frozen BK168.out 5
                            go_wp2
                            go_meet
                            case rel => exact ⟨_, ((!(t171 == t160) || (!(t172 == t161) || (!(t173 == t162) || (!(t174 == t163) || (!(t175 == t164) || (!(t176 == t165)))))))), (by first | rfl | (simp; done) | (simp [*]; done)), H', ⟨by have := HK1.out; have := HJ17.out; have := HJ22.out; first | omega | exact Nat.le_refl _⟩, ⟨by (with_reducible repeat (first | apply Kd.V_alloc | apply Kd.V_drewN | apply Kd.V_drew)); exact HO_160003.out⟩, ⟨by (with_reducible repeat (first | refine blk_drewN ?_ _ | refine blk_drew ?_ | refine blk_alloc ?_ _)); exact BK152.out⟩, ⟨by (with_reducible repeat (first | refine blk_drewN ?_ _ | refine blk_drew ?_ | refine blk_alloc ?_ _)); exact BK159.out⟩, ⟨by (with_reducible repeat (first | refine blk_drewN ?_ _ | refine blk_drew ?_ | refine blk_alloc ?_ _)); exact BK168.out⟩, ⟨by (with_reducible repeat (first | refine blk_drewN ?_ _ | refine blk_drew ?_ | refine blk_alloc ?_ _)); exact BK178.out⟩, ⟨by (with_reducible repeat (first | refine blk_drewN ?_ _ | refine blk_drew ?_ | refine blk_alloc ?_ _)); exact BK188.out⟩, ⟨by repeat (first | (with_reducible first | exact HB.out | apply below_alloc | apply pw_below_drewN | apply below_drew1 | refine below_set ?_ GE152.out | refine below_set ?_ GE159.out | refine below_set ?_ GE168.out | refine below_set ?_ GE178.out | refine below_set ?_ GE188.out) | exact HB.out)⟩⟩
                          · rw [if_neg c91] at H
                            have c91b0 : (x7_1 == t166) = false := beq_eq_false_iff_ne.mpr c91
                            have c91b1 : (x7_1 != t166) = true := bne_iff_ne.mpr c91
                            obtain rfl : x12_22 = false := by rw [c91b0] at c90b0; revert c90b0; cases x12_22 <;> decide
                            have H' := Aside0.mk H
                            clear H
                            go_wp2
                            go_meet
                            case rel => exact ⟨_, (false), (by first | rfl | (simp; done) | (simp [*]; done)), H', ⟨by have := HK1.out; have := HJ17.out; have := HJ22.out; first | omega | exact Nat.le_refl _⟩, ⟨by (with_reducible repeat (first | apply Kd.V_alloc | apply Kd.V_drewN | apply Kd.V_drew)); exact HO_160003.out⟩, ⟨by (with_reducible repeat (first | refine blk_drewN ?_ _ | refine blk_drew ?_ | refine blk_alloc ?_ _)); exact BK152.out⟩, ⟨by (with_reducible repeat (first | refine blk_drewN ?_ _ | refine blk_drew ?_ | refine blk_alloc ?_ _)); exact BK159.out⟩, ⟨by (with_reducible repeat (first | refine blk_drewN ?_ _ | refine blk_drew ?_ | refine blk_alloc ?_ _)); exact BK168.out⟩, ⟨by (with_reducible repeat (first | refine blk_drewN ?_ _ | refine blk_drew ?_ | refine blk_alloc ?_ _)); exact BK178.out⟩, ⟨by (with_reducible repeat (first | refine blk_drewN ?_ _ | refine blk_drew ?_ | refine blk_alloc ?_ _)); exact BK188.out⟩, ⟨by repeat (first | (with_reducible first | exact HB.out | apply below_alloc | apply pw_below_drewN | apply below_drew1 | refine below_set ?_ GE152.out | refine below_set ?_ GE159.out | refine below_set ?_ GE168.out | refine below_set ?_ GE178.out | refine below_set ?_ GE188.out) | exact HB.out)⟩⟩
                      · rw [if_neg c89] at H
                        have c89b0 : (t187 == 0) = false := beq_eq_false_iff_ne.mpr c89
                        have c89b1 : (t187 != 0) = true := bne_iff_ne.mpr c89
                        have H' := Aside0.mk H
                        clear H
                        go_wp2
                        go_meet
                        case rel => exact ⟨_, (true), (by first | rfl | (simp; done) | (simp [*]; done)), H', ⟨by have := HK1.out; have := HJ17.out; have := HJ22.out; first | omega | exact Nat.le_refl _⟩, ⟨by (with_reducible repeat (first | apply Kd.V_alloc | apply Kd.V_drewN | apply Kd.V_drew)); exact HO_160003.out⟩, ⟨by (with_reducible repeat (first | refine blk_drewN ?_ _ | refine blk_drew ?_ | refine blk_alloc ?_ _)); exact BK152.out⟩, ⟨by (with_reducible repeat (first | refine blk_drewN ?_ _ | refine blk_drew ?_ | refine blk_alloc ?_ _)); exact BK159.out⟩, ⟨by (with_reducible repeat (first | refine blk_drewN ?_ _ | refine blk_drew ?_ | refine blk_alloc ?_ _)); exact BK168.out⟩, ⟨by (with_reducible repeat (first | refine blk_drewN ?_ _ | refine blk_drew ?_ | refine blk_alloc ?_ _)); exact BK178.out⟩, ⟨by (with_reducible repeat (first | refine blk_drewN ?_ _ | refine blk_drew ?_ | refine blk_alloc ?_ _)); exact BK188.out⟩, ⟨by repeat (first | (with_reducible first | exact HB.out | apply below_alloc | apply pw_below_drewN | apply below_drew1 | refine below_set ?_ GE152.out | refine below_set ?_ GE159.out | refine below_set ?_ GE168.out | refine below_set ?_ GE178.out | refine below_set ?_ GE188.out) | exact HB.out)⟩⟩
                    · rw [if_neg c88] at H
                      have c88b0 : (t177 == 0) = false := beq_eq_false_iff_ne.mpr c88
                      have c88b1 : (t177 != 0) = true := bne_iff_ne.mpr c88
                      (first | rw [c88b0] | (simp only [i64_w, i32_w]; rw [c88b0]) | skip)
                      have H' := Aside0.mk H
                      clear H
                      go_wp2
                      go_meet
                      case rel => exact ⟨_, (true), (by first | rfl | (simp; done) | (simp [*]; done)), H', ⟨by have := HK1.out; have := HJ17.out; have := HJ22.out; first | omega | exact Nat.le_refl _⟩, ⟨by (with_reducible repeat (first | apply Kd.V_alloc | apply Kd.V_drewN | apply Kd.V_drew)); exact HO_160003.out⟩, ⟨by (with_reducible repeat (first | refine blk_drewN ?_ _ | refine blk_drew ?_ | refine blk_alloc ?_ _)); exact BK152.out⟩, ⟨by (with_reducible repeat (first | refine blk_drewN ?_ _ | refine blk_drew ?_ | refine blk_alloc ?_ _)); exact BK159.out⟩, ⟨by (with_reducible repeat (first | refine blk_drewN ?_ _ | refine blk_drew ?_ | refine blk_alloc ?_ _)); exact BK168.out⟩, ⟨by (with_reducible repeat (first | refine blk_drewN ?_ _ | refine blk_drew ?_ | refine blk_alloc ?_ _)); exact BK178.out⟩, ⟨by (with_reducible repeat (first | refine blk_drewN ?_ _ | refine blk_drew ?_ | refine blk_alloc ?_ _)); exact BK188.out⟩, ⟨by repeat (first | (with_reducible first | exact HB.out | apply below_alloc | apply pw_below_drewN | apply below_drew1 | refine below_set ?_ GE152.out | refine below_set ?_ GE159.out | refine below_set ?_ GE168.out | refine below_set ?_ GE178.out | refine below_set ?_ GE188.out) | exact HB.out)⟩⟩
                  case rest =>
                    clear HC87
                    try clear c1
                    try clear c2
                    try clear p2
                    try clear c3
                    try clear c4
                    try clear c4b0
                    try clear c4b1
                    try clear c5
                    try clear c6
                    try clear p6
                    try clear c7
                    try clear c8
                    try clear c9
                    try clear c11
                    try clear c15
                    try clear c16
                    try clear c19
                    try clear c19b0
                    try clear c20
                    try clear c24
                    try clear c25
                    try clear c29
                    try clear c30
                    try clear c31
                    try clear c33
                    try clear c37
                    try clear c38
                    try clear c39
                    try clear c40
                    try clear c42
                    try clear c42b0
                    try clear c42b1
                    try clear c43
                    try clear c43b0
                    try clear c43b1
                    try clear c44
                    try clear c45
                    try clear c46
                    try clear c47
                    try clear c49
                    try clear c50
                    try clear c51
                    try clear c53
                    try clear c54
                    try clear c55
                    try clear c56
                    try clear c58
                    try clear c59
                    try clear c60
                    try clear c62
                    try clear c62b0
                    try clear c62b1
                    try clear c63
                    try clear c63b0
                    try clear c63b1
                    try clear c64
                    try clear p64
                    try clear c65
                    try clear c66
                    try clear c67
                    try clear c69
                    try clear c70
                    try clear c71
                    try clear c73
                    try clear c74
                    try clear c75
                    try clear c76
                    try clear c78
                    try clear c79
                    try clear c80
                    try clear c82
                    try clear c83
                    try clear c84
                    try clear c85
                    try clear c88
                    try clear c88b0
                    try clear c88b1
                    try clear c89
                    try clear c89b0
                    try clear c89b1
                    try clear c90
                    try clear c90b0
                    try clear c90b1
                    try clear c90b2
                    try clear c91
                    try clear c91b0
                    try clear c91b1
                    try clear c92
                    try clear c93
                    try clear c94
                    try clear c95
                    try clear c97
                    try clear c98
                    try clear c99
                    try clear hcz100_0
                    try clear hcz100_1
                    try clear hcz100_2
                    try clear hcz100_3
                    try clear hcz100_4
                    try clear hcz100_5
                    try clear hcz10_0
                    try clear hcz10_1
                    try clear hcz10_2
                    try clear hcz10_3
                    try clear hcz12_0
                    try clear hcz12_1
                    try clear hcz12_10
                    try clear hcz12_11
                    try clear hcz12_12
                    try clear hcz12_13
                    try clear hcz12_14
                    try clear hcz12_2
                    try clear hcz12_3
                    try clear hcz12_4
                    try clear hcz12_5
                    try clear hcz12_6
                    try clear hcz12_7
                    try clear hcz12_8
                    try clear hcz12_9
                    try clear hcz17_0
                    try clear hcz17_1
                    try clear hcz17_2
                    try clear hcz17_3
                    try clear hcz17_4
                    try clear hcz17_5
                    try clear hcz26_0
                    try clear hcz26_1
                    try clear hcz26_10
                    try clear hcz26_11
                    try clear hcz26_12
                    try clear hcz26_13
                    try clear hcz26_14
                    try clear hcz26_2
                    try clear hcz26_3
                    try clear hcz26_4
                    try clear hcz26_5
                    try clear hcz26_6
                    try clear hcz26_7
                    try clear hcz26_8
                    try clear hcz26_9
                    try clear hcz32_0
                    try clear hcz32_1
                    try clear hcz32_2
                    try clear hcz32_3
                    try clear hcz32_4
                    try clear hcz32_5
                    try clear hcz34_0
                    try clear hcz34_1
                    try clear hcz34_2
                    try clear hcz34_3
                    try clear hcz41_0
                    try clear hcz41_1
                    try clear hcz41_2
                    try clear hcz41_3
                    try clear hcz41_4
                    try clear hcz41_5
                    try clear hcz41_6
                    try clear hcz41_7
                    try clear hcz48_0
                    try clear hcz48_1
                    try clear hcz48_2
                    try clear hcz48_3
                    try clear hcz48_4
                    try clear hcz48_5
                    try clear hcz48_6
                    try clear hcz48_7
                    try clear hcz52_0
                    try clear hcz52_1
                    try clear hcz52_10
                    try clear hcz52_11
                    try clear hcz52_12
                    try clear hcz52_13
                    try clear hcz52_14
                    try clear hcz52_2
                    try clear hcz52_3
                    try clear hcz52_4
                    try clear hcz52_5
                    try clear hcz52_6
                    try clear hcz52_7
                    try clear hcz52_8
                    try clear hcz52_9
                    try clear hcz57_0
                    try clear hcz57_1
                    try clear hcz57_2
                    try clear hcz57_3
                    try clear hcz57_4
                    try clear hcz57_5
                    try clear hcz57_6
                    try clear hcz57_7
                    try clear hcz61_0
                    try clear hcz61_1
                    try clear hcz61_10
                    try clear hcz61_11
                    try clear hcz61_12
                    try clear hcz61_13
                    try clear hcz61_14
                    try clear hcz61_2
                    try clear hcz61_3
                    try clear hcz61_4
                    try clear hcz61_5
                    try clear hcz61_6
                    try clear hcz61_7
                    try clear hcz61_8
                    try clear hcz61_9
                    try clear hcz68_0
                    try clear hcz68_1
                    try clear hcz68_2
                    try clear hcz68_3
                    try clear hcz68_4
                    try clear hcz68_5
                    try clear hcz68_6
                    try clear hcz68_7
                    try clear hcz6_0
                    try clear hcz6_1
                    try clear hcz6_10
                    try clear hcz6_11
                    try clear hcz6_12
                    try clear hcz6_13
                    try clear hcz6_14
                    try clear hcz6_2
                    try clear hcz6_3
                    try clear hcz6_4
                    try clear hcz6_5
                    try clear hcz6_6
                    try clear hcz6_7
                    try clear hcz6_8
                    try clear hcz6_9
                    try clear hcz72_0
                    try clear hcz72_1
                    try clear hcz72_10
                    try clear hcz72_11
                    try clear hcz72_12
                    try clear hcz72_13
                    try clear hcz72_14
                    try clear hcz72_2
                    try clear hcz72_3
                    try clear hcz72_4
                    try clear hcz72_5
                    try clear hcz72_6
                    try clear hcz72_7
                    try clear hcz72_8
                    try clear hcz72_9
                    try clear hcz77_0
                    try clear hcz77_1
                    try clear hcz77_2
                    try clear hcz77_3
                    try clear hcz77_4
                    try clear hcz77_5
                    try clear hcz77_6
                    try clear hcz77_7
                    try clear hcz81_0
                    try clear hcz81_1
                    try clear hcz81_10
                    try clear hcz81_11
                    try clear hcz81_12
                    try clear hcz81_13
                    try clear hcz81_14
                    try clear hcz81_2
                    try clear hcz81_3
                    try clear hcz81_4
                    try clear hcz81_5
                    try clear hcz81_6
                    try clear hcz81_7
                    try clear hcz81_8
                    try clear hcz81_9
                    try clear hcz86_0
                    try clear hcz86_1
                    try clear hcz86_2
                    try clear hcz86_3
                    try clear hcz86_4
                    try clear hcz86_5
                    try clear hcz86_6
                    try clear hcz86_7
                    try clear hcz96_0
                    try clear hcz96_1
                    try clear hcz96_2
                    try clear hcz96_3
                    try clear hcz96_4
                    try clear hcz96_5
                    try clear hfz100_0
                    try clear hfz100_1
                    try clear hfz100_2
                    try clear hfz100_3
                    try clear hfz100_4
                    try clear hfz100_5
                    try clear hfz10_0
                    try clear hfz10_1
                    try clear hfz10_2
                    try clear hfz10_3
                    try clear hfz12_0
                    try clear hfz12_1
                    try clear hfz12_10
                    try clear hfz12_11
                    try clear hfz12_12
                    try clear hfz12_13
                    try clear hfz12_14
                    try clear hfz12_2
                    try clear hfz12_3
                    try clear hfz12_4
                    try clear hfz12_5
                    try clear hfz12_6
                    try clear hfz12_7
                    try clear hfz12_8
                    try clear hfz12_9
                    try clear hfz17_0
                    try clear hfz17_1
                    try clear hfz17_2
                    try clear hfz17_3
                    try clear hfz17_4
                    try clear hfz17_5
                    try clear hfz26_0
                    try clear hfz26_1
                    try clear hfz26_10
                    try clear hfz26_11
                    try clear hfz26_12
                    try clear hfz26_13
                    try clear hfz26_14
                    try clear hfz26_2
                    try clear hfz26_3
                    try clear hfz26_4
                    try clear hfz26_5
                    try clear hfz26_6
                    try clear hfz26_7
                    try clear hfz26_8
                    try clear hfz26_9
                    try clear hfz32_0
                    try clear hfz32_1
                    try clear hfz32_2
                    try clear hfz32_3
                    try clear hfz32_4
                    try clear hfz32_5
                    try clear hfz34_0
                    try clear hfz34_1
                    try clear hfz34_2
                    try clear hfz34_3
                    try clear hfz41_0
                    try clear hfz41_1
                    try clear hfz41_2
                    try clear hfz41_3
                    try clear hfz41_4
                    try clear hfz41_5
                    try clear hfz41_6
                    try clear hfz41_7
                    try clear hfz48_0
                    try clear hfz48_1
                    try clear hfz48_2
                    try clear hfz48_3
                    try clear hfz48_4
                    try clear hfz48_5
                    try clear hfz48_6
                    try clear hfz48_7
                    try clear hfz52_0
                    try clear hfz52_1
                    try clear hfz52_10
                    try clear hfz52_11
                    try clear hfz52_12
                    try clear hfz52_13
                    try clear hfz52_14
                    try clear hfz52_2
                    try clear hfz52_3
                    try clear hfz52_4
                    try clear hfz52_5
                    try clear hfz52_6
                    try clear hfz52_7
                    try clear hfz52_8
                    try clear hfz52_9
                    try clear hfz57_0
                    try clear hfz57_1
                    try clear hfz57_2
                    try clear hfz57_3
                    try clear hfz57_4
                    try clear hfz57_5
                    try clear hfz57_6
                    try clear hfz57_7
                    try clear hfz61_0
                    try clear hfz61_1
                    try clear hfz61_10
                    try clear hfz61_11
                    try clear hfz61_12
                    try clear hfz61_13
                    try clear hfz61_14
                    try clear hfz61_2
                    try clear hfz61_3
                    try clear hfz61_4
                    try clear hfz61_5
                    try clear hfz61_6
                    try clear hfz61_7
                    try clear hfz61_8
                    try clear hfz61_9
                    try clear hfz68_0
                    try clear hfz68_1
                    try clear hfz68_2
                    try clear hfz68_3
                    try clear hfz68_4
                    try clear hfz68_5
                    try clear hfz68_6
                    try clear hfz68_7
                    try clear hfz6_0
                    try clear hfz6_1
                    try clear hfz6_10
                    try clear hfz6_11
                    try clear hfz6_12
                    try clear hfz6_13
                    try clear hfz6_14
                    try clear hfz6_2
                    try clear hfz6_3
                    try clear hfz6_4
                    try clear hfz6_5
                    try clear hfz6_6
                    try clear hfz6_7
                    try clear hfz6_8
                    try clear hfz6_9
                    try clear hfz72_0
                    try clear hfz72_1
                    try clear hfz72_10
                    try clear hfz72_11
                    try clear hfz72_12
                    try clear hfz72_13
                    try clear hfz72_14
                    try clear hfz72_2
                    try clear hfz72_3
                    try clear hfz72_4
                    try clear hfz72_5
                    try clear hfz72_6
                    try clear hfz72_7
                    try clear hfz72_8
                    try clear hfz72_9
                    try clear hfz77_0
                    try clear hfz77_1
                    try clear hfz77_2
                    try clear hfz77_3
                    try clear hfz77_4
                    try clear hfz77_5
                    try clear hfz77_6
                    try clear hfz77_7
                    try clear hfz81_0
                    try clear hfz81_1
                    try clear hfz81_10
                    try clear hfz81_11
                    try clear hfz81_12
                    try clear hfz81_13
                    try clear hfz81_14
                    try clear hfz81_2
                    try clear hfz81_3
                    try clear hfz81_4
                    try clear hfz81_5
                    try clear hfz81_6
                    try clear hfz81_7
                    try clear hfz81_8
                    try clear hfz81_9
                    try clear hfz86_0
                    try clear hfz86_1
                    try clear hfz86_2
                    try clear hfz86_3
                    try clear hfz86_4
                    try clear hfz86_5
                    try clear hfz86_6
                    try clear hfz86_7
                    try clear hfz96_0
                    try clear hfz96_1
                    try clear hfz96_2
                    try clear hfz96_3
                    try clear hfz96_4
                    try clear hfz96_5
                    try clear p2
                    try clear p6
                    try clear p64
                    obtain ⟨kq, x120_86, rfl, HA, HJ86, HO_160003, BK152, BK159, BK168, BK178, BK188, HB⟩ := hcut
                    cases kq with
                    | zero => exact absurd HA.out (by simp [bivouaclaw17_AimHits.j3])
                    | succ kj86 =>
                      have H := HA.out
                      clear HA
                      simp only [bivouaclaw17_AimHits.j3] at H
                      by_cases c101 : x120_86 = true
                      · subst c101
                        have H1 : (some false) = some true := by rw [if_pos rfl] at H; exact H
                        clear H
                        have H := H1
                        clear H1
                        exact absurd H (by simp)
                      · replace c101 := Bool.eq_false_iff.mpr c101
                        subst c101
                        have H1 : (bivouaclaw17_AimHits.l0 kj86 t166 (wrap64 (x7_1 + 1)) a0_0 a0_1 a0_2 l0_3 a0_4 a0_5 a0_6 a0_7 a0_8 a0_9 a0_10 a0_11 a0_12 a0_13 a0_14 t153 t154 t155 t156 t160 t161 t162 t163 t164 t165) = some true := by rw [if_neg (show ¬ (false = true) by decide)] at H; exact H
                        clear H
                        have H := H1
                        clear H1
                        have H' := Aside0.mk H
                        clear H
                        go_wp2
                        go_roundg kj86
                        case measure => have := HK1.out; have := HJ17.out; have := HJ22.out; have := HJ86.out; omega
                        case rel => exact ⟨(wrap64 (x7_1 + 1)), (by first | rfl | (simp; done) | (simp [*]; done)), H', ⟨by have := HK1.out; have := HJ17.out; have := HJ22.out; have := HJ86.out; omega⟩, ⟨by (with_reducible repeat (first | apply Kd.V_alloc | apply Kd.V_drewN | apply Kd.V_drew)); exact Kd.V_mono HO_160003.out (fun _ hk => ⟨hk.1, ⟨hk.2.1, hk.2.2.1⟩⟩)⟩, ⟨by (with_reducible repeat (first | refine blk_drewN ?_ _ | refine blk_drew ?_ | refine blk_alloc ?_ _)); exact BK152.out⟩, ⟨by (with_reducible repeat (first | refine blk_drewN ?_ _ | refine blk_drew ?_ | refine blk_alloc ?_ _)); exact BK159.out⟩, ⟨by (with_reducible repeat (first | refine blk_drewN ?_ _ | refine blk_drew ?_ | refine blk_alloc ?_ _)); exact BK168.out⟩, ⟨by repeat (first | (with_reducible first | exact HB.out | apply below_alloc | apply pw_below_drewN | apply below_drew1 | refine below_set ?_ GE152.out | refine below_set ?_ GE159.out | refine below_set ?_ GE168.out | refine below_set ?_ GE178.out | refine below_set ?_ GE188.out) | exact HB.out)⟩⟩
            · replace c20 := Bool.eq_false_iff.mpr c20
              subst c20
              have H1 : (if t166 ≤ 64 then ((bivouaclaw17_awake.f kj17).bind fun t170 => (some t170)) else (some false)) = some true := by rw [if_neg (show ¬ (false = true) by decide)] at H; exact H
              clear H
              have H := H1
              clear H1
              by_cases c102 : t166 ≤ 64
              · rw [if_pos c102] at H
                have c102b0 : decide (t166 ≤ 64) = true := decide_eq_true c102
                clear c102
                replace H := Option.bind_eq_some_iff.mp H
                obtain ⟨t170, A1030, H⟩ := H
                replace H : (some t170) = some true := H
                have A103 := Aside0.mk A1030
                clear A1030
                have HRES := Aside0.mk (Option.some.inj H)
                clear H
                go_wp2_with (first | (go_at_call 22; (with_reducible refine (bivouaclaw17_awake.calls kj17  t170 _ ?side1 A103.out).mono ?_); (case side1 => exact Tg.Tab.below HTAB.out (by repeat (first | (with_reducible first | exact HB.out | apply below_alloc | apply pw_below_drewN | apply below_drew1 | refine below_set ?_ GE152.out | refine below_set ?_ GE159.out | refine below_set ?_ GE168.out) | exact HB.out))); rintro e w104 ⟨rfl, hb⟩; have n0_ := Aside0.mk (Kd.V_below (by (with_reducible repeat (first | apply Kd.V_alloc | apply Kd.V_drewN | apply Kd.V_drew)); exact HO_160003.out) hb); have n1_ := Aside0.mk (blk_below (g := gb152) (o := .cells #[.int .i64 a0_0, .int .i64 a0_1, .int .i64 a0_2, .slice A0_3 l0_3.length c0_3, .int .i64 a0_4, .int .i64 a0_5, .int .i64 a0_6, .int .i64 a0_7, .int .i64 a0_8, .int .i64 a0_9, .int .i64 a0_10, .int .i64 a0_11, .int .i64 a0_12, .int .i64 a0_13, .int .i64 a0_14] 49 (0, 0)) (by (with_reducible repeat (first | refine blk_drewN ?_ _ | refine blk_drew ?_ | refine blk_alloc ?_ _)); exact BK152.out) hb); have n2_ := Aside0.mk (blk_below (g := gb159) (o := .cells #[.int .i64 t153, .int .i64 t154, .int .i64 t155, .slice Ao11 t156.length co11] 45 (0, 0)) (by (with_reducible repeat (first | refine blk_drewN ?_ _ | refine blk_drew ?_ | refine blk_alloc ?_ _)); exact BK159.out) hb); have n3_ := Aside0.mk (blk_below (g := gb168) (o := .cells #[.int .i64 t160, .int .i64 t161, .int .i64 t162, .int .i64 t163, .int .i64 t164, .int .i64 t165] 47 (0, 0)) (by (with_reducible repeat (first | refine blk_drewN ?_ _ | refine blk_drew ?_ | refine blk_alloc ?_ _)); exact BK168.out) hb); have n4_ := Aside0.mk (below_step (by repeat (first | (with_reducible first | exact HB.out | apply below_alloc | apply pw_below_drewN | apply below_drew1 | refine below_set ?_ GE152.out | refine below_set ?_ GE159.out | refine below_set ?_ GE168.out) | exact HB.out)) hb); clear HO_160003; clear BK152; clear BK159; clear BK168; clear HB; have HO_160003 := n0_; have BK152 := n1_; have BK159 := n2_; have BK168 := n3_; have HB := n4_; clear n0_ n1_ n2_ n3_ n4_; (try clear hb); (try clear hb2); (try clear hk); (try clear hi)))
                go_ret
                exact ⟨by first | rfl | (exact congrArg (fun b_ => Ending.returned (Value.bool b_)) HRES.out) | (simp [errW_none, errW_some] <;> rfl) | (simp [*, errW_none, errW_some] <;> rfl), by repeat (first | (with_reducible first | exact HB.out | apply below_alloc | apply pw_below_drewN | apply below_drew1 | refine below_set ?_ GE152.out | refine below_set ?_ GE159.out | refine below_set ?_ GE168.out) | exact HB.out)⟩
              · rw [if_neg c102] at H
                exact absurd H (by simp)
  · rw [if_neg c4] at H
    have c4b0 : (t167 == 0) = false := beq_eq_false_iff_ne.mpr c4
    have c4b1 : (t167 != 0) = true := bne_iff_ne.mpr c4
    by_cases c105 : (t160 == 0 && (t161 == 0 && (t162 == 0 && (t163 == 0 && (t164 == 0 && (t165 == 0)))))) = true
    · rw [if_pos c105] at H
      have c105b0 : (t160 == 0 && (t161 == 0 && (t162 == 0 && (t163 == 0 && (t164 == 0 && (t165 == 0)))))) = true := c105
      (try (have c105b1 : decide (t160 = 0 && (t161 == 0 && (t162 == 0 && (t163 == 0 && (t164 == 0 && (t165 == 0)))))) = true := by simpa using c105))
      (try (have c105b2 : (t160 == 0 && (t161 == 0 && (t162 == 0 && (t163 == 0 && (t164 == 0 && (t165 == 0)))))) = true := by simpa using c105))
      clear c105
      by_cases c106 : t166 = 0
      · rw [if_pos c106] at H
        have c106b0 : (t166 == 0) = true := beq_iff_eq.mpr c106
        have c106b1 : (t166 != 0) = false := bne_eq_false_iff_eq.mpr c106
        clear c106
        replace H := Option.bind_eq_some_iff.mp H
        obtain ⟨t169, A1070, H⟩ := H
        replace H : (some t169) = some true := H
        have A107 := Aside0.mk A1070
        clear A1070
        have HRES := Aside0.mk (Option.some.inj H)
        clear H
        go_enter Tryd.func11, Tryd.ntmps11
        go_wp2_with (first | ((with_reducible refine gate_dst (N := 1) rfl ?_); refine box_event ?hg (N := 1) ?hd (cs := #[.int .i64 a0_0, .int .i64 a0_1, .int .i64 a0_2, .slice A0_3 l0_3.length c0_3, .int .i64 a0_4, .int .i64 a0_5, .int .i64 a0_6, .int .i64 a0_7, .int .i64 a0_8, .int .i64 a0_9, .int .i64 a0_10, .int .i64 a0_11, .int .i64 a0_12, .int .i64 a0_13, .int .i64 a0_14]) (t := 49) ?hr ?_; (case hd => rfl); (case hg => rfl); (case hr => first | (go_simp; done) | (go_simp; rfl)); intro gb152 hg w108 hbox hb; have n0_ := Aside0.mk (below_step (by repeat (first | (with_reducible first | exact HB.out | apply below_alloc | apply pw_below_drewN | apply below_drew1) | exact HB.out)) hb); have n1_ := Aside0.mk (hbox); have n2_ := Aside0.mk ((by rw [hg]; exact (below_size (by repeat (first | (with_reducible first | exact HB.out | apply below_alloc | apply pw_below_drewN | apply below_drew1) | exact HB.out))) : w.heap.size ≤ gb152)); have n3_ := Aside0.mk ((by rw [hg]; exact (below_size (by repeat (first | (with_reducible first | exact HB.out | apply below_alloc | apply pw_below_drewN | apply below_drew1) | exact HB.out))) : w.heap.size ≤ gb152)); clear HB; have HB := n0_; have BK152 := n1_; have GW152 := n2_; have GE152 := n3_; clear n0_ n1_ n2_ n3_; clear hb hbox hg; have hcz109_0 : w108.cell? ⟨gb152, 0, none⟩ = some (.int .i64 a0_0) := (blk_cell BK152.out 0).trans rfl; have hcz109_1 : w108.cell? ⟨gb152, 1, none⟩ = some (.int .i64 a0_1) := (blk_cell BK152.out 1).trans rfl; have hcz109_2 : w108.cell? ⟨gb152, 2, none⟩ = some (.int .i64 a0_2) := (blk_cell BK152.out 2).trans rfl; have hcz109_3 : w108.cell? ⟨gb152, 3, none⟩ = some (.slice A0_3 l0_3.length c0_3) := (blk_cell BK152.out 3).trans rfl; have hcz109_4 : w108.cell? ⟨gb152, 4, none⟩ = some (.int .i64 a0_4) := (blk_cell BK152.out 4).trans rfl; have hcz109_5 : w108.cell? ⟨gb152, 5, none⟩ = some (.int .i64 a0_5) := (blk_cell BK152.out 5).trans rfl; have hcz109_6 : w108.cell? ⟨gb152, 6, none⟩ = some (.int .i64 a0_6) := (blk_cell BK152.out 6).trans rfl; have hcz109_7 : w108.cell? ⟨gb152, 7, none⟩ = some (.int .i64 a0_7) := (blk_cell BK152.out 7).trans rfl; have hcz109_8 : w108.cell? ⟨gb152, 8, none⟩ = some (.int .i64 a0_8) := (blk_cell BK152.out 8).trans rfl; have hcz109_9 : w108.cell? ⟨gb152, 9, none⟩ = some (.int .i64 a0_9) := (blk_cell BK152.out 9).trans rfl; have hcz109_10 : w108.cell? ⟨gb152, 10, none⟩ = some (.int .i64 a0_10) := (blk_cell BK152.out 10).trans rfl; have hcz109_11 : w108.cell? ⟨gb152, 11, none⟩ = some (.int .i64 a0_11) := (blk_cell BK152.out 11).trans rfl; have hcz109_12 : w108.cell? ⟨gb152, 12, none⟩ = some (.int .i64 a0_12) := (blk_cell BK152.out 12).trans rfl; have hcz109_13 : w108.cell? ⟨gb152, 13, none⟩ = some (.int .i64 a0_13) := (blk_cell BK152.out 13).trans rfl; have hcz109_14 : w108.cell? ⟨gb152, 14, none⟩ = some (.int .i64 a0_14) := (blk_cell BK152.out 14).trans rfl; have hfz109_0 := blk_frozen BK152.out 0; have hfz109_1 := blk_frozen BK152.out 1; have hfz109_2 := blk_frozen BK152.out 2; have hfz109_3 := blk_frozen BK152.out 3; have hfz109_4 := blk_frozen BK152.out 4; have hfz109_5 := blk_frozen BK152.out 5; have hfz109_6 := blk_frozen BK152.out 6; have hfz109_7 := blk_frozen BK152.out 7; have hfz109_8 := blk_frozen BK152.out 8; have hfz109_9 := blk_frozen BK152.out 9; have hfz109_10 := blk_frozen BK152.out 10; have hfz109_11 := blk_frozen BK152.out 11; have hfz109_12 := blk_frozen BK152.out 12; have hfz109_13 := blk_frozen BK152.out 13; have hfz109_14 := blk_frozen BK152.out 14) | ((with_reducible refine gate_callee (f := 24) rfl ?_); refine goesL_ (some 15) rfl rfl Tryd.func24 (by kernel_rfl) rfl #[.agg #[.int .i64 a0_0, .int .i64 a0_1, .int .i64 a0_2, .slice A0_3 l0_3.length c0_3]] rfl (by (try simp only [List.map_toArray, List.map_cons, List.map_nil]); first | done | rfl | (simp only [List.length_drop, List.length_take]; rfl)) ?_; (with_reducible refine (bivouaclaw17_few.calls a0_0 a0_1 a0_2 (fun k_ => k_ < w.heap.size) _ _ l0_3 t153 t154 t155 t156 _ ?side1 A2.out).mono ?_); (case side1 => exact Kd.V_mk HC0_3.out (Kd.F_below (Kd.C_F (Kd.heap_int .u8) HR0_3.out) (by repeat (first | (with_reducible first | exact HB.out | apply below_alloc | apply pw_below_drewN | apply below_drew1 | refine below_set ?_ GE152.out) | exact HB.out)))); rintro e w110 ⟨v157, rfl, ho0, hb⟩; refine ⟨_, rfl, ?_⟩; have n0_ := Aside0.mk (Kd.V_lower (Kd.V_mono (ok' := fun k_ => k_ ≠ gb152) ho0 (fun k_ hk_ => Or.elim hk_ (fun hs_ => fun e_ => Nat.not_le.2 hs_ (by rw [e_]; exact GW152.out)) (fun hn_ => (Kd.freshB (g := gb152) (o := .cells #[.int .i64 a0_0, .int .i64 a0_1, .int .i64 a0_2, .slice A0_3 l0_3.length c0_3, .int .i64 a0_4, .int .i64 a0_5, .int .i64 a0_6, .int .i64 a0_7, .int .i64 a0_8, .int .i64 a0_9, .int .i64 a0_10, .int .i64 a0_11, .int .i64 a0_12, .int .i64 a0_13, .int .i64 a0_14] 49 (0, 0)) (by (with_reducible repeat (first | refine blk_drewN ?_ _ | refine blk_drew ?_ | refine blk_alloc ?_ _)); exact BK152.out) k_ hn_)))) (below_size (by repeat (first | (with_reducible first | exact HB.out | apply below_alloc | apply pw_below_drewN | apply below_drew1 | refine below_set ?_ GE152.out) | exact HB.out)))); have n1_ := Aside0.mk (blk_below (g := gb152) (o := .cells #[.int .i64 a0_0, .int .i64 a0_1, .int .i64 a0_2, .slice A0_3 l0_3.length c0_3, .int .i64 a0_4, .int .i64 a0_5, .int .i64 a0_6, .int .i64 a0_7, .int .i64 a0_8, .int .i64 a0_9, .int .i64 a0_10, .int .i64 a0_11, .int .i64 a0_12, .int .i64 a0_13, .int .i64 a0_14] 49 (0, 0)) (by (with_reducible repeat (first | refine blk_drewN ?_ _ | refine blk_drew ?_ | refine blk_alloc ?_ _)); exact BK152.out) hb); have n2_ := Aside0.mk (below_step (by repeat (first | (with_reducible first | exact HB.out | apply below_alloc | apply pw_below_drewN | apply below_drew1 | refine below_set ?_ GE152.out) | exact HB.out)) hb); clear BK152; clear HB; have HO158 := n0_; have BK152 := n1_; have HB := n2_; clear n0_ n1_ n2_; (try clear hb); (try clear hb2); (try clear hk); (try clear hi); (try clear ho0)) | ((with_reducible refine gate_dst (N := 3) rfl ?_); refine box_event ?hg (N := 3) ?hd (cs := #[.int .i64 0, .int .i64 0, .int .i64 0, .slice none 0 0]) (t := 45) ?hr ?_; (case hd => rfl); (case hg => rfl); (case hr => first | (go_simp; done) | (go_simp; rfl)); intro gb159 hg w111 hbox hb; have n0_ := Aside0.mk (Kd.V_below (Kd.V_elderB (by (with_reducible repeat (first | apply Kd.V_alloc | apply Kd.V_drewN | apply Kd.V_drew)); exact HO158.out) gb159 (Nat.le_of_eq hg.symm)) hb); have n1_ := Aside0.mk (blk_below (g := gb152) (o := .cells #[.int .i64 a0_0, .int .i64 a0_1, .int .i64 a0_2, .slice A0_3 l0_3.length c0_3, .int .i64 a0_4, .int .i64 a0_5, .int .i64 a0_6, .int .i64 a0_7, .int .i64 a0_8, .int .i64 a0_9, .int .i64 a0_10, .int .i64 a0_11, .int .i64 a0_12, .int .i64 a0_13, .int .i64 a0_14] 49 (0, 0)) (by (with_reducible repeat (first | refine blk_drewN ?_ _ | refine blk_drew ?_ | refine blk_alloc ?_ _)); exact BK152.out) hb); have n2_ := Aside0.mk (below_step (by repeat (first | (with_reducible first | exact HB.out | apply below_alloc | apply pw_below_drewN | apply below_drew1 | refine below_set ?_ GE152.out) | exact HB.out)) hb); have n3_ := Aside0.mk (hbox); have n4_ := Aside0.mk ((by rw [hg]; exact (below_size (by repeat (first | (with_reducible first | exact HB.out | apply below_alloc | apply pw_below_drewN | apply below_drew1 | refine below_set ?_ GE152.out) | exact HB.out))) : w.heap.size ≤ gb159)); have n5_ := Aside0.mk ((by rw [hg]; exact (below_size (by repeat (first | (with_reducible first | exact HB.out | apply below_alloc | apply pw_below_drewN | apply below_drew1 | refine below_set ?_ GE152.out) | exact HB.out))) : w.heap.size ≤ gb159)); have n6_ := Aside0.mk ((by rw [hg]; exact Nat.ne_of_lt (blk_lt (g := gb152) (o := .cells #[.int .i64 a0_0, .int .i64 a0_1, .int .i64 a0_2, .slice A0_3 l0_3.length c0_3, .int .i64 a0_4, .int .i64 a0_5, .int .i64 a0_6, .int .i64 a0_7, .int .i64 a0_8, .int .i64 a0_9, .int .i64 a0_10, .int .i64 a0_11, .int .i64 a0_12, .int .i64 a0_13, .int .i64 a0_14] 49 (0, 0)) (by (with_reducible repeat (first | refine blk_drewN ?_ _ | refine blk_drew ?_ | refine blk_alloc ?_ _)); exact BK152.out)) : gb152 ≠ gb159)); have n7_ := Aside0.mk ((by rw [hg]; exact Nat.ne_of_gt (blk_lt (g := gb152) (o := .cells #[.int .i64 a0_0, .int .i64 a0_1, .int .i64 a0_2, .slice A0_3 l0_3.length c0_3, .int .i64 a0_4, .int .i64 a0_5, .int .i64 a0_6, .int .i64 a0_7, .int .i64 a0_8, .int .i64 a0_9, .int .i64 a0_10, .int .i64 a0_11, .int .i64 a0_12, .int .i64 a0_13, .int .i64 a0_14] 49 (0, 0)) (by (with_reducible repeat (first | refine blk_drewN ?_ _ | refine blk_drew ?_ | refine blk_alloc ?_ _)); exact BK152.out)) : gb159 ≠ gb152)); clear HO158; clear BK152; clear HB; have HO158 := n0_; have BK152 := n1_; have HB := n2_; have BK159 := n3_; have GW159 := n4_; have GE159 := n5_; have NB152_159 := n6_; have NB159_152 := n7_; clear n0_ n1_ n2_ n3_ n4_ n5_ n6_ n7_; clear hb hbox hg; have hnb112 := NB159_152.out; have hnc112 := NB152_159.out; have hcz113_0 : w111.cell? ⟨gb159, 0, none⟩ = some (.int .i64 0) := (blk_cell BK159.out 0).trans rfl; have hcz113_1 : w111.cell? ⟨gb159, 1, none⟩ = some (.int .i64 0) := (blk_cell BK159.out 1).trans rfl; have hcz113_2 : w111.cell? ⟨gb159, 2, none⟩ = some (.int .i64 0) := (blk_cell BK159.out 2).trans rfl; have hcz113_3 : w111.cell? ⟨gb159, 3, none⟩ = some (.slice none 0 0) := (blk_cell BK159.out 3).trans rfl; have hfz113_0 := blk_frozen BK159.out 0; have hfz113_1 := blk_frozen BK159.out 1; have hfz113_2 := blk_frozen BK159.out 2; have hfz113_3 := blk_frozen BK159.out 3; obtain ⟨Ao114, co114, eo114⟩ := Kd.V_slice HO158.out; subst eo114; have hcz115_0 : w111.cell? ⟨gb152, 0, none⟩ = some (.int .i64 a0_0) := (blk_cell BK152.out 0).trans rfl; have hcz115_1 : w111.cell? ⟨gb152, 1, none⟩ = some (.int .i64 a0_1) := (blk_cell BK152.out 1).trans rfl; have hcz115_2 : w111.cell? ⟨gb152, 2, none⟩ = some (.int .i64 a0_2) := (blk_cell BK152.out 2).trans rfl; have hcz115_3 : w111.cell? ⟨gb152, 3, none⟩ = some (.slice A0_3 l0_3.length c0_3) := (blk_cell BK152.out 3).trans rfl; have hcz115_4 : w111.cell? ⟨gb152, 4, none⟩ = some (.int .i64 a0_4) := (blk_cell BK152.out 4).trans rfl; have hcz115_5 : w111.cell? ⟨gb152, 5, none⟩ = some (.int .i64 a0_5) := (blk_cell BK152.out 5).trans rfl; have hcz115_6 : w111.cell? ⟨gb152, 6, none⟩ = some (.int .i64 a0_6) := (blk_cell BK152.out 6).trans rfl; have hcz115_7 : w111.cell? ⟨gb152, 7, none⟩ = some (.int .i64 a0_7) := (blk_cell BK152.out 7).trans rfl; have hcz115_8 : w111.cell? ⟨gb152, 8, none⟩ = some (.int .i64 a0_8) := (blk_cell BK152.out 8).trans rfl; have hcz115_9 : w111.cell? ⟨gb152, 9, none⟩ = some (.int .i64 a0_9) := (blk_cell BK152.out 9).trans rfl; have hcz115_10 : w111.cell? ⟨gb152, 10, none⟩ = some (.int .i64 a0_10) := (blk_cell BK152.out 10).trans rfl; have hcz115_11 : w111.cell? ⟨gb152, 11, none⟩ = some (.int .i64 a0_11) := (blk_cell BK152.out 11).trans rfl; have hcz115_12 : w111.cell? ⟨gb152, 12, none⟩ = some (.int .i64 a0_12) := (blk_cell BK152.out 12).trans rfl; have hcz115_13 : w111.cell? ⟨gb152, 13, none⟩ = some (.int .i64 a0_13) := (blk_cell BK152.out 13).trans rfl; have hcz115_14 : w111.cell? ⟨gb152, 14, none⟩ = some (.int .i64 a0_14) := (blk_cell BK152.out 14).trans rfl; have hfz115_0 := blk_frozen BK152.out 0; have hfz115_1 := blk_frozen BK152.out 1; have hfz115_2 := blk_frozen BK152.out 2; have hfz115_3 := blk_frozen BK152.out 3; have hfz115_4 := blk_frozen BK152.out 4; have hfz115_5 := blk_frozen BK152.out 5; have hfz115_6 := blk_frozen BK152.out 6; have hfz115_7 := blk_frozen BK152.out 7; have hfz115_8 := blk_frozen BK152.out 8; have hfz115_9 := blk_frozen BK152.out 9; have hfz115_10 := blk_frozen BK152.out 10; have hfz115_11 := blk_frozen BK152.out 11; have hfz115_12 := blk_frozen BK152.out 12; have hfz115_13 := blk_frozen BK152.out 13; have hfz115_14 := blk_frozen BK152.out 14) | ((with_reducible refine gate_callee (f := 25) rfl ?_); refine goesL_ (some 26) rfl rfl Tryd.func25 (by kernel_rfl) rfl #[.agg #[.int .i64 t153, .int .i64 t154, .int .i64 t155, .slice Ao114 t156.length co114], .agg #[.int .i64 a0_4, .int .i64 a0_5, .int .i64 a0_6, .int .i64 a0_7, .int .i64 a0_8, .int .i64 a0_9], .int .i64 a0_10, .int .i64 a0_11, .int .i64 a0_12] rfl (by (try simp only [List.map_toArray, List.map_cons, List.map_nil]); first | done | rfl | (simp only [List.length_drop, List.length_take]; rfl)) ?_; (with_reducible refine (aim_Solve.calls k t153 t154 t155 _ _ t156 a0_4 a0_5 a0_6 a0_7 a0_8 a0_9 a0_10 a0_11 a0_12 t160 t161 t162 t163 t164 t165 t166 t167 _ ?side1 ?side2 ?side3 A3.out).mono ?_); (case side1 => refine (Kd.V_reads' (e := 5) (base := w.heap.size) (ok := fun k_ => (k_ ≠ gb152 ∧ k_ ≠ gb159)) (n := t156.length) (c := co114) ?_).2.2; exact (by (with_reducible repeat (first | apply Kd.V_alloc | apply Kd.V_drewN | apply Kd.V_drew)); exact (Kd.V_mono (Kd.V_far (p := ⟨gb159, 3, none⟩) (Kd.V_far (p := ⟨gb159, 2, none⟩) (Kd.V_far (p := ⟨gb159, 1, none⟩) (Kd.V_far (p := ⟨gb159, 0, none⟩) (Kd.V_mono HO158.out (fun k_ hk => (⟨hk, hk.2⟩ : _ ∧ k_ ≠ gb159))) (fun _ hk => hk.2) (.int .i64 t153)) (fun _ hk => hk.2) (.int .i64 t154)) (fun _ hk => hk.2) (.int .i64 t155)) (fun _ hk => hk.2) (.slice Ao114 t156.length co114)) (fun _ h_ => h_.1)))); (case side2 => exact (Kd.V_reads' HO158.out).2.1); (case side3 => exact Tg.Tab.below HTAB.out (by repeat (first | (with_reducible first | exact HB.out | apply below_alloc | apply pw_below_drewN | apply below_drew1 | refine below_set ?_ GE152.out | refine below_set ?_ GE159.out) | exact HB.out))); rintro e w116 ⟨rfl, hb⟩; refine ⟨_, rfl, ?_⟩; have n0_ := Aside0.mk (Kd.V_below (by (with_reducible repeat (first | apply Kd.V_alloc | apply Kd.V_drewN | apply Kd.V_drew)); exact (Kd.V_mono (Kd.V_far (p := ⟨gb159, 3, none⟩) (Kd.V_far (p := ⟨gb159, 2, none⟩) (Kd.V_far (p := ⟨gb159, 1, none⟩) (Kd.V_far (p := ⟨gb159, 0, none⟩) (Kd.V_mono HO158.out (fun k_ hk => (⟨hk, hk.2⟩ : _ ∧ k_ ≠ gb159))) (fun _ hk => hk.2) (.int .i64 t153)) (fun _ hk => hk.2) (.int .i64 t154)) (fun _ hk => hk.2) (.int .i64 t155)) (fun _ hk => hk.2) (.slice Ao114 t156.length co114)) (fun _ h_ => h_.1))) hb); have n1_ := Aside0.mk (blk_below (g := gb152) (o := .cells #[.int .i64 a0_0, .int .i64 a0_1, .int .i64 a0_2, .slice A0_3 l0_3.length c0_3, .int .i64 a0_4, .int .i64 a0_5, .int .i64 a0_6, .int .i64 a0_7, .int .i64 a0_8, .int .i64 a0_9, .int .i64 a0_10, .int .i64 a0_11, .int .i64 a0_12, .int .i64 a0_13, .int .i64 a0_14] 49 (0, 0)) (by (with_reducible repeat (first | refine blk_drewN ?_ _ | refine blk_drew ?_ | refine blk_alloc ?_ _)); refine blk_far ?_ NB152_159.out _; (with_reducible repeat (first | refine blk_drewN ?_ _ | refine blk_drew ?_ | refine blk_alloc ?_ _)); refine blk_far ?_ NB152_159.out _; (with_reducible repeat (first | refine blk_drewN ?_ _ | refine blk_drew ?_ | refine blk_alloc ?_ _)); refine blk_far ?_ NB152_159.out _; (with_reducible repeat (first | refine blk_drewN ?_ _ | refine blk_drew ?_ | refine blk_alloc ?_ _)); refine blk_far ?_ NB152_159.out _; (with_reducible repeat (first | refine blk_drewN ?_ _ | refine blk_drew ?_ | refine blk_alloc ?_ _)); exact BK152.out) hb); have n2_ := Aside0.mk (blk_below (g := gb159) (o := .cells #[.int .i64 t153, .int .i64 t154, .int .i64 t155, .slice Ao114 t156.length co114] 45 (0, 0)) (by (with_reducible repeat (first | refine blk_drewN ?_ _ | refine blk_drew ?_ | refine blk_alloc ?_ _)); refine blk_put (cs := #[.int .i64 t153, .int .i64 t154, .int .i64 t155, .slice none 0 0]) ?_ 3 _ rfl; (with_reducible repeat (first | refine blk_drewN ?_ _ | refine blk_drew ?_ | refine blk_alloc ?_ _)); refine blk_put (cs := #[.int .i64 t153, .int .i64 t154, .int .i64 0, .slice none 0 0]) ?_ 2 _ rfl; (with_reducible repeat (first | refine blk_drewN ?_ _ | refine blk_drew ?_ | refine blk_alloc ?_ _)); refine blk_put (cs := #[.int .i64 t153, .int .i64 0, .int .i64 0, .slice none 0 0]) ?_ 1 _ rfl; (with_reducible repeat (first | refine blk_drewN ?_ _ | refine blk_drew ?_ | refine blk_alloc ?_ _)); refine blk_put (cs := #[.int .i64 0, .int .i64 0, .int .i64 0, .slice none 0 0]) ?_ 0 _ rfl; (with_reducible repeat (first | refine blk_drewN ?_ _ | refine blk_drew ?_ | refine blk_alloc ?_ _)); exact BK159.out) hb); have n3_ := Aside0.mk (below_step (by repeat (first | (with_reducible first | exact HB.out | apply below_alloc | apply pw_below_drewN | apply below_drew1 | refine below_set ?_ GE152.out | refine below_set ?_ GE159.out) | exact HB.out)) hb); clear HO158; clear BK152; clear BK159; clear HB; have HO158 := n0_; have BK152 := n1_; have BK159 := n2_; have HB := n3_; clear n0_ n1_ n2_ n3_; (try clear hb); (try clear hb2); (try clear hk); (try clear hi)) | ((with_reducible refine gate_dst (N := 4) rfl ?_); refine box_event ?hg (N := 4) ?hd (cs := #[.int .i64 0, .int .i64 0, .int .i64 0, .int .i64 0, .int .i64 0, .int .i64 0]) (t := 47) ?hr ?_; (case hd => rfl); (case hg => rfl); (case hr => first | (go_simp; done) | (go_simp; rfl)); intro gb168 hg w117 hbox hb; have n0_ := Aside0.mk (Kd.V_below (Kd.V_elderB (by (with_reducible repeat (first | apply Kd.V_alloc | apply Kd.V_drewN | apply Kd.V_drew)); exact HO158.out) gb168 (Nat.le_of_eq hg.symm)) hb); have n1_ := Aside0.mk (blk_below (g := gb152) (o := .cells #[.int .i64 a0_0, .int .i64 a0_1, .int .i64 a0_2, .slice A0_3 l0_3.length c0_3, .int .i64 a0_4, .int .i64 a0_5, .int .i64 a0_6, .int .i64 a0_7, .int .i64 a0_8, .int .i64 a0_9, .int .i64 a0_10, .int .i64 a0_11, .int .i64 a0_12, .int .i64 a0_13, .int .i64 a0_14] 49 (0, 0)) (by (with_reducible repeat (first | refine blk_drewN ?_ _ | refine blk_drew ?_ | refine blk_alloc ?_ _)); exact BK152.out) hb); have n2_ := Aside0.mk (blk_below (g := gb159) (o := .cells #[.int .i64 t153, .int .i64 t154, .int .i64 t155, .slice Ao114 t156.length co114] 45 (0, 0)) (by (with_reducible repeat (first | refine blk_drewN ?_ _ | refine blk_drew ?_ | refine blk_alloc ?_ _)); exact BK159.out) hb); have n3_ := Aside0.mk (below_step (by repeat (first | (with_reducible first | exact HB.out | apply below_alloc | apply pw_below_drewN | apply below_drew1 | refine below_set ?_ GE152.out | refine below_set ?_ GE159.out) | exact HB.out)) hb); have n4_ := Aside0.mk (hbox); have n5_ := Aside0.mk ((by rw [hg]; exact (below_size (by repeat (first | (with_reducible first | exact HB.out | apply below_alloc | apply pw_below_drewN | apply below_drew1 | refine below_set ?_ GE152.out | refine below_set ?_ GE159.out) | exact HB.out))) : w.heap.size ≤ gb168)); have n6_ := Aside0.mk ((by rw [hg]; exact (below_size (by repeat (first | (with_reducible first | exact HB.out | apply below_alloc | apply pw_below_drewN | apply below_drew1 | refine below_set ?_ GE152.out | refine below_set ?_ GE159.out) | exact HB.out))) : w.heap.size ≤ gb168)); have n7_ := Aside0.mk ((by rw [hg]; exact Nat.ne_of_lt (blk_lt (g := gb152) (o := .cells #[.int .i64 a0_0, .int .i64 a0_1, .int .i64 a0_2, .slice A0_3 l0_3.length c0_3, .int .i64 a0_4, .int .i64 a0_5, .int .i64 a0_6, .int .i64 a0_7, .int .i64 a0_8, .int .i64 a0_9, .int .i64 a0_10, .int .i64 a0_11, .int .i64 a0_12, .int .i64 a0_13, .int .i64 a0_14] 49 (0, 0)) (by (with_reducible repeat (first | refine blk_drewN ?_ _ | refine blk_drew ?_ | refine blk_alloc ?_ _)); exact BK152.out)) : gb152 ≠ gb168)); have n8_ := Aside0.mk ((by rw [hg]; exact Nat.ne_of_gt (blk_lt (g := gb152) (o := .cells #[.int .i64 a0_0, .int .i64 a0_1, .int .i64 a0_2, .slice A0_3 l0_3.length c0_3, .int .i64 a0_4, .int .i64 a0_5, .int .i64 a0_6, .int .i64 a0_7, .int .i64 a0_8, .int .i64 a0_9, .int .i64 a0_10, .int .i64 a0_11, .int .i64 a0_12, .int .i64 a0_13, .int .i64 a0_14] 49 (0, 0)) (by (with_reducible repeat (first | refine blk_drewN ?_ _ | refine blk_drew ?_ | refine blk_alloc ?_ _)); exact BK152.out)) : gb168 ≠ gb152)); have n9_ := Aside0.mk ((by rw [hg]; exact Nat.ne_of_lt (blk_lt (g := gb159) (o := .cells #[.int .i64 t153, .int .i64 t154, .int .i64 t155, .slice Ao114 t156.length co114] 45 (0, 0)) (by (with_reducible repeat (first | refine blk_drewN ?_ _ | refine blk_drew ?_ | refine blk_alloc ?_ _)); exact BK159.out)) : gb159 ≠ gb168)); have n10_ := Aside0.mk ((by rw [hg]; exact Nat.ne_of_gt (blk_lt (g := gb159) (o := .cells #[.int .i64 t153, .int .i64 t154, .int .i64 t155, .slice Ao114 t156.length co114] 45 (0, 0)) (by (with_reducible repeat (first | refine blk_drewN ?_ _ | refine blk_drew ?_ | refine blk_alloc ?_ _)); exact BK159.out)) : gb168 ≠ gb159)); clear HO158; clear BK152; clear BK159; clear HB; have HO158 := n0_; have BK152 := n1_; have BK159 := n2_; have HB := n3_; have BK168 := n4_; have GW168 := n5_; have GE168 := n6_; have NB152_168 := n7_; have NB168_152 := n8_; have NB159_168 := n9_; have NB168_159 := n10_; clear n0_ n1_ n2_ n3_ n4_ n5_ n6_ n7_ n8_ n9_ n10_; clear hb hbox hg; have hnb118 := NB168_152.out; have hnc118 := NB152_168.out; have hnb119 := NB168_159.out; have hnc119 := NB159_168.out; have hcz120_0 : w117.cell? ⟨gb168, 0, none⟩ = some (.int .i64 0) := (blk_cell BK168.out 0).trans rfl; have hcz120_1 : w117.cell? ⟨gb168, 1, none⟩ = some (.int .i64 0) := (blk_cell BK168.out 1).trans rfl; have hcz120_2 : w117.cell? ⟨gb168, 2, none⟩ = some (.int .i64 0) := (blk_cell BK168.out 2).trans rfl; have hcz120_3 : w117.cell? ⟨gb168, 3, none⟩ = some (.int .i64 0) := (blk_cell BK168.out 3).trans rfl; have hcz120_4 : w117.cell? ⟨gb168, 4, none⟩ = some (.int .i64 0) := (blk_cell BK168.out 4).trans rfl; have hcz120_5 : w117.cell? ⟨gb168, 5, none⟩ = some (.int .i64 0) := (blk_cell BK168.out 5).trans rfl; have hfz120_0 := blk_frozen BK168.out 0; have hfz120_1 := blk_frozen BK168.out 1; have hfz120_2 := blk_frozen BK168.out 2; have hfz120_3 := blk_frozen BK168.out 3; have hfz120_4 := blk_frozen BK168.out 4; have hfz120_5 := blk_frozen BK168.out 5) | (go_at_call 22; (with_reducible refine (bivouaclaw17_awake.calls k  t169 _ ?side1 A107.out).mono ?_); (case side1 => exact Tg.Tab.below HTAB.out (by repeat (first | (with_reducible first | exact HB.out | apply below_alloc | apply pw_below_drewN | apply below_drew1 | refine below_set ?_ GE152.out | refine below_set ?_ GE159.out | refine below_set ?_ GE168.out) | exact HB.out))); rintro e w121 ⟨rfl, hb⟩; have n0_ := Aside0.mk (Kd.V_below (by (with_reducible repeat (first | apply Kd.V_alloc | apply Kd.V_drewN | apply Kd.V_drew)); exact (Kd.V_mono (Kd.V_far (p := ⟨gb168, 5, none⟩) (Kd.V_far (p := ⟨gb168, 4, none⟩) (Kd.V_far (p := ⟨gb168, 3, none⟩) (Kd.V_far (p := ⟨gb168, 2, none⟩) (Kd.V_far (p := ⟨gb168, 1, none⟩) (Kd.V_far (p := ⟨gb168, 0, none⟩) (Kd.V_mono HO158.out (fun k_ hk => (⟨hk, hk.2⟩ : _ ∧ k_ ≠ gb168))) (fun _ hk => hk.2) (.int .i64 t160)) (fun _ hk => hk.2) (.int .i64 t161)) (fun _ hk => hk.2) (.int .i64 t162)) (fun _ hk => hk.2) (.int .i64 t163)) (fun _ hk => hk.2) (.int .i64 t164)) (fun _ hk => hk.2) (.int .i64 t165)) (fun _ h_ => h_.1))) hb); have n1_ := Aside0.mk (blk_below (g := gb152) (o := .cells #[.int .i64 a0_0, .int .i64 a0_1, .int .i64 a0_2, .slice A0_3 l0_3.length c0_3, .int .i64 a0_4, .int .i64 a0_5, .int .i64 a0_6, .int .i64 a0_7, .int .i64 a0_8, .int .i64 a0_9, .int .i64 a0_10, .int .i64 a0_11, .int .i64 a0_12, .int .i64 a0_13, .int .i64 a0_14] 49 (0, 0)) (by (with_reducible repeat (first | refine blk_drewN ?_ _ | refine blk_drew ?_ | refine blk_alloc ?_ _)); refine blk_far ?_ NB152_168.out _; (with_reducible repeat (first | refine blk_drewN ?_ _ | refine blk_drew ?_ | refine blk_alloc ?_ _)); refine blk_far ?_ NB152_168.out _; (with_reducible repeat (first | refine blk_drewN ?_ _ | refine blk_drew ?_ | refine blk_alloc ?_ _)); refine blk_far ?_ NB152_168.out _; (with_reducible repeat (first | refine blk_drewN ?_ _ | refine blk_drew ?_ | refine blk_alloc ?_ _)); refine blk_far ?_ NB152_168.out _; (with_reducible repeat (first | refine blk_drewN ?_ _ | refine blk_drew ?_ | refine blk_alloc ?_ _)); refine blk_far ?_ NB152_168.out _; (with_reducible repeat (first | refine blk_drewN ?_ _ | refine blk_drew ?_ | refine blk_alloc ?_ _)); refine blk_far ?_ NB152_168.out _; (with_reducible repeat (first | refine blk_drewN ?_ _ | refine blk_drew ?_ | refine blk_alloc ?_ _)); exact BK152.out) hb); have n2_ := Aside0.mk (blk_below (g := gb159) (o := .cells #[.int .i64 t153, .int .i64 t154, .int .i64 t155, .slice Ao114 t156.length co114] 45 (0, 0)) (by (with_reducible repeat (first | refine blk_drewN ?_ _ | refine blk_drew ?_ | refine blk_alloc ?_ _)); refine blk_far ?_ NB159_168.out _; (with_reducible repeat (first | refine blk_drewN ?_ _ | refine blk_drew ?_ | refine blk_alloc ?_ _)); refine blk_far ?_ NB159_168.out _; (with_reducible repeat (first | refine blk_drewN ?_ _ | refine blk_drew ?_ | refine blk_alloc ?_ _)); refine blk_far ?_ NB159_168.out _; (with_reducible repeat (first | refine blk_drewN ?_ _ | refine blk_drew ?_ | refine blk_alloc ?_ _)); refine blk_far ?_ NB159_168.out _; (with_reducible repeat (first | refine blk_drewN ?_ _ | refine blk_drew ?_ | refine blk_alloc ?_ _)); refine blk_far ?_ NB159_168.out _; (with_reducible repeat (first | refine blk_drewN ?_ _ | refine blk_drew ?_ | refine blk_alloc ?_ _)); refine blk_far ?_ NB159_168.out _; (with_reducible repeat (first | refine blk_drewN ?_ _ | refine blk_drew ?_ | refine blk_alloc ?_ _)); exact BK159.out) hb); have n3_ := Aside0.mk (blk_below (g := gb168) (o := .cells #[.int .i64 t160, .int .i64 t161, .int .i64 t162, .int .i64 t163, .int .i64 t164, .int .i64 t165] 47 (0, 0)) (by (with_reducible repeat (first | refine blk_drewN ?_ _ | refine blk_drew ?_ | refine blk_alloc ?_ _)); refine blk_put (cs := #[.int .i64 t160, .int .i64 t161, .int .i64 t162, .int .i64 t163, .int .i64 t164, .int .i64 0]) ?_ 5 _ rfl; (with_reducible repeat (first | refine blk_drewN ?_ _ | refine blk_drew ?_ | refine blk_alloc ?_ _)); refine blk_put (cs := #[.int .i64 t160, .int .i64 t161, .int .i64 t162, .int .i64 t163, .int .i64 0, .int .i64 0]) ?_ 4 _ rfl; (with_reducible repeat (first | refine blk_drewN ?_ _ | refine blk_drew ?_ | refine blk_alloc ?_ _)); refine blk_put (cs := #[.int .i64 t160, .int .i64 t161, .int .i64 t162, .int .i64 0, .int .i64 0, .int .i64 0]) ?_ 3 _ rfl; (with_reducible repeat (first | refine blk_drewN ?_ _ | refine blk_drew ?_ | refine blk_alloc ?_ _)); refine blk_put (cs := #[.int .i64 t160, .int .i64 t161, .int .i64 0, .int .i64 0, .int .i64 0, .int .i64 0]) ?_ 2 _ rfl; (with_reducible repeat (first | refine blk_drewN ?_ _ | refine blk_drew ?_ | refine blk_alloc ?_ _)); refine blk_put (cs := #[.int .i64 t160, .int .i64 0, .int .i64 0, .int .i64 0, .int .i64 0, .int .i64 0]) ?_ 1 _ rfl; (with_reducible repeat (first | refine blk_drewN ?_ _ | refine blk_drew ?_ | refine blk_alloc ?_ _)); refine blk_put (cs := #[.int .i64 0, .int .i64 0, .int .i64 0, .int .i64 0, .int .i64 0, .int .i64 0]) ?_ 0 _ rfl; (with_reducible repeat (first | refine blk_drewN ?_ _ | refine blk_drew ?_ | refine blk_alloc ?_ _)); exact BK168.out) hb); have n4_ := Aside0.mk (below_step (by repeat (first | (with_reducible first | exact HB.out | apply below_alloc | apply pw_below_drewN | apply below_drew1 | refine below_set ?_ GE152.out | refine below_set ?_ GE159.out | refine below_set ?_ GE168.out) | exact HB.out)) hb); clear HO158; clear BK152; clear BK159; clear BK168; clear HB; have HO158 := n0_; have BK152 := n1_; have BK159 := n2_; have BK168 := n3_; have HB := n4_; clear n0_ n1_ n2_ n3_ n4_; (try clear hb); (try clear hb2); (try clear hk); (try clear hi)))
        go_ret
        exact ⟨by first | rfl | (exact congrArg (fun b_ => Ending.returned (Value.bool b_)) HRES.out) | (simp [errW_none, errW_some] <;> rfl) | (simp [*, errW_none, errW_some] <;> rfl), by repeat (first | (with_reducible first | exact HB.out | apply below_alloc | apply pw_below_drewN | apply below_drew1 | refine below_set ?_ GE152.out | refine below_set ?_ GE159.out | refine below_set ?_ GE168.out) | exact HB.out)⟩
      · rw [if_neg c106] at H
        exact absurd H (by simp)
    · rw [if_neg c105] at H
      exact absurd H (by simp)
end Go.Proofs.YtbcddiaplpbhjaaDoor.MAi
namespace Go.Proofs.YtbcddiaplpbhjaaDoor.AimHits
open Go Go.RowKit Go.ChangeShapes Go.WideShapes Go.ChangeAt Go.Proofs.YtbcddiaplpbhjaaDoor.MAi Go.Proofs.YtbcddiaplpbhjaaDoor.Ap Go.Proofs.YtbcddiaplpbhjaaDoorW.PrintMore Go.Proofs.YtbcddiaplpbhjaaDoorW.PrintWords
set_option linter.unusedVariables false
set_option linter.unusedSimpArgs false
section
variable {W H Wa : Int} {l : List Int}
theorem tdiv_on {X Y Z x y sp : Int} (hA : Asked W H Wa l X Y Z x y sp) (s : Sh) (h : (fly W H Wa l s 1024 1).2.1 = 1 ∨ (fly W H Wa l s 1024 1).2.1 = 2) :
    wrap64 (Int.tdiv (fly W H Wa l s 1024 1).2.2.x 65536) = (fly W H Wa l s 1024 1).2.2.x / 65536 ∧ wrap64 (Int.tdiv (fly W H Wa l s 1024 1).2.2.y 65536) = (fly W H Wa l s 1024 1).2.2.y / 65536 := by
  have ho := on_small hA.1 (fly_on 1024 1 h)
  rw [Int.tdiv_eq_ediv_of_nonneg (by omega), Int.tdiv_eq_ediv_of_nonneg (by omega), w_in (by omega) (by omega), w_in (by omega) (by omega)]
  exact ⟨rfl, rfl⟩
set_option maxHeartbeats 1000000 in
theorem hits_l {X Y Z x y sp : Int} (hA : Asked W H Wa l X Y Z x y sp) (hl : Bytes l) {j : Int} (hj : search W H Wa l X Y Z x y sp 65 0 = some j) (W' H' Wa' : Int) (l' : List Int) (a b c k r : Int) (f : Nat) : ∀ (n : Int) (K : Nat), 0 ≤ n → n + f = j + 1 → 4 * f + 1040 < K →
    bivouaclaw17_AimHits.l0 K j n W' H' Wa' l' X Y Z a b c x y sp k r W H Wa l (shotS X Y Z x y sp j).x (shotS X Y Z x y sp j).y (shotS X Y Z x y sp j).z (shotS X Y Z x y sp j).u (shotS X Y Z x y sp j).v (shotS X Y Z x y sp j).t = some true := by
  obtain ⟨j0, j1, jh, jn⟩ := search_in 65 0 j hj
  induction f with
  | zero =>
    intro n K h0 h hK
    obtain ⟨K, rfl⟩ : ∃ m, K = ((m + 1030) + 1) + 1 := ⟨K - 1032, by omega⟩
    rw [bivouaclaw17_AimHits.l0, if_neg (by omega), bivouaclaw17_AimHits.j1, if_neg (by decide), if_pos (by omega), awake_k]
    rfl
  | succ f ih =>
    intro n K h0 h hK
    obtain ⟨K, rfl⟩ : ∃ m, K = (((m + 1030) + 1) + 1) + 1 + 1 := ⟨K - 1034, by omega⟩
    have hm := asked_may hA h0 (k := n) (by omega)
    have hs := shotS_small hm (Z := Z) ⟨hA.2.2.2.1, hA.2.2.2.2.1⟩
    have hxy := on_small hA.1 hA.2.2.1
    have tx : wrap64 (Int.tdiv x 65536) = x / 65536 := by rw [Int.tdiv_eq_ediv_of_nonneg (by omega), w_in (by omega) (by omega)]
    have ty : wrap64 (Int.tdiv y 65536) = y / 65536 := by rw [Int.tdiv_eq_ediv_of_nonneg (by omega), w_in (by omega) (by omega)]
    rw [bivouaclaw17_AimHits.l0, if_pos (by omega), decide_eq_true (by omega), bivouaclaw17_AimHits.j1, if_pos rfl, show K + 1030 + 1 + 1 = (K + 1026) + 6 from rfl, shot_f hm, Option.bind_some]
    dsimp only
    rw [show K + 1026 + 6 = (K + 2) + 1030 from rfl, fly_f hA.1 hl hs hA.2.1, Option.bind_some]
    dsimp only
    rw [tx, ty]
    have key : ∀ q : Bool, q = hit W H Wa l (shotS X Y Z x y sp n) x y →
        bivouaclaw17_AimHits.j2 (K + 2 + 1030) j n 0 0 q W' H' Wa' l' X Y Z a b c x y sp k r W H Wa l (shotS X Y Z x y sp j).x (shotS X Y Z x y sp j).y (shotS X Y Z x y sp j).z (shotS X Y Z x y sp j).u (shotS X Y Z x y sp j).v (shotS X Y Z x y sp j).t (shotS X Y Z x y sp n).x (shotS X Y Z x y sp n).y (shotS X Y Z x y sp n).z (shotS X Y Z x y sp n).u (shotS X Y Z x y sp n).v (shotS X Y Z x y sp n).t = some true := by
      intro q hq
      have hnj : q = (n == j) := by
        rw [hq]
        by_cases e : n = j
        · rw [e, jh]; simp
        · rw [jn n h0 (by omega)]; simp [e]
      rw [show K + 2 + 1030 = (K + 1030 + 1) + 1 from rfl, bivouaclaw17_AimHits.j2, if_pos rfl, if_pos rfl, if_neg (by rw [hnj]; simp)]
      by_cases e : n = j
      · rw [if_pos e, e, bivouaclaw17_AimHits.j3, if_neg (by simp), w_in (by omega) (by omega)]
        subst e
        exact ih (n + 1) (K + 1030) (by omega) (by omega) (by omega)
      · rw [if_neg e, bivouaclaw17_AimHits.j3, if_neg (by decide), w_in (by omega) (by omega)]
        exact ih (n + 1) (K + 1030) (by omega) (by omega) (by omega)
    have tow := tdiv_on hA (shotS X Y Z x y sp n)
    unfold hit at key
    generalize (fly W H Wa l (shotS X Y Z x y sp n) 1024 1) = e at tow key ⊢
    have fin : e.2.1 = 1 ∨ e.2.1 = 2 → ∀ F : Bool → Option Bool, (∀ q, q = (decide (e.2.2.x / 65536 = x / 65536) && decide (e.2.2.y / 65536 = y / 65536)) → F q = some true) →
        (if wrap64 (Int.tdiv e.2.2.x 65536) = x / 65536 then F (wrap64 (Int.tdiv e.2.2.y 65536) == y / 65536) else F false) = some true := by
      intro h F hF
      rw [(tow h).1, (tow h).2]
      by_cases q : e.2.2.x / 65536 = x / 65536
      · rw [if_pos q]; exact hF _ (by rw [decide_eq_true q, Bool.true_and]; rfl)
      · rw [if_neg q]; exact hF _ (by rw [decide_eq_false q, Bool.false_and])
    by_cases g1 : e.2.1 = 1
    · rw [if_pos g1]
      exact fin (.inl g1) _ (fun q hq => key q (by rw [hq, decide_eq_true g1]; rfl))
    · rw [if_neg g1]
      by_cases g2 : e.2.1 = 2
      · rw [if_pos g2]
        exact fin (.inr g2) _ (fun q hq => key q (by rw [hq, decide_eq_false g1, decide_eq_true g2]; rfl))
      · rw [if_neg g2]
        exact key false (by rw [decide_eq_false g1, decide_eq_false g2]; rfl)
theorem hits_pure (W H Wa X Y Z a b c x y sp k r : Int) (hl : Bytes l) : bivouaclaw17_AimHits.f 1500 W H Wa l X Y Z a b c x y sp k r = some true := by
  have hl' := few_bytes hl 4300
  unfold bivouaclaw17_AimHits.f
  rw [few_f, Option.bind_some]
  dsimp only
  rw [show 1500 = 470 + 1030 from rfl, solve_f hl', Option.bind_some, awake_k]
  dsimp only
  by_cases hA : Asked W H Wa (l.take 4300) X Y Z x y sp
  · unfold solveS
    rw [if_pos hA]
    cases hs : search W H Wa (l.take 4300) X Y Z x y sp 65 0 with
    | none => rfl
    | some j =>
      obtain ⟨j0, j1, _⟩ := search_in 65 0 j hs
      dsimp only
      rw [if_pos rfl]
      exact hits_l hA hl' hs W H Wa l a b c k r (j + 1).toNat 0 (470 + 1030) (by omega) (by omega) (by omega)
  · unfold solveS
    rw [if_neg hA]
    rfl
end
open Go.Proofs.YtbcddiaplpbhjaaDoor.Tg
theorem wf_byte {z : Int} (h : (Lit.int .u8 z).wf = true) : 0 ≤ z ∧ z ≤ 255 := by
  have h' : IntKind.u8.min ≤ z ∧ z ≤ IntKind.u8.max := by simpa [Lit.wf] using h
  exact ⟨h'.1, h'.2⟩
theorem walk (a0 a1 a2 : Int) (A : Option Addr) (c : Nat) (l : List Int) (a4 a5 a6 a7 a8 a9 a10 a11 a12 a13 a14 : Int) (w0 : (Lit.int .i64 a0).wf = true) (w1 : (Lit.int .i64 a1).wf = true) (w2 : (Lit.int .i64 a2).wf = true) {W0 : World} (hr : Kd.C (Kd.int .u8) W0 A l.length l) (hc : l.length ≤ c) (hw : ∀ z ∈ l, (Lit.int .u8 z).wf = true) (w4 : (Lit.int .i64 a4).wf = true) (w5 : (Lit.int .i64 a5).wf = true) (w6 : (Lit.int .i64 a6).wf = true) (w7 : (Lit.int .i64 a7).wf = true) (w8 : (Lit.int .i64 a8).wf = true) (w9 : (Lit.int .i64 a9).wf = true) (w10 : (Lit.int .i64 a10).wf = true) (w11 : (Lit.int .i64 a11).wf = true) (w12 : (Lit.int .i64 a12).wf = true) (w13 : (Lit.int .i64 a13).wf = true) (w14 : (Lit.int .i64 a14).wf = true) (W : World) (e0 : W0 = W) (ht : Tg.Tab W) :
    Calls Tryd.prog 11 #[.agg #[.int .i64 a0, .int .i64 a1, .int .i64 a2, .slice A l.length c, .int .i64 a4, .int .i64 a5, .int .i64 a6, .int .i64 a7, .int .i64 a8, .int .i64 a9, .int .i64 a10, .int .i64 a11, .int .i64 a12, .int .i64 a13, .int .i64 a14]] W fun e w' => e = .returned (.bool true) ∧ Below W.heap.size W w' := by
  subst e0
  exact bivouaclaw17_AimHits.calls 1500 a0 a1 a2 A c l a4 a5 a6 a7 a8 a9 a10 a11 a12 a13 a14 _ hr hc ht (hits_pure a0 a1 a2 a4 a5 a6 a7 a8 a9 a10 a11 a12 a13 a14 (fun z hz => wf_byte (hw z hz)))
theorem door_met (os : Os) (args : Array Value) : laidMetH Tryd.prog laidS ((World.doorLaid Tryd.prog 400 os).forCall (fun _ _ => 0) ⟨#[], args, []⟩).memory :=
  laidMetH_of_parts3 (fuel := 8) (laidMet_of_run' 8 (by kernel_rfl) (by kernel_rfl)) (by kernel_rfl) (by kernel_rfl)
theorem laidOut : laidOutB Tryd.prog = true := by kernel_rfl
theorem cells0 {H : Type} {enc : TypeId × Value → H} {w : World} {base : Nat} {spare : Nat → Bool} {held : Bool} {cs : Array Value} (h : gflatOk enc Tryd.prog w base spare held [.int .i64, .int .i64, .int .i64, .other 43, .int .i64, .int .i64, .int .i64, .int .i64, .int .i64, .int .i64, .int .i64, .int .i64, .int .i64, .int .i64, .int .i64] cs.toList) : ∃ (z0 : Int) (z1 : Int) (z2 : Int) (z3 : Value) (z4 : Int) (z5 : Int) (z6 : Int) (z7 : Int) (z8 : Int) (z9 : Int) (z10 : Int) (z11 : Int) (z12 : Int) (z13 : Int) (z14 : Int), cs = #[.int .i64 z0, .int .i64 z1, .int .i64 z2, z3, .int .i64 z4, .int .i64 z5, .int .i64 z6, .int .i64 z7, .int .i64 z8, .int .i64 z9, .int .i64 z10, .int .i64 z11, .int .i64 z12, .int .i64 z13, .int .i64 z14] ∧ (Lit.int .i64 z0).wf = true ∧ (Lit.int .i64 z1).wf = true ∧ (Lit.int .i64 z2).wf = true ∧ (∃ m x, DataW.trod enc Tryd.prog w base spare held m 43 [z3] = some x) ∧ (Lit.int .i64 z4).wf = true ∧ (Lit.int .i64 z5).wf = true ∧ (Lit.int .i64 z6).wf = true ∧ (Lit.int .i64 z7).wf = true ∧ (Lit.int .i64 z8).wf = true ∧ (Lit.int .i64 z9).wf = true ∧ (Lit.int .i64 z10).wf = true ∧ (Lit.int .i64 z11).wf = true ∧ (Lit.int .i64 z12).wf = true ∧ (Lit.int .i64 z13).wf = true ∧ (Lit.int .i64 z14).wf = true := by
  obtain ⟨l⟩ := cs
  replace h : gflatOk enc Tryd.prog w base spare held [.int .i64, .int .i64, .int .i64, .other 43, .int .i64, .int .i64, .int .i64, .int .i64, .int .i64, .int .i64, .int .i64, .int .i64, .int .i64, .int .i64, .int .i64] l := h
  rcases l with _ | ⟨z0, l⟩
  · exact h.elim
  obtain ⟨⟨z0, rfl, w0⟩, h⟩ := h
  rcases l with _ | ⟨z1, l⟩
  · exact h.elim
  obtain ⟨⟨z1, rfl, w1⟩, h⟩ := h
  rcases l with _ | ⟨z2, l⟩
  · exact h.elim
  obtain ⟨⟨z2, rfl, w2⟩, h⟩ := h
  rcases l with _ | ⟨z3, l⟩
  · exact h.elim
  obtain ⟨w3, h⟩ := h
  rcases l with _ | ⟨z4, l⟩
  · exact h.elim
  obtain ⟨⟨z4, rfl, w4⟩, h⟩ := h
  rcases l with _ | ⟨z5, l⟩
  · exact h.elim
  obtain ⟨⟨z5, rfl, w5⟩, h⟩ := h
  rcases l with _ | ⟨z6, l⟩
  · exact h.elim
  obtain ⟨⟨z6, rfl, w6⟩, h⟩ := h
  rcases l with _ | ⟨z7, l⟩
  · exact h.elim
  obtain ⟨⟨z7, rfl, w7⟩, h⟩ := h
  rcases l with _ | ⟨z8, l⟩
  · exact h.elim
  obtain ⟨⟨z8, rfl, w8⟩, h⟩ := h
  rcases l with _ | ⟨z9, l⟩
  · exact h.elim
  obtain ⟨⟨z9, rfl, w9⟩, h⟩ := h
  rcases l with _ | ⟨z10, l⟩
  · exact h.elim
  obtain ⟨⟨z10, rfl, w10⟩, h⟩ := h
  rcases l with _ | ⟨z11, l⟩
  · exact h.elim
  obtain ⟨⟨z11, rfl, w11⟩, h⟩ := h
  rcases l with _ | ⟨z12, l⟩
  · exact h.elim
  obtain ⟨⟨z12, rfl, w12⟩, h⟩ := h
  rcases l with _ | ⟨z13, l⟩
  · exact h.elim
  obtain ⟨⟨z13, rfl, w13⟩, h⟩ := h
  rcases l with _ | ⟨z14, l⟩
  · exact h.elim
  obtain ⟨⟨z14, rfl, w14⟩, h⟩ := h
  rcases l with _ | ⟨v, l⟩
  · exact ⟨z0, z1, z2, z3, z4, z5, z6, z7, z8, z9, z10, z11, z12, z13, z14, rfl, w0, w1, w2, w3, w4, w5, w6, w7, w8, w9, w10, w11, w12, w13, w14⟩
  · exact h.elim
set_option maxRecDepth 100000 in
theorem lifted (os : Os) (started : os.Started) (H : Type) (enc : TypeId × Value → H) :
    ReturnsInHanded {} Tryd.checked os 11 .any (fun w args => (Rows.aimHitsSpec.pre enc Tryd.prog Tryd.f11 [] false w args ∧ laidMetH Tryd.prog laidS w) ∧ sizedMet enc Tryd.prog Tryd.f11 (OpenSpec.ofChange Rows.aimHitsSpec) false w args) (Rows.aimHitsSpec.post enc Tryd.prog Tryd.f11 false true false false) := by
  refine returnsInHanded_of_change_and (C := Tryd.checked) (X := fun w _ => laidMetH Tryd.prog laidS w) (fun _ _ _ hh h => h.of_heap hh) own started (by kernel_rfl) Tryd.func11
    (ChangeSpec.witness_shaped (enc := enc) (C := Tryd.checked) (os := os) (X := fun w _ => laidMetH Tryd.prog laidS w) false (World.doorLaid Tryd.prog 400 os) #[.agg #[.int .i64 0, .int .i64 0, .int .i64 0, .slice none 0 0, .int .i64 0, .int .i64 0, .int .i64 0, .int .i64 0, .int .i64 0, .int .i64 0, .int .i64 0, .int .i64 0, .int .i64 0, .int .i64 0, .int .i64 0]] 8 rfl (World.shaped_of_RefB (by kernel_rfl) (by kernel_rfl)) (by kernel_rfl) (by kernel_rfl) (by kernel_rfl) (door_met os _)) ?_
  intro W base args ds gs before hval0 hW _ _ hL hsz0
  have hval : ∀ (j : Nat) t v, Tryd.f11.params[j]? = some t → args[j]? = some v → Value.okWide Tryd.prog W .any base t v := hval0
  have hW' := hW
  obtain ⟨p, q, hA0, hV, rfl, hfz, hnd⟩ := hW
  have hA : DataW.TrodAll enc Tryd.prog W 0 (fun _ => true) true Tryd.f11.params.toList args.toList ds p := hA0
  rw [Tryd.params11] at hA hval
  obtain ⟨v0, vs0, d0, ds0, p0, q0, hargs, rfl, rfl, h0, r0⟩ := trodAll_cons hA
  obtain ⟨rfl, rfl, rfl⟩ := trodAll_nil r0
  obtain rfl : args = #[v0] := by cases args; simp_all
  obtain ⟨rfl, rfl⟩ := trodVars_none hV
  have k0 := h0
  have lt0 : ∀ x ∈ p0, x.block < W.heap.size := by obtain ⟨m, hm⟩ := k0; exact DataW.trod_lt m _ _ _ hm
  obtain ⟨cs0, rfl, hf0⟩ := gopen_flat (n := 6) (by kernel_rfl) Tryd.underlying49 (hval 0 49 v0 rfl rfl) h0
  obtain ⟨a0_0, a0_1, a0_2, a0_3, a0_4, a0_5, a0_6, a0_7, a0_8, a0_9, a0_10, a0_11, a0_12, a0_13, a0_14, rfl, w0_0, w0_1, w0_2, w0_3, w0_4, w0_5, w0_6, w0_7, w0_8, w0_9, w0_10, w0_11, w0_12, w0_13, w0_14⟩ := cells0 hf0
  obtain ⟨m0_3, x0_3, hm0_3⟩ := w0_3
  obtain ⟨A0_3, c0_3, l0_3, rfl, hc0_3, hr0_3, hw0_3⟩ := gslice_ints Tryd.underlying43 Tryd.underlying5 (by kernel_rfl) hm0_3
  clear hA0 hval0
  refine (walk a0_0 a0_1 a0_2 A0_3 c0_3 l0_3 a0_4 a0_5 a0_6 a0_7 a0_8 a0_9 a0_10 a0_11 a0_12 a0_13 a0_14 w0_0 w0_1 w0_2 hr0_3 hc0_3 hw0_3 w0_4 w0_5 w0_6 w0_7 w0_8 w0_9 w0_10 w0_11 w0_12 w0_13 w0_14 W rfl (tab_of_laid hL)).mono fun e W' ⟨he, hb⟩ => ?_
  subst he
  exact ⟨_, rfl, _, _, _, [], _, [], hW', trodAll_cons_mk (shut_bool Tryd.underlying4 _) trodAll_mk0, (trodAll_cons_mk (Below.trod laidOut (by kernel_rfl) (of_decide_eq_true (by kernel_rfl)) k0 hb lt0) trodAll_mk0), rfl, hb.frame _, fun h => by cases h⟩
theorem proved : Rows.AimHitsSaid :=
  OpenClaim.holds_of_wide 11 Tryd.f11 rfl rfl rfl rfl rfl rfl rfl ⟨rfl, rfl, rfl, rfl, rfl⟩ rfl rfl rfl rfl rfl (by kernel_rfl) Tryd.func11 (by kernel_rfl)
    (of_decide_eq_true (by kernel_rfl)) (by unfold Func.isWrapper; first | (rw [if_pos (by decide +kernel)]; kernel_rfl) | (rw [if_neg (by decide +kernel)]; exact ⟨rfl, rfl⟩))
    (fun os started H enc _ => lifted os started H enc)
theorem card_proved : Rows.AimHitsCardSaid :=
  Claim7.holds_tied_plain_at .later [] [.data] true (true, _) false
    proved (fun _ h => by cases h) (by kernel_rfl) (fun _ h => by cases h) aimHits_row_tie rfl ⟨rfl, rfl⟩ (by kernel_rfl) rfl
    (fun f fn hf hfn => by
      obtain rfl : f = 11 := Option.some.inj ((show Tryd.prog.funcNamed "bivouac/bivouaclaw17.AimHits" = some 11 by kernel_rfl).symm.trans hf) |>.symm
      obtain rfl : fn = Tryd.f11 := (Option.some.inj (Tryd.func11.symm.trans hfn)).symm
      exact ⟨by kernel_rfl, fun j t ht => by
        rw [Tryd.params11] at ht
        have hm : t ∈ [49] := by simpa using Array.mem_of_getElem? ht
        have hall : ([49].all fun u => !Tryd.prog.wantsStandIn u) = true := by kernel_rfl
        exact (show Tryd.prog.wantsStandIn t = false by simpa using List.all_eq_true.1 hall t hm)⟩)
    (by kernel_rfl)
#print axioms card_proved
end Go.Proofs.YtbcddiaplpbhjaaDoor.AimHits
