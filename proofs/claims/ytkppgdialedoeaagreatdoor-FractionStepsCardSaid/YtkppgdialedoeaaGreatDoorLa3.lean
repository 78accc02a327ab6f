/-
  The abstract machine, part 25: the equations by which code is evaluated, joined: those that are read on the way down, and those that are read on the way up.
-/
import Derived.Test.YtkppgdialedoeaaGreatDoorLa2
import Derived.ProofKit
import Derived.OpenShut
import Derived.Below
import Derived.Lib.LaidU8
import Derived.Deep.DeepHandedRow
import Derived.Deep.DeepWitnessRowRef
import Derived.Laws.RangeAny
set_option linter.all false

namespace Go.Abs
open Go
set_option linter.defProp false in
def awU :=
 (And.intro
 (And.intro
 (And.intro
 (And.intro
 (And.intro @Go.Abs.awp_skip @Go.Abs.awp_region)
 (And.intro @Go.Abs.awp_seq
 (And.intro @Go.Abs.awp_condC @Go.Abs.Br_not)))
 (And.intro
 (And.intro @Go.Abs.Bn_not @Go.Abs.awp_block)
 (And.intro @Go.Abs.awp_loop
 (And.intro @Go.Abs.awp_exit @Go.Abs.awp_scope))))
 (And.intro
 (And.intro
 (And.intro @Go.Abs.awp_label @Go.Abs.awp_ret)
 (And.intro @Go.Abs.ThenC_normal
 (And.intro @Go.Abs.ThenC_exit @Go.Abs.ThenC_ret)))
 (And.intro
 (And.intro @Go.Abs.RoundQ_normal @Go.Abs.RoundQ_exit)
 (And.intro @Go.Abs.RoundQ_ret
 (And.intro @Go.Abs.ablock_normal @Go.Abs.ablock_ret)))))
 (And.intro
 (And.intro
 (And.intro
 (And.intro @Go.Abs.ablock_eq @Go.Abs.ablock_ne)
 (And.intro @Go.Abs.ascope_normal
 (And.intro @Go.Abs.ascope_ret @Go.Abs.ascope_exit)))
 (And.intro
 (And.intro @Go.Abs.DK_eq @opK.eq_def)
 (And.intro @moveK.eq_def
 (And.intro @buildsK.eq_def @makesK.eq_def))))
 (And.intro
 (And.intro
 (And.intro @callsK.eq_def @Go.Abs.PureRet.eq_1)
 (And.intro @Go.Abs.getD_8
 (And.intro @Go.Abs.set_8 @Go.Abs.getD_32)))
 (And.intro
 (And.intro @Go.Abs.set_32
 (And.intro @Go.Abs.CutQ_normal @Go.Abs.CutQ_exit))
 (And.intro @Go.Abs.CutQ_ret
 (And.intro @Go.Abs.retPost_ret @Go.Abs.retPost_normal))))))
set_option linter.defProp false in
def awV :=
 (And.intro
 (And.intro
 (And.intro
 (And.intro
 (And.intro
 (And.intro
 (And.intro
 (And.intro @Go.Abs.CondC_tt @Go.Abs.CondC_ff)
 (And.intro @Go.Abs.Bn_true
 (And.intro @Go.Abs.Bn_false @Go.Abs.Bn_tt)))
 (And.intro
 (And.intro @Go.Abs.Bn_ff
 (And.intro @Go.Abs.Br_tt @Go.Abs.Br_ff))
 (And.intro @Go.Abs.Br_true
 (And.intro @Go.Abs.Br_false @Go.Abs.Ob_true))))
 (And.intro
 (And.intro
 (And.intro @Go.Abs.Ob_triv @Go.Abs.CondC_dec)
 (And.intro @Go.Abs.CondC_not
 (And.intro @Go.Abs.CondC_beq @Go.Abs.GuardC_tt)))
 (And.intro
 (And.intro @Go.Abs.GuardC_tf
 (And.intro @Go.Abs.GuardC_ff @Go.Abs.GuardC_ft))
 (And.intro @Go.Abs.GuardC_dect
 (And.intro @Go.Abs.GuardC_decf @Go.Abs.GuardC_beqt)))))
 (And.intro
 (And.intro
 (And.intro
 (And.intro @Go.Abs.GuardC_beqf @Go.Abs.regK_nil)
 (And.intro @Go.Abs.regK_cons
 (And.intro @Go.Abs.operC_none @Go.Abs.operC_some)))
 (And.intro
 (And.intro @Go.Abs.OpC_mk
 (And.intro @Go.Abs.GuardC_dead @sealK.eq_def))
 (And.intro @Go.Abs.markK.eq_1
 (And.intro @Go.Abs.markK.eq_2 @Go.Abs.buildBoxK_eq))))
 (And.intro
 (And.intro
 (And.intro @Go.Abs.makeBoxK_eq @appendBoxK.eq_def)
 (And.intro @Go.Abs.putA.eq_1
 (And.intro @Go.Abs.putA.eq_2 @Go.Abs.applyW.eq_1)))
 (And.intro
 (And.intro @Go.Abs.applyW.eq_2
 (And.intro @Go.Abs.wOK.eq_1 @Go.Abs.wOK.eq_2))
 (And.intro @Go.Abs.evalA.eq_1
 (And.intro @Go.Abs.evalA.eq_2 @Go.Abs.evalA.eq_3))))))
 (And.intro
 (And.intro
 (And.intro
 (And.intro
 (And.intro @Go.Abs.evalA.eq_4 @List.length_cons.{0})
 (And.intro @List.length_nil.{0}
 (And.intro @List.replicate.eq_1.{0} @List.replicate.eq_2.{0})))
 (And.intro
 (And.intro @List.cons_append.{0}
 (And.intro @List.nil_append.{0} @List.set_cons_zero.{0}))
 (And.intro @List.set_cons_succ.{0}
 (And.intro @List.getD_cons_zero.{0} @List.getD_cons_succ.{0}))))
 (And.intro
 (And.intro
 (And.intro @lenK.eq_def @Go.Abs.binK_eq)
 (And.intro @intK.eq_def
 (And.intro @shiftK.eq_def @strK.eq_def)))
 (And.intro
 (And.intro @Go.Abs.indexAddrK_eq
 (And.intro @indexK.eq_def @loadK.eq_def))
 (And.intro @storeK.eq_def
 (And.intro @Go.Abs.mkA.eq_1 @Go.Abs.mkD.eq_1)))))
 (And.intro
 (And.intro
 (And.intro
 (And.intro @Bool.false_eq_true @Bool.true_eq_false)
 (And.intro @false_implies
 (And.intro @true_and @and_true)))
 (And.intro
 (And.intro @if_true.{1}
 (And.intro @if_false.{1} @List.map_nil.{0,0}))
 (And.intro @List.map_cons.{0,0}
 (And.intro @Nat.mul_one @Go.Abs.resVs.eq_1))))
 (And.intro
 (And.intro
 (And.intro @Go.Abs.resVs.eq_2
 (And.intro @Go.Abs.resV.eq_1 @Go.Abs.resV.eq_2))
 (And.intro @Go.Abs.sealA.eq_1
 (And.intro @Go.Abs.sealA.eq_2 @Go.Abs.sealA.eq_3)))
 (And.intro
 (And.intro @Go.Abs.sealA.eq_4
 (And.intro @Go.Abs.sealA.eq_5 @Go.Abs.sealA.eq_6))
 (And.intro @Go.Abs.sealA.eq_7
 (And.intro @Go.Abs.sealA.eq_8 @Go.Abs.sealA.eq_9)))))))
 (And.intro
 (And.intro
 (And.intro
 (And.intro
 (And.intro
 (And.intro @Go.Abs.sealL.eq_1 @Go.Abs.sealL.eq_2)
 (And.intro @Go.Abs.idsL.eq_1
 (And.intro @Go.Abs.idsL.eq_2 @Go.Abs.frz.eq_1)))
 (And.intro
 (And.intro @Go.Abs.frz.eq_2
 (And.intro @allocK.eq_def @boxK.eq_def))
 (And.intro @pickK.eq_def
 (And.intro @convK.eq_def @unK.eq_def))))
 (And.intro
 (And.intro
 (And.intro @nilCheckK.eq_def @fieldAddrK.eq_def)
 (And.intro @fieldK.eq_def
 (And.intro @partAV.eq_def @partD.eq_def)))
 (And.intro
 (And.intro @extractK.eq_def
 (And.intro @buildK.eq_def @Go.Abs.buildSliceK_eq))
 (And.intro @Go.Abs.zerosF.eq_1
 (And.intro @Go.Abs.zerosF.eq_2 @Nat.zero_mod)))))
 (And.intro
 (And.intro
 (And.intro
 (And.intro @makeSliceK.eq_def @appendK.eq_def)
 (And.intro @Go.Abs.mmK_2
 (And.intro @Go.Abs.sliceK_eq @Go.Abs.bnd.eq_1)))
 (And.intro
 (And.intro @Go.Abs.bnd.eq_2
 (And.intro @Go.Abs.callK_list @CallB.eq_def))
 (And.intro @Go.Abs.passIds.eq_1
 (And.intro @Go.Abs.refsL.eq_1 @Go.Abs.refsL.eq_2))))
 (And.intro
 (And.intro
 (And.intro @Go.Abs.refsIn.eq_1 @Go.Abs.refsIn.eq_2)
 (And.intro @Go.Abs.dedup.eq_1
 (And.intro @Go.Abs.dedup.eq_2 @Go.Abs.passL.eq_1)))
 (And.intro
 (And.intro @Go.Abs.passL.eq_2
 (And.intro @Go.Abs.passA.eq_1 @Go.Abs.passA.eq_2))
 (And.intro @Go.Abs.passA.eq_3
 (And.intro @Go.Abs.passA.eq_4 @Go.Abs.passA.eq_5))))))
 (And.intro
 (And.intro
 (And.intro
 (And.intro
 (And.intro @Go.Abs.passA.eq_6 @Go.Abs.passA.eq_7)
 (And.intro @Go.Abs.passA.eq_8
 (And.intro @Go.Abs.passA.eq_9 @Go.Abs.passBs.eq_1)))
 (And.intro
 (And.intro @Go.Abs.passBs.eq_2
 (And.intro @Go.Abs.sidsL.eq_1 @Go.Abs.sidsL.eq_2))
 (And.intro @Go.Abs.sidsA.eq_1
 (And.intro @Go.Abs.sidsA.eq_2 @Go.Abs.sidsA.eq_3))))
 (And.intro
 (And.intro
 (And.intro @Go.Abs.sidsA.eq_4 @Go.Abs.sidsA.eq_5)
 (And.intro @Go.Abs.sidsA.eq_6
 (And.intro @Go.Abs.sidsA.eq_7 @Go.Abs.sidsA.eq_8)))
 (And.intro
 (And.intro @Go.Abs.sidsA.eq_9
 (And.intro @Go.Abs.sidsBs.eq_1 @Go.Abs.sidsBs.eq_2))
 (And.intro @Go.Abs.callEff.eq_1
 (And.intro @Go.Abs.dropE.eq_1 @Go.Abs.dropW.eq_1)))))
 (And.intro
 (And.intro
 (And.intro
 (And.intro @Go.Abs.dropW.eq_2 @Go.Abs.outW.eq_1)
 (And.intro @Go.Abs.outW.eq_2
 (And.intro @Option.getD_some.{0} @Option.getD_none.{0})))
 (And.intro
 (And.intro @Go.Abs.outN.eq_1
 (And.intro @Go.Abs.renA.eq_1 @Go.Abs.renA.eq_2))
 (And.intro @Go.Abs.renA.eq_3
 (And.intro @Go.Abs.renA.eq_4 @Go.Abs.renA.eq_5))))
 (And.intro
 (And.intro
 (And.intro @Go.Abs.renA.eq_6
 (And.intro @Go.Abs.renA.eq_7 @Go.Abs.renA.eq_8))
 (And.intro @Go.Abs.renA.eq_9
 (And.intro @Go.Abs.renL.eq_1 @Go.Abs.renL.eq_2)))
 (And.intro
 (And.intro @Go.Abs.renB.eq_1
 (And.intro @Go.Abs.renB.eq_2 @Go.Abs.renB.eq_3))
 (And.intro @Go.Abs.renB.eq_4
 (And.intro @Go.Abs.renB.eq_5 @Go.Abs.guardSlot_list))))))))
 (And.intro
 (And.intro
 (And.intro
 (And.intro
 (And.intro
 (And.intro
 (And.intro @List.append_nil.{0} @List.getElem?_cons_zero.{0})
 (And.intro @List.getElem?_cons_succ.{0}
 (And.intro @List.getElem?_nil.{0} @List.all_cons.{0})))
 (And.intro
 (And.intro @List.all_nil.{0}
 (And.intro @List.isEmpty_nil.{0} @List.isEmpty_cons.{0}))
 (And.intro @Bool.and_true
 (And.intro @Bool.true_and @Bool.and_false))))
 (And.intro
 (And.intro
 (And.intro @Bool.false_and @Option.bind_some.{0,0})
 (And.intro @Option.bind_none.{0,0}
 (And.intro @Option.some.injEq.{0} @Go.Abs.AV.d.injEq)))
 (And.intro
 (And.intro @Go.Abs.D.int.injEq
 (And.intro @Go.Abs.D.bool.injEq @Go.Abs.partsA.eq_1))
 (And.intro @Go.Abs.partsA.eq_2
 (And.intro @Go.Abs.fillA.eq_1 @Go.Abs.fillA.eq_2)))))
 (And.intro
 (And.intro
 (And.intro
 (And.intro @Go.Abs.structPlace.eq_1 @List.take_zero.{0})
 (And.intro @List.drop_zero.{0}
 (And.intro @List.drop_succ_cons.{0} @List.take_succ_cons.{0})))
 (And.intro
 (And.intro @List.take_nil.{0}
 (And.intro @List.drop_nil.{0} @Option.map_some.{0,0}))
 (And.intro @Option.map_none.{0,0}
 (And.intro @Option.isSome_some.{0} @Option.isSome_none.{0}))))
 (And.intro
 (And.intro
 (And.intro @Option.isNone_none.{0} @Option.isNone_some.{0})
 (And.intro @Nat.zero_add
 (And.intro @Nat.add_zero @Nat.zero_mul)))
 (And.intro
 (And.intro @List.contains_nil.{0}
 (And.intro @Bool.not_false @Bool.not_true))
 (And.intro @List.flatMap_nil.{0,0}
 (And.intro @Nat.lt_irrefl @Nat.le_refl))))))
 (And.intro
 (And.intro
 (And.intro
 (And.intro
 (And.intro @Nat.not_lt_zero @List.toList_toArray.{0})
 (And.intro @BEq.rfl.{0}
 (And.intro @List.length_map.{0,0} @Go.Abs.unf_int)))
 (And.intro
 (And.intro @Go.Abs.unf_bool
 (And.intro @Go.Abs.unf_str @Go.Abs.unf_sl))
 (And.intro @Go.Abs.unf_agg
 (And.intro @Go.Abs.unf_tup @Go.Abs.unf1_agg))))
 (And.intro
 (And.intro
 (And.intro @Go.Abs.unf1_int @Go.Abs.unf1_bool)
 (And.intro @Go.Abs.unf1_str
 (And.intro @Go.Abs.unf1_sl @Go.Abs.unf0_int)))
 (And.intro
 (And.intro @Go.Abs.unf0_bool
 (And.intro @Go.Abs.unf0_str @Go.Abs.unf0_sl))
 (And.intro @Go.Abs.unf0_nilp
 (And.intro @Go.Abs.unf_nilp @Go.Abs.sealR.eq_1)))))
 (And.intro
 (And.intro
 (And.intro
 (And.intro @Go.Abs.wr_i64 @Go.Abs.wr_i32)
 (And.intro @Go.Abs.wr_u64
 (And.intro @Go.Abs.wr_u32 @Go.Abs.wr_u8)))
 (And.intro
 (And.intro @Go.Abs.c_lt
 (And.intro @Go.Abs.c_le @Go.Abs.c_nlt))
 (And.intro @Go.Abs.c_nle
 (And.intro @Go.Abs.n_lt @Go.Abs.n_le))))
 (And.intro
 (And.intro
 (And.intro @Go.Abs.n_nlt
 (And.intro @Go.Abs.n_nle @Go.Abs.ints_length))
 (And.intro @Go.Abs.ints_getD
 (And.intro @Go.Abs.cut_ints @Go.Abs.ints_take)))
 (And.intro
 (And.intro @decide_eq_true_eq
 (And.intro @decide_eq_false_iff_not @beq_iff_eq.{0}))
 (And.intro @List.length_take.{0}
 (And.intro @List.length_drop.{0} @Go.Abs.toNat_cast)))))))
 (And.intro
 (And.intro
 (And.intro
 (And.intro
 (And.intro
 (And.intro @Nat.sub_zero @Int.toNat_zero)
 (And.intro @Go.Abs.ints_set
 (And.intro @Go.Abs.nats_length @Go.Abs.nats_getD)))
 (And.intro
 (And.intro @Go.Abs.cut_nats
 (And.intro @Go.Abs.nats_take @Go.Abs.nats_drop))
 (And.intro @Go.Abs.nats_set
 (And.intro @Go.Abs.nats_append @Go.Abs.nats_push))))
 (And.intro
 (And.intro
 (And.intro @decide_true @decide_false)
 (And.intro @ite_true.{1}
 (And.intro @ite_false.{1} @beq_eq_false_iff_ne.{0})))
 (And.intro
 (And.intro @bne_eq_false_iff_eq.{0}
 (And.intro @ne_eq.{1} @bne_iff_ne.{0}))
 (And.intro @List.length_set.{0}
 (And.intro @List.length_append.{0} @Int.natCast_nonneg)))))
 (And.intro
 (And.intro
 (And.intro
 (And.intro @Go.IntKind.bits.eq_1 @Go.IntKind.bits.eq_2)
 (And.intro @Go.IntKind.bits.eq_3
 (And.intro @Go.IntKind.bits.eq_4 @Go.IntKind.bits.eq_5)))
 (And.intro
 (And.intro @Go.IntKind.bits.eq_6
 (And.intro @Go.IntKind.bits.eq_7 @Go.IntKind.bits.eq_8))
 (And.intro @Go.IntKind.max.eq_1
 (And.intro @Go.Abs.fdiv_pos @Nat.min_eq_left))))
 (And.intro
 (And.intro
 (And.intro @Nat.min_eq_right
 (And.intro @Go.Abs.zeros_nats @Go.Abs.mx_nat))
 (And.intro @Go.Abs.mn_nat
 (And.intro @Go.Abs.cut_one @Go.Abs.idx_nil)))
 (And.intro
 (And.intro @Go.Abs.n_eq
 (And.intro @Go.Abs.n_ne @Go.Abs.c_eqt))
 (And.intro @Go.Abs.c_eq
 (And.intro @List.take_of_length_le.{0} @List.not_mem_nil.{0}))))))
 (And.intro
 (And.intro
 (And.intro
 (And.intro
 (And.intro @not_false_eq_true @Go.Abs.cast_add)
 (And.intro @Go.Abs.cast_add1
 (And.intro @Go.Abs.cast_mul @Go.Abs.keepA_nil)))
 (And.intro
 (And.intro @Go.Abs.keepA_z8
 (And.intro @Go.Abs.keepA_z @Go.Abs.keepA_cons))
 (And.intro @Go.Abs.setsA_nil
 (And.intro @Go.Abs.setsA_cons @Go.Abs.cast_pred))))
 (And.intro
 (And.intro
 (And.intro @Go.Abs.cast_zero @Go.Abs.ibeq)
 (And.intro @Go.Abs.ibne
 (And.intro @Go.Abs.sbeq @Go.Abs.sbne)))
 (And.intro
 (And.intro @Go.Abs.bbeq
 (And.intro @Go.Abs.bbne @not_true_eq_false))
 (And.intro @Classical.not_not
 (And.intro @Go.Abs.cast_sub2 @Go.Abs.binC_t)))))
 (And.intro
 (And.intro
 (And.intro
 (And.intro @Go.Abs.binC_f @Go.Abs.idx_hit)
 (And.intro @Go.Abs.idx_miss
 (And.intro @Go.Abs.passB.eq_1 @Go.Abs.passB.eq_2)))
 (And.intro
 (And.intro @Go.Abs.passB.eq_3
 (And.intro @Go.Abs.passB.eq_4 @Go.Abs.passB.eq_5))
 (And.intro @List.contains_cons.{0}
 (And.intro @Bool.or_false @Bool.false_or))))
 (And.intro
 (And.intro
 (And.intro @Bool.or_true
 (And.intro @Bool.true_or @true_or))
 (And.intro @or_true
 (And.intro @Go.Abs.ndec @Int.natAbs_natCast)))
 (And.intro
 (And.intro @lookupK.eq_def
 (And.intro @updateK.eq_def @makeMapK.eq_def))
 (And.intro @rangeK.eq_def
 (And.intro @nextK.eq_def @Go.Abs.isKeyD.eq_1)))))))))
set_option linter.defProp false in
def awL :=
 (And.intro (And.intro (And.intro @List.length_take.{0} @List.length_drop.{0}) (And.intro @List.length_set.{0} @List.length_append.{0})) (And.intro (And.intro @List.length_replicate.{0} @List.length_cons.{0}) (And.intro @List.length_nil.{0} (And.intro @ints_length @nats_length))))
end Go.Abs

/-
  The abstract machine, part 26: from a contract to a law's statement.
-/
namespace Go.Abs
open Go Go.RowKit Go.ChangeShapes

/-- All that memory holds. -/
def heldW (W : World) : Held := fun b o => W.cell? ⟨b, o, none⟩
/-- The listed variables hold what the contract was told. -/
def GlobOK (G : Globals) (W : World) : Prop := ∀ g ds, G g = some ds → ∃ vs : Nat → Value, (∀ (i : Nat) x, ds[i]? = some x → heldW W g i = some (vs i)) ∧ (∀ (i : Nat) x, ds[i]? = some x → RD (heldW W) (vs i) x)
theorem Ctr.law {P : Program} {G : Globals} {f : FuncId} {avs : List AV} (hc : Ctr P G f avs [] (.d (.bool true)) []) {W : World} {args : Array Value} (hg : GlobOK G W) (ha : RL (heldW W) (fun _ => none) args avs) :
    Calls P f args W fun e W' => e = .returned (.bool true) ∧ Below W.heap.size W W' := by
  have s : Sim G (heldW W) (fun _ => none) (hp []) W := ⟨fun _ _ _ e => e, hg, (fun i b e => by simp [hp] at e), (fun i g S e => by cases e), (fun i j g S S' e => by cases e)⟩
  refine (hc.2 _ _ W args s ha).mono ?_
  rintro e W' ⟨v, h', ρ', rfl, _, r, t⟩
  exact ⟨by rw [r.bool_inv], t.os, t.tape, t.output, t.size, fun k hk => t.keep k hk (fun i S e => by cases e)⟩
theorem RL.nil {h : Held} {ρ : Place} : RL h ρ #[] [] := ⟨rfl, by simp⟩
theorem RL.of_list {h : Held} {ρ : Place} : ∀ {vs : List Value} {xs : List AV}, vs.length = xs.length → (∀ (i : Nat) v x, vs[i]? = some v → xs[i]? = some x → R h ρ v x) → RL h ρ vs.toArray xs :=
  fun hl hr => ⟨by simpa using hl, fun i v x hv hx => hr i v x (by simpa using hv) hx⟩
theorem RL.one {h : Held} {ρ : Place} {v : Value} {x : AV} (r : R h ρ v x) : RL h ρ #[v] [x] := .of_list rfl fun i v x hv hx => by
  rcases i with _ | i
  · simp at hv hx; subst hv; subst hx; exact r
  · simp at hv
theorem RL.two {h : Held} {ρ : Place} {v v2 : Value} {x x2 : AV} (r : R h ρ v x) (r2 : R h ρ v2 x2) : RL h ρ #[v, v2] [x, x2] := .of_list rfl fun i v x hv hx => by
  rcases i with _ | _ | i
  · simp at hv hx; subst hv; subst hx; exact r
  · simp at hv hx; subst hv; subst hx; exact r2
  · simp at hv
theorem RL.three {h : Held} {ρ : Place} {v v2 v3 : Value} {x x2 x3 : AV} (r : R h ρ v x) (r2 : R h ρ v2 x2) (r3 : R h ρ v3 x3) : RL h ρ #[v, v2, v3] [x, x2, x3] := .of_list rfl fun i v x hv hx => by
  rcases i with _ | _ | _ | i
  · simp at hv hx; subst hv; subst hx; exact r
  · simp at hv hx; subst hv; subst hx; exact r2
  · simp at hv hx; subst hv; subst hx; exact r3
  · simp at hv
theorem RL.four {h : Held} {ρ : Place} {v v2 v3 v4 : Value} {x x2 x3 x4 : AV} (r : R h ρ v x) (r2 : R h ρ v2 x2) (r3 : R h ρ v3 x3) (r4 : R h ρ v4 x4) : RL h ρ #[v, v2, v3, v4] [x, x2, x3, x4] := .of_list rfl fun i v x hv hx => by
  rcases i with _ | _ | _ | _ | i
  · simp at hv hx; subst hv; subst hx; exact r
  · simp at hv hx; subst hv; subst hx; exact r2
  · simp at hv hx; subst hv; subst hx; exact r3
  · simp at hv hx; subst hv; subst hx; exact r4
  · simp at hv
/-- A slice of numbers that came in. -/
theorem RD_ints {W : World} {a : Addr} {len cap : Nat} {zs : List Int} {k : IntKind} (hl : len ≤ cap) (hz : len ≤ zs.length) (hc : ∀ i, i < zs.length → W.cell? (a.add i) = some (.int k (zs.getD i 0))) :
    RD (heldW W) (.slice (some a) len cap) (.sl len false (ints k (zs.take len))) ∨ len = 0 := by
  rcases Nat.eq_zero_or_pos len with h0 | h0
  · exact .inr h0
  · left
    obtain ⟨b, off, spot⟩ := a
    have h1 := hc 0 (by omega)
    have hs : spot = none := by simpa [Addr.add] using World.cell?_spot h1
    subst hs
    refine .sl b off len cap false _ (fun i => .int k (zs.getD i 0)) hl (fun h => by cases h) (fun i x hx => ?_) (fun i x hx => ?_) (fun i x hx => ?_)
    · have hi : i < len := by have := (List.getElem?_eq_some_iff.1 hx).1; simp [ints] at this; omega
      have := hc i (by omega)
      have e : Addr.add ⟨b, off, none⟩ i = ⟨b, off + i, none⟩ := by unfold Addr.add; split <;> simp_all
      rw [e] at this
      exact this
    · have hi : i < len := by have := (List.getElem?_eq_some_iff.1 hx).1; simp [ints] at this; omega
      simp only [ints, List.getElem?_map, List.getElem?_take, if_pos hi] at hx
      cases hzi : zs[i]? with
      | none => simp [hzi] at hx
      | some z => simp [hzi] at hx; subst hx; rw [List.getD_eq_getElem?_getD, hzi]; exact .int _ _
    · simp only [ints, List.getElem?_map] at hx
      cases hzi : (zs.take len)[i]? with
      | none => simp [hzi] at hx
      | some z => simp [hzi] at hx; subst hx; rfl
/-- The list of numbers that an argument holds. -/
theorem open_list {H : Type} {enc : TypeId × Value → H} {P : Program} {W : World} {base : Nat} {held : Bool} {t e : TypeId} {k : IntKind} {fuel : Nat} {v : Value} {x : DataW H × List MemPlace} (ht : P.underlying t = some (.slice e)) (he : P.underlying e = some (.int k)) (hc : P.cellsOf e = 1)
    (hv : ∃ a n c, v = .slice a n c) (h : DataW.trod enc P W base (fun _ => true) held fuel t v.cells.toList = some x) :
    ∃ l : List Int, R (heldW W) (fun _ => none) v (.d (.sl l.length false (ints k l))) ∧ (∀ n ∈ l, (Lit.int k n).wf = true) ∧ l.length ≤ maxLen := by
  obtain ⟨a, n, c, rfl⟩ := hv
  rcases open_ints ht he hc h with ⟨hcs, _⟩ | ⟨x, l, cp, zs, hcs, _, hl, hm, hz, _, hcell, hwz⟩
  · simp [Value.cells] at hcs
    obtain ⟨rfl, rfl, rfl⟩ := hcs
    exact ⟨[], .d _ _ (.sl0 _ _), by simp, by simp⟩
  · simp [Value.cells] at hcs
    obtain ⟨rfl, rfl, rfl⟩ := hcs
    have hz : zs.length = c := by simpa using hz
    have lt : (zs.take n).length = n := by rw [List.length_take]; omega
    rcases RD_ints hl (by omega) hcell with hr | h0
    · exact ⟨zs.take n, by rw [lt]; exact .d _ _ hr, fun n hn => hwz n (List.mem_of_mem_take hn), by rw [lt]; omega⟩
    · subst h0
      refine ⟨[], ?_, by simp, by simp⟩
      rcases Nat.eq_zero_or_pos c with h1 | h1
      · subst h1; exact .d _ _ (.sl0 _ _)
      · obtain ⟨b, off, spot⟩ := x
        have hs : spot = none := by simpa [Addr.add] using World.cell?_spot (hcell 0 (by omega))
        subst hs
        exact .d _ _ (.sl b off 0 c false _ (fun _ => undef) (by omega) (fun h => by cases h) (by simp [ints]) (by simp [ints]) (by simp [ints]))
end Go.Abs

/-
  The abstract machine, part 27: a contract over `Calls` of a function that changes nothing of what was there, as a contract of the machine.
-/
namespace Go.Abs
open Go Go.RowKit
/-- What is held: as before, and all that is new. -/
def heldUp (h : Held) (w w' : World) : Held := fun b o => if b < w.heap.size then h b o else w'.cell? ⟨b, o, none⟩
theorem heldUp_le {G : Globals} {h : Held} {ρ : Place} {H : Heap} {w w' : World} (s : Sim G h ρ H w) : h.le (heldUp h w w') := fun b o v e => by
  have := s.held_lt e
  simp only [heldUp, if_pos this]
  exact e
theorem Ctr.of_calls {P : Program} {G : Globals} {f : FuncId} {args : List AV} {d : D} (hg : goFn P f = true)
    (hc : ∀ (h : Held) (ρ : Place) (w : World) (vs : Array Value), Sim G h ρ (hp []) w → RL h ρ vs args → Calls P f vs w fun e w' => ∃ v, e = .returned v ∧ RD (heldUp h w w') v d ∧ Below w.heap.size w w') :
    Ctr P G f args [] (.d d) [] := by
  refine ⟨hg, fun h ρ w vs s r => (hc h ρ w vs s r).mono ?_⟩
  rintro e w' ⟨v, rfl, hv, b⟩
  have hle : h.le (heldUp h w w') := heldUp_le s
  have hcell : ∀ (g o : Nat), g < w.heap.size → w'.cell? ⟨g, o, none⟩ = w.cell? ⟨g, o, none⟩ := fun g o hl => by simp [World.cell?, b.block g hl]
  refine ⟨v, heldUp h w w', ρ, rfl, ⟨fun g o u e => ?_, fun g ds e => ?_, fun i b e => by simp [hp] at e, fun i g S e => ?_, fun i j g S S' e => ?_⟩, .d _ _ hv, b.os, b.tape, b.output, b.size, fun k hk _ => b.block k hk, hle, fun k hk _ o => by simp only [heldUp, if_pos hk], Place.le_refl _, fun i g S e => .inl ⟨i, S, e⟩⟩
  · by_cases hl : g < w.heap.size
    · simp only [heldUp, if_pos hl] at e
      rw [hcell g o hl]
      exact s.prom g o u e
    · simpa only [heldUp, if_neg hl] using e
  · obtain ⟨us, h1, h2⟩ := s.glob g ds e
    exact ⟨us, fun i x e => hle _ _ _ (h1 i x e), fun i x e => (h2 i x e).mono hle⟩
  · obtain ⟨_, b, hb⟩ := s.dom i g S e
    simp [hp] at hb
  · obtain ⟨_, b, hb⟩ := s.dom i g S e
    simp [hp] at hb
theorem RL.inv0 {h : Held} {ρ : Place} {vs : Array Value} (r : RL h ρ vs []) : vs = #[] := Array.eq_empty_of_size_eq_zero r.1
theorem RL.inv1 {h : Held} {ρ : Place} {vs : Array Value} {x : AV} (r : RL h ρ vs [x]) : ∃ v, vs = #[v] ∧ R h ρ v x := by
  obtain ⟨h1, h2⟩ := r
  match vs, h1, h2 with
  | ⟨[v]⟩, _, h2 => exact ⟨v, rfl, h2 0 v x rfl rfl⟩
theorem RL.inv2 {h : Held} {ρ : Place} {vs : Array Value} {x y : AV} (r : RL h ρ vs [x, y]) : ∃ v u, vs = #[v, u] ∧ R h ρ v x ∧ R h ρ u y := by
  obtain ⟨h1, h2⟩ := r
  match vs, h1, h2 with
  | ⟨[v, u]⟩, _, h2 => exact ⟨v, u, rfl, h2 0 v x rfl rfl, h2 1 u y rfl rfl⟩
theorem RL.inv3 {h : Held} {ρ : Place} {vs : Array Value} {x y z : AV} (r : RL h ρ vs [x, y, z]) : ∃ v u q, vs = #[v, u, q] ∧ R h ρ v x ∧ R h ρ u y ∧ R h ρ q z := by
  obtain ⟨h1, h2⟩ := r
  match vs, h1, h2 with
  | ⟨[v, u, q]⟩, _, h2 => exact ⟨v, u, q, rfl, h2 0 v x rfl rfl, h2 1 u y rfl rfl, h2 2 q z rfl rfl⟩
/-- Functions of texts and numbers. -/
theorem Ctr.of_calls_s {P : Program} {G : Globals} {f : FuncId} {s : ByteArray} {d : D} (hg : goFn P f = true)
    (hc : ∀ (h : Held) (w : World), Calls P f #[.string s] w fun e w' => ∃ v, e = .returned v ∧ RD h v d ∧ Below w.heap.size w w') : Ctr P G f [.d (.str s)] [] (.d d) [] :=
  .of_calls hg fun h ρ w vs q r => by
    obtain ⟨v, rfl, hv⟩ := r.inv1
    rw [hv.str_inv]
    refine (hc h w).mono ?_
    rintro e w' ⟨v, rfl, hd, b⟩
    exact ⟨v, rfl, hd.mono (heldUp_le q), b⟩
theorem Ctr.of_calls_ss {P : Program} {G : Globals} {f : FuncId} {s t : ByteArray} {d : D} (hg : goFn P f = true)
    (hc : ∀ (h : Held) (w : World), Calls P f #[.string s, .string t] w fun e w' => ∃ v, e = .returned v ∧ RD h v d ∧ Below w.heap.size w w') : Ctr P G f [.d (.str s), .d (.str t)] [] (.d d) [] :=
  .of_calls hg fun h ρ w vs q r => by
    obtain ⟨v, u, rfl, hv, hu⟩ := r.inv2
    rw [hv.str_inv, hu.str_inv]
    refine (hc h w).mono ?_
    rintro e w' ⟨v, rfl, hd, b⟩
    exact ⟨v, rfl, hd.mono (heldUp_le q), b⟩
/-! Texts as lists of bytes. -/
abbrev bs (l : List UInt8) : ByteArray := ⟨l.toArray⟩
theorem bs_size {l : List UInt8} : (bs l).size = l.length := by simp [ByteArray.size]
theorem bs_inj {l m : List UInt8} : bs l = bs m ↔ l = m := by
  constructor
  · intro h
    have := congrArg (fun s : ByteArray => s.data.toList) h
    simpa using this
  · intro h; rw [h]
theorem bs_ext {s t : ByteArray} (h : s.data.toList = t.data.toList) : s = t := by
  cases s; cases t
  congr 1
  exact Array.toList_inj.1 h
theorem bs_extract {l : List UInt8} {a b : Nat} : (bs l).extract a b = bs ((l.take b).drop a) := by
  apply bs_ext
  simp [List.drop_take, List.extract_eq_take_drop]
theorem bs_append {l m : List UInt8} : bs l ++ bs m = bs (l ++ m) := by
  apply bs_ext
  simp
theorem bs_of (s : ByteArray) : s = bs s.data.toList := bs_ext (by simp)
theorem bs_toList {l : List UInt8} : (bs l).toList = l := by
  exact ByteArray.toList_eq (bs l)
theorem bs_eq {l m : List UInt8} : ((bs l).toList == (bs m).toList) = decide (l = m) := by
  rw [bs_toList, bs_toList]
  by_cases h : l = m
  · subst h; simp
  · rw [decide_eq_false h]; simpa using h
theorem byteAt_bs {l : List UInt8} {i : Nat} : byteAt (bs l) i = ((l.getD i 0).toNat : Int) := rfl
/-- The bytes as numbers. -/
def nums (l : List UInt8) : List Int := l.map fun b => (b.toNat : Int)
theorem nums_length {l : List UInt8} : (nums l).length = l.length := by simp [nums]
theorem nums_getD {l : List UInt8} {i : Nat} : (nums l).getD i 0 = ((l.getD i 0).toNat : Int) := by
  simp only [nums, List.getD_eq_getElem?_getD, List.getElem?_map]
  cases l[i]? <;> rfl
theorem bs_cells {l : List UInt8} : (bs l).data.toList.map (fun b => D.int .u8 b.toNat) = ints .u8 (nums l) := by
  simp [ints, nums]
theorem numsOf_ints : ∀ (l : List Int), numsOf (ints .u8 l) = some l
  | [] => rfl
  | n :: l => by
    show (match numsOf (ints .u8 l) with | some l => some (n :: l) | none => none) = _
    rw [numsOf_ints l]
theorem strOfNums_bs {l : List Int} : strOfNums l = bs (l.map fun n => UInt8.ofNat n.toNat) := rfl
theorem strOfNums_nums {l : List UInt8} : strOfNums (nums l) = bs l := by
  rw [strOfNums_bs, nums, List.map_map]
  congr 1
  rw [show ((fun n : Int => UInt8.ofNat n.toNat) ∘ fun b : UInt8 => (b.toNat : Int)) = id from by funext b; simp, List.map_id]
/-! Ranging over a text. -/
/-- The code point at a place, and its width. -/
def dec (l : List UInt8) (p : Nat) : Nat × Nat := Utf8.decode (bs l) p
theorem nextC_more {l : List UInt8} {b p : Nat} {k : Eff → Prop} (h : p < l.length) : nextC b k (some (.iter (bs l) p)) = k ⟨.d (.tup [.bool true, .int .i64 p, .int .i32 ((dec l p).1 : Int)]), [(b, .iter (bs l) (p + (dec l p).2))], [b]⟩ := by
  have h' : p < (bs l).size := by rw [bs_size]; exact h
  simp only [nextC, dec, h', not_true, false_implies, and_true, true_implies]
theorem nextC_over {l : List UInt8} {b p : Nat} {k : Eff → Prop} (h : ¬ p < l.length) : nextC b k (some (.iter (bs l) p)) = k ⟨.d (.tup [.bool false]), [], [b]⟩ := by
  have h' : ¬ p < (bs l).size := by rw [bs_size]; exact h
  simp only [nextC, h', not_false_iff, false_implies, true_and, true_implies]
theorem dec_ascii {l : List UInt8} {p : Nat} (h : p < l.length) (ha : (l.getD p 0).toNat < 128) : dec l p = ((l.getD p 0).toNat, 1) := by
  have e : (bs l)[p]'(by rw [bs_size]; exact h) = l.getD p 0 := by
    show l.toArray[p] = _
    simp [List.getD_eq_getElem?_getD, h]
  have := decode_ascii (bs l) p (by rw [bs_size]; exact h) (by rw [e]; exact ha)
  rw [dec, this, e]
theorem dec_bounds (l : List UInt8) (p : Nat) : 1 ≤ (dec l p).2 ∧ (dec l p).1 ≤ 2147483647 := by
  refine ⟨?_, decode_le _ _⟩
  unfold dec Utf8.decode
  dsimp only
  repeat' split
  all_goals simp
end Go.Abs
