import Derived.Test.YtldogpfookkbaaaGreatDoorVmZ
import Derived.Shelf.Spec.SlicesGrow
import Derived.KernelRfl
import Derived.Test.YtldogpfookkbaaaGreatDoorVmC
import Derived.Test.YtldogpfookkbaaaGreatDoorVm8
set_option linter.all false
set_option maxRecDepth 20000
set_option maxHeartbeats 0
namespace Go.VM
open Go Go.Shelf
variable {P : Program} {ρ : Go.Shelf.Ren}
end Go.VM
namespace Go.VM
open Go
def vmA0 :=
 And.intro @midQ.eq_1 <|
 And.intro @midQ.eq_2 <|
 And.intro @midQ.eq_def <|
 And.intro @OpsW_nil <|
 And.intro @OpsW_n <|
 And.intro @OpsW_y <|
 And.intro @OpsW_xt <|
 And.intro @OpsW_xf <|
 And.intro @OpsW_u <|
 And.intro @Zam.eq_1 <|
 And.intro @Zam.eq_2 <|
 And.intro @Zam.eq_3 <|
 And.intro @Zam.eq_4 <|
 And.intro @Zam.eq_5 <|
 And.intro @Zam.eq_6 <|
 And.intro @Zam.eq_7 <|
 And.intro @Zam.eq_8 <|
 And.intro @Zam.eq_9 <|
 And.intro @Zam.eq_10 <|
 And.intro @Zam.eq_11 <|
 And.intro @Zam.eq_12 <|
 And.intro @Zam.eq_13 <|
 And.intro @Zam.eq_def <|
 And.intro @guardOf.eq_1 <|
 And.intro @guardOf.eq_2 <|
 And.intro @guardOf.eq_3 <|
 And.intro @guardOf.eq_def <|
 And.intro @DrawW_nil <|
 And.intro @DrawW_n <|
 @DrawW_y
def vmA1 :=
 And.intro @DrawW_xt <|
 And.intro @DrawW_xf <|
 And.intro @DrawW_u <|
 And.intro @DrawH.eq_1 <|
 And.intro @DrawH.eq_2 <|
 And.intro @VOp.isIaddr.eq_1 <|
 And.intro @VOp.isIaddr.eq_2 <|
 And.intro @VOp.isIaddr.eq_def <|
 And.intro @QW.eq_1 <|
 And.intro @dok.eq_1 <|
 And.intro @dok.eq_2 <|
 And.intro @dok.eq_def <|
 And.intro @dval.eq_1 <|
 And.intro @dval.eq_2 <|
 And.intro @dval.eq_def <|
 And.intro @VOp.pure.eq_1 <|
 And.intro @VOp.pure.eq_2 <|
 And.intro @VOp.pure.eq_3 <|
 And.intro @VOp.pure.eq_4 <|
 And.intro @VOp.pure.eq_5 <|
 And.intro @VOp.pure.eq_6 <|
 And.intro @VOp.pure.eq_7 <|
 And.intro @VOp.pure.eq_8 <|
 And.intro @VOp.pure.eq_9 <|
 And.intro @VOp.pure.eq_10 <|
 And.intro @VOp.pure.eq_11 <|
 And.intro @VOp.pure.eq_12 <|
 And.intro @VOp.pure.eq_13 <|
 And.intro @VOp.pure.eq_14 <|
 @VOp.pure.eq_15
def vmA2 :=
 And.intro @VOp.pure.eq_16 <|
 And.intro @VOp.pure.eq_17 <|
 And.intro @VOp.pure.eq_18 <|
 And.intro @VOp.pure.eq_19 <|
 And.intro @VOp.pure.eq_20 <|
 And.intro @VOp.pure.eq_21 <|
 And.intro @VOp.pure.eq_22 <|
 And.intro @VOp.pure.eq_23 <|
 And.intro @VOp.pure.eq_def <|
 And.intro @VOp.simple.eq_1 <|
 And.intro @VOp.simple.eq_2 <|
 And.intro @VOp.simple.eq_3 <|
 And.intro @VOp.simple.eq_4 <|
 And.intro @VOp.simple.eq_5 <|
 And.intro @VOp.simple.eq_6 <|
 And.intro @VOp.simple.eq_7 <|
 And.intro @VOp.simple.eq_8 <|
 And.intro @VOp.simple.eq_9 <|
 And.intro @VOp.simple.eq_def <|
 And.intro @VOp.det.eq_1 <|
 And.intro @VOp.det.eq_2 <|
 And.intro @VOp.det.eq_def <|
 And.intro @pok.eq_1 <|
 And.intro @pok.eq_2 <|
 And.intro @pok.eq_3 <|
 And.intro @pok.eq_4 <|
 And.intro @pok.eq_5 <|
 And.intro @pok.eq_6 <|
 And.intro @pok.eq_7 <|
 @pok.eq_8
def vmA3 :=
 And.intro @pok.eq_9 <|
 And.intro @pok.eq_10 <|
 And.intro @pok.eq_11 <|
 And.intro @pok.eq_12 <|
 And.intro @pok.eq_13 <|
 And.intro @pok.eq_14 <|
 And.intro @pok.eq_15 <|
 And.intro @pok.eq_16 <|
 And.intro @pok.eq_17 <|
 And.intro @pok.eq_18 <|
 And.intro @pok.eq_19 <|
 And.intro @pok.eq_20 <|
 And.intro @pok.eq_21 <|
 And.intro @pok.eq_22 <|
 And.intro @pok.eq_23 <|
 And.intro @pok.eq_def <|
 And.intro @pval.eq_1 <|
 And.intro @pval.eq_2 <|
 And.intro @pval.eq_3 <|
 And.intro @pval.eq_4 <|
 And.intro @pval.eq_5 <|
 And.intro @pval.eq_6 <|
 And.intro @pval.eq_7 <|
 And.intro @pval.eq_8 <|
 And.intro @pval.eq_9 <|
 And.intro @pval.eq_10 <|
 And.intro @pval.eq_11 <|
 And.intro @pval.eq_12 <|
 And.intro @pval.eq_13 <|
 @pval.eq_14
def vmA4 :=
 And.intro @pval.eq_15 <|
 And.intro @pval.eq_16 <|
 And.intro @pval.eq_17 <|
 And.intro @pval.eq_18 <|
 And.intro @pval.eq_19 <|
 And.intro @pval.eq_20 <|
 And.intro @pval.eq_21 <|
 And.intro @pval.eq_22 <|
 And.intro @pval.eq_23 <|
 And.intro @pval.eq_def <|
 And.intro @VA.ev.eq_1 <|
 And.intro @VA.ev.eq_2 <|
 And.intro @VA.ev.eq_def <|
 And.intro @Env.get.eq_1 <|
 And.intro @Env.get.eq_2 <|
 And.intro @Env.put.eq_1 <|
 And.intro @Env.put.eq_2 <|
 And.intro @Env.put.eq_def <|
 And.intro @Env.keep.eq_1 <|
 And.intro @Env.keep.eq_2 <|
 And.intro @argEnv.eq_1 <|
 And.intro @argEnv.eq_2 <|
 And.intro @thenQ.eq_1 <|
 And.intro @thenQ.eq_2 <|
 And.intro @thenQ.eq_def <|
 And.intro @blockQ.eq_1 <|
 And.intro @blockQ.eq_2 <|
 And.intro @blockQ.eq_def <|
 And.intro @retQ.eq_1 <|
 @retQ.eq_2
def vmA5 :=
 And.intro @retQ.eq_3 <|
 And.intro @retQ.eq_def <|
 And.intro @resV.eq_1 <|
 And.intro @resV.eq_2 <|
 And.intro @resV.eq_def <|
 And.intro @resOk.eq_1 <|
 And.intro @resOk.eq_2 <|
 And.intro @RS.ev.eq_1 <|
 And.intro @RS.ev.eq_2 <|
 And.intro @RS.ev.eq_def <|
 And.intro @RS.ok.eq_1 <|
 And.intro @RS.ok.eq_2 <|
 And.intro @RS.ok.eq_def <|
 And.intro @gd.eq_1 <|
 And.intro @pickV.eq_1 <|
 And.intro @pickV.eq_2 <|
 And.intro @pickV.eq_def <|
 And.intro @isBool.eq_1 <|
 And.intro @isBool.eq_2 <|
 And.intro @isBool.eq_def <|
 And.intro @aggV.eq_1 <|
 And.intro @intV.eq_1 <|
 And.intro @intV.eq_2 <|
 And.intro @intV.eq_3 <|
 And.intro @intV.eq_4 <|
 And.intro @intV.eq_5 <|
 And.intro @intV.eq_6 <|
 And.intro @intV.eq_7 <|
 And.intro @intV.eq_8 <|
 @intV.eq_9
def vmA6 :=
 And.intro @intV.eq_10 <|
 And.intro @intV.eq_11 <|
 And.intro @intV.eq_12 <|
 And.intro @intV.eq_13 <|
 And.intro @intV.eq_14 <|
 And.intro @intV.eq_15 <|
 And.intro @intV.eq_16 <|
 And.intro @intV.eq_17 <|
 And.intro @intV.eq_def <|
 And.intro @binV.eq_1 <|
 And.intro @binV.eq_2 <|
 And.intro @binV.eq_3 <|
 And.intro @binV.eq_def <|
 And.intro @binOk.eq_1 <|
 And.intro @binOk.eq_2 <|
 And.intro @binOk.eq_3 <|
 And.intro @binOk.eq_4 <|
 And.intro @binOk.eq_5 <|
 And.intro @binOk.eq_6 <|
 And.intro @binOk.eq_7 <|
 And.intro @binOk.eq_8 <|
 And.intro @binOk.eq_9 <|
 And.intro @binOk.eq_10 <|
 And.intro @binOk.eq_11 <|
 And.intro @binOk.eq_12 <|
 And.intro @binOk.eq_13 <|
 And.intro @binOk.eq_14 <|
 And.intro @binOk.eq_def <|
 And.intro @strV.eq_1 <|
 @strV.eq_2
def vmA7 :=
 And.intro @strV.eq_3 <|
 And.intro @strV.eq_4 <|
 And.intro @strV.eq_5 <|
 And.intro @strV.eq_6 <|
 And.intro @strV.eq_7 <|
 And.intro @strV.eq_8 <|
 And.intro @strV.eq_def <|
 And.intro @binbV.eq_1 <|
 And.intro @binbV.eq_2 <|
 And.intro @binbV.eq_def <|
 And.intro @boolV.eq_1 <|
 And.intro @boolV.eq_2 <|
 And.intro @boolV.eq_3 <|
 And.intro @boolV.eq_def <|
 And.intro @binbOk.eq_1 <|
 And.intro @binbOk.eq_2 <|
 And.intro @binbOk.eq_3 <|
 And.intro @binbOk.eq_4 <|
 And.intro @binbOk.eq_def <|
 And.intro @unV.eq_1 <|
 And.intro @unV.eq_2 <|
 And.intro @unV.eq_3 <|
 And.intro @unV.eq_4 <|
 And.intro @unV.eq_5 <|
 And.intro @unV.eq_def <|
 And.intro @unOk.eq_1 <|
 And.intro @unOk.eq_2 <|
 And.intro @unOk.eq_3 <|
 And.intro @unOk.eq_4 <|
 @unOk.eq_5
def vmA8 :=
 And.intro @unOk.eq_def <|
 And.intro @convV.eq_1 <|
 And.intro @convV.eq_2 <|
 And.intro @convV.eq_def <|
 And.intro @isInt.eq_1 <|
 And.intro @isInt.eq_2 <|
 And.intro @isInt.eq_def <|
 And.intro @isStr.eq_1 <|
 And.intro @isStr.eq_2 <|
 And.intro @isStr.eq_def <|
 And.intro @numOf.eq_1 <|
 And.intro @numOf.eq_2 <|
 And.intro @numOf.eq_def <|
 And.intro @loV.eq_1 <|
 And.intro @loV.eq_2 <|
 And.intro @loV.eq_def <|
 And.intro @hiV.eq_1 <|
 And.intro @hiV.eq_2 <|
 And.intro @hiV.eq_def <|
 And.intro @lenV.eq_1 <|
 And.intro @lenV.eq_2 <|
 And.intro @lenV.eq_3 <|
 And.intro @lenV.eq_4 <|
 And.intro @lenV.eq_def <|
 And.intro @boundOk.eq_1 <|
 And.intro @boundOk.eq_2 <|
 And.intro @boundOk.eq_3 <|
 And.intro @boundOk.eq_def <|
 And.intro @sliceV.eq_1 <|
 @sliceV.eq_2
def vmA9 :=
 And.intro @sliceV.eq_3 <|
 And.intro @sliceV.eq_4 <|
 And.intro @sliceV.eq_5 <|
 And.intro @sliceV.eq_def <|
 And.intro @sliceOk.eq_1 <|
 And.intro @sliceOk.eq_2 <|
 And.intro @sliceOk.eq_3 <|
 And.intro @sliceOk.eq_4 <|
 And.intro @sliceOk.eq_5 <|
 And.intro @sliceOk.eq_def <|
 And.intro @faddrV.eq_1 <|
 And.intro @faddrV.eq_2 <|
 And.intro @faddrV.eq_3 <|
 And.intro @faddrV.eq_def <|
 And.intro @isAddr.eq_1 <|
 And.intro @isAddr.eq_2 <|
 And.intro @isAddr.eq_3 <|
 And.intro @isAddr.eq_def <|
 And.intro @Za2.eq_1 <|
 And.intro @Za2.eq_2 <|
 And.intro @Za2.eq_3 <|
 And.intro @Za2.eq_def <|
 And.intro @locOk.eq_1 <|
 And.intro @locOk.eq_2 <|
 And.intro @locOk.eq_3 <|
 And.intro @locOk.eq_def <|
 And.intro @Zaq.eq_1 <|
 And.intro @Zaq.eq_2 <|
 And.intro @Zaq.eq_def <|
 @isAggP.eq_1
def vmA10 :=
 And.intro @isAggP.eq_2 <|
 And.intro @isAggP.eq_def <|
 And.intro @iaddrV.eq_1 <|
 And.intro @iaddrV.eq_2 <|
 And.intro @iaddrV.eq_3 <|
 And.intro @iaddrV.eq_def <|
 And.intro @iaddrOk.eq_1 <|
 And.intro @iaddrOk.eq_2 <|
 And.intro @iaddrOk.eq_3 <|
 And.intro @iaddrOk.eq_def <|
 And.intro @idxV.eq_1 <|
 And.intro @idxV.eq_2 <|
 And.intro @idxV.eq_def <|
 And.intro @idxOk.eq_1 <|
 And.intro @idxOk.eq_2 <|
 And.intro @idxOk.eq_def <|
 And.intro @lenOk.eq_1 <|
 And.intro @lenOk.eq_2 <|
 And.intro @lenOk.eq_3 <|
 And.intro @lenOk.eq_4 <|
 And.intro @lenOk.eq_5 <|
 And.intro @lenOk.eq_def <|
 And.intro @extV.eq_1 <|
 And.intro @extV.eq_2 <|
 And.intro @extV.eq_def <|
 And.intro @extOk.eq_1 <|
 And.intro @extOk.eq_2 <|
 And.intro @extOk.eq_def <|
 And.intro @fillV.eq_1 <|
 @fillV.eq_2
def vmA11 :=
 And.intro @fillOk.eq_1 <|
 And.intro @fillOk.eq_2 <|
 And.intro @mmV.eq_1 <|
 And.intro @mmV.eq_2 <|
 And.intro @mmV.eq_def <|
 And.intro @PV.cells.eq_1 <|
 And.intro @PV.cells.eq_2 <|
 And.intro @PV.cells.eq_def <|
 And.intro @PV.fits.eq_1 <|
 And.intro @PV.fits.eq_2 <|
 And.intro @PV.fits.eq_3 <|
 And.intro @PV.fits.eq_4 <|
 And.intro @PV.fits.eq_5 <|
 And.intro @PV.fits.eq_def <|
 And.intro @overlay.eq_1 <|
 And.intro @PV.nth.eq_1 <|
 And.intro @PV.row.eq_1 <|
 And.intro @lookV.eq_1 <|
 And.intro @lookV.eq_2 <|
 And.intro @lookV.eq_def <|
 And.intro @Zba.eq_1 <|
 And.intro @Zba.eq_2 <|
 And.intro @Zba.eq_3 <|
 And.intro @Zba.eq_def <|
 And.intro @mapOk.eq_1 <|
 And.intro @mapOk.eq_2 <|
 And.intro @mapOk.eq_3 <|
 And.intro @mapOk.eq_4 <|
 And.intro @mapOk.eq_def <|
 @keysOk.eq_1
def vmA12 :=
 And.intro @keyOk.eq_1 <|
 And.intro @keyOk.eq_2 <|
 And.intro @keyOk.eq_def <|
 And.intro @keyEq.eq_1 <|
 And.intro @mapFind.eq_1 <|
 And.intro @mapFind.eq_2 <|
 And.intro @mapPut.eq_1 <|
 And.intro @mapPut.eq_2 <|
 And.intro @mapHas.eq_1 <|
 And.intro @mapHas.eq_2 <|
 And.intro @mapHas.eq_def <|
 And.intro @Zbu.eq_1 <|
 And.intro @Zbu.eq_2 <|
 And.intro @Zbu.eq_def <|
 And.intro @Heap.get.eq_1 <|
 And.intro @Heap.set.eq_1 <|
 And.intro @Heap.del.eq_1 <|
 And.intro @Heap.le.eq_1 <|
 And.intro @HL.get.eq_1 <|
 And.intro @HL.get.eq_2 <|
 And.intro @HL.set.eq_1 <|
 And.intro @HL.set.eq_2 <|
 And.intro @HL.del.eq_1 <|
 And.intro @HL.del.eq_2 <|
 And.intro @HL.le.eq_1 <|
 And.intro @HL.le.eq_2 <|
 And.intro @Heap.push.eq_1 <|
 And.intro @Heap.nil.eq_1 <|
 And.intro @Nat.le_refl <|
 @Nat.add_eq_left
def vmA13 :=
 And.intro @Nat.left_eq_add <|
 And.intro @Nat.succ_ne_self <|
 And.intro @Nat.one_ne_zero <|
 And.intro @Env.le.eq_1 <|
 And.intro @Env.le.eq_2 <|
 And.intro @Za1.eq_1 <|
 And.intro @Za1.eq_2 <|
 And.intro @Za1.eq_def <|
 And.intro @oldId.eq_1 <|
 And.intro @oldId.eq_2 <|
 And.intro @oldId.eq_def <|
 And.intro @Zbb.eq_1 <|
 And.intro @Zbb.eq_2 <|
 And.intro @Zbb.eq_def <|
 And.intro @oldOk.eq_1 <|
 And.intro @oldOk.eq_2 <|
 And.intro @oldOk.eq_3 <|
 And.intro @oldOk.eq_def <|
 And.intro @Zar.eq_1 <|
 And.intro @Zar.eq_2 <|
 And.intro @Zar.eq_3 <|
 And.intro @Zar.eq_4 <|
 And.intro @Zar.eq_def <|
 And.intro @srcOk.eq_1 <|
 And.intro @srcOk.eq_2 <|
 And.intro @srcOk.eq_3 <|
 And.intro @srcOk.eq_4 <|
 And.intro @srcOk.eq_5 <|
 And.intro @srcOk.eq_def <|
 @Za9.eq_1
def vmA14 :=
 And.intro @Za9.eq_2 <|
 And.intro @Zbn.eq_1 <|
 And.intro @Zbn.eq_2 <|
 And.intro @eqOk.eq_1 <|
 And.intro @eqOk.eq_2 <|
 And.intro @eqOk.eq_3 <|
 And.intro @ekOk.eq_1 <|
 And.intro @ekOk.eq_2 <|
 And.intro @ekOk.eq_3 <|
 And.intro @ekOk.eq_4 <|
 And.intro @ekOk.eq_def <|
 And.intro @Zap.eq_1 <|
 And.intro @Zap.eq_2 <|
 And.intro @Zbh.eq_1 <|
 And.intro @Zbh.eq_2 <|
 And.intro @Zbh.eq_3 <|
 And.intro @Zbh.eq_4 <|
 And.intro @Zbh.eq_def <|
 And.intro @storeV.eq_1 <|
 And.intro @storeV.eq_2 <|
 And.intro @storeV.eq_def <|
 And.intro @storeOk.eq_1 <|
 And.intro @storeOk.eq_2 <|
 And.intro @storeOk.eq_def <|
 And.intro @AB.live.eq_1 <|
 And.intro @AB.live.eq_2 <|
 And.intro @AB.live.eq_def <|
 And.intro @pxV.eq_1 <|
 And.intro @pxV.eq_2 <|
 @pxV.eq_3
def vmA15 :=
 And.intro @pxV.eq_4 <|
 And.intro @pxV.eq_5 <|
 And.intro @pxV.eq_6 <|
 And.intro @pxV.eq_7 <|
 And.intro @pxV.eq_8 <|
 And.intro @pxV.eq_def <|
 And.intro @pxOk.eq_1 <|
 And.intro @pxOk.eq_2 <|
 And.intro @pxOk.eq_3 <|
 And.intro @pxOk.eq_4 <|
 And.intro @pxOk.eq_5 <|
 And.intro @pxOk.eq_6 <|
 And.intro @pxOk.eq_7 <|
 And.intro @pxOk.eq_8 <|
 And.intro @pxOk.eq_def <|
 And.intro @fxV.eq_1 <|
 And.intro @fxV.eq_2 <|
 And.intro @fxV.eq_3 <|
 And.intro @fxV.eq_4 <|
 And.intro @fxV.eq_def <|
 And.intro @fxOk.eq_1 <|
 And.intro @fxOk.eq_2 <|
 And.intro @fxOk.eq_3 <|
 And.intro @fxOk.eq_4 <|
 And.intro @fxOk.eq_5 <|
 And.intro @fxOk.eq_6 <|
 And.intro @fxOk.eq_7 <|
 And.intro @fxOk.eq_8 <|
 And.intro @fxOk.eq_9 <|
 @fxOk.eq_def
def vmA16 :=
 And.intro @isPtr.eq_1 <|
 And.intro @isPtr.eq_2 <|
 And.intro @isPtr.eq_3 <|
 And.intro @isPtr.eq_4 <|
 And.intro @isPtr.eq_def <|
 And.intro @slLike.eq_1 <|
 And.intro @slLike.eq_2 <|
 And.intro @slLike.eq_3 <|
 And.intro @slLike.eq_4 <|
 And.intro @slLike.eq_def <|
 And.intro @isNil.eq_1 <|
 And.intro @isNil.eq_2 <|
 And.intro @isNil.eq_3 <|
 And.intro @isNil.eq_4 <|
 And.intro @isNil.eq_5 <|
 And.intro @isNil.eq_def <|
 And.intro @notNil.eq_1 <|
 And.intro @notNil.eq_2 <|
 And.intro @notNil.eq_3 <|
 And.intro @notNil.eq_4 <|
 And.intro @notNil.eq_5 <|
 And.intro @notNil.eq_6 <|
 And.intro @notNil.eq_7 <|
 And.intro @notNil.eq_def <|
 And.intro @List.map.eq_1.{0,0} <|
 And.intro @List.map.eq_2.{0,0} <|
 And.intro @List.set.eq_1.{0} <|
 And.intro @List.set.eq_2.{0} <|
 And.intro @List.set.eq_3.{0} <|
 @List.replicate.eq_1.{0}
def vmA17 :=
 And.intro @List.replicate.eq_2.{0} <|
 And.intro @List.length.eq_1.{0} <|
 And.intro @List.length.eq_2.{0} <|
 And.intro @List.getD_cons_zero.{0} <|
 And.intro @List.getD_cons_succ.{0} <|
 And.intro @List.getD_nil.{0} <|
 And.intro @List.take.eq_1.{0} <|
 And.intro @List.take.eq_2.{0} <|
 And.intro @List.take.eq_3.{0} <|
 And.intro @List.drop.eq_1.{0} <|
 And.intro @List.drop.eq_2.{0} <|
 And.intro @List.drop.eq_3.{0} <|
 And.intro @List.take_zero.{0} <|
 And.intro @List.drop_zero.{0} <|
 And.intro @List.take_succ_cons.{0} <|
 And.intro @List.drop_succ_cons.{0} <|
 And.intro @List.append.eq_1.{0} <|
 And.intro @List.append.eq_2.{0} <|
 And.intro @List.cons_append.{0} <|
 And.intro @List.nil_append.{0} <|
 And.intro @Option.map.eq_1.{0,0} <|
 And.intro @Option.map.eq_2.{0,0} <|
 And.intro @Option.map.eq_def.{0,0} <|
 And.intro @Bool.false_eq_true <|
 And.intro @Bool.true_eq_false <|
 And.intro @ite_true.{1} <|
 And.intro @ite_true.{0} <|
 And.intro @ite_false.{1} <|
 And.intro @ite_false.{0} <|
 @if_true.{1}
def vmA18 :=
 And.intro @if_true.{0} <|
 And.intro @if_false.{1} <|
 And.intro @if_false.{0} <|
 And.intro @true_and <|
 And.intro @and_true <|
 And.intro @implies_true.{1} <|
 And.intro @implies_true.{0} <|
 And.intro @forall_const.{1} <|
 And.intro @forall_const.{0} <|
 And.intro @ne_eq.{1} <|
 And.intro @not_false_eq_true <|
 And.intro @BEq.rfl.{0} <|
 And.intro @beq_self_eq_true.{0} <|
 And.intro @Option.some.injEq.{0} <|
 And.intro @Nat.zero_add <|
 And.intro @Nat.add_zero <|
 And.intro @List.length_cons.{0} <|
 And.intro @List.length_nil.{0} <|
 And.intro @true_implies <|
 And.intro @imp_self <|
 And.intro @Int.toNat_natCast <|
 And.intro @Bool.not_false <|
 @Bool.not_true
def vmA:=And.intro vmA0 <| And.intro vmA1 <| And.intro vmA2 <| And.intro vmA3 <| And.intro vmA4 <| And.intro vmA5 <| And.intro vmA6 <| And.intro vmA7 <| And.intro vmA8 <| And.intro vmA9 <| And.intro vmA10 <| And.intro vmA11 <| And.intro vmA12 <| And.intro vmA13 <| And.intro vmA14 <| And.intro vmA15 <| And.intro vmA16 <| And.intro vmA17 <| vmA18
theorem vmL:type_of% vmA:=vmA
end Go.VM
namespace Go.VM
open Go
theorem xlm {α β:Type} {f:α→β} {l:List α}:(l.map f).length=l.length:=List.length_map f
theorem xan {α:Type} {l:List α}:l++[]=l:=List.append_nil l
theorem xok {A B C:Prop} (a:A) (z:B=C):(A∧B)=C:=by rw [← z];exact propext ⟨(·.2),fun b=>⟨a,b⟩⟩
theorem x2 {A B:Prop} (a:A) (b:B):A∧B:=⟨a,b⟩
theorem x3 {A B C:Prop} (a:A) (b:B) (c:C):A∧B∧C:=⟨a,b,c⟩
theorem x4 {A B C D:Prop} (a:A) (b:B) (c:C) (d:D):A∧B∧C∧D:=⟨a,b,c,d⟩
theorem x5 {A B C D E:Prop} (a:A) (b:B) (c:C) (d:D) (e:E):A∧B∧C∧D∧E:=⟨a,b,c,d,e⟩
section
variable {P : Program} {N : FK} {Q : Exit → Env → Heap → Prop} {e : Env} {h : Heap}
theorem Sp0 {X:Prop} {Y:Prop} (k:Y) (z:Y→X:=by intro k;(try simp only [vmL,Nat.reduceEqDiff,Nat.reduceAdd,Nat.reduceLT,Nat.reduceLeDiff,Nat.reduceSub,Nat.reduceMul,reduceIte,reduceCtorEq,Int.reduceToNat]);exact k):X:=z k
theorem Sp1 {X:Prop} {A Y:Prop} (a:A) (k:Y) (z:A→Y→X:=by intro a k;(try simp only [vmL,Nat.reduceEqDiff,Nat.reduceAdd,Nat.reduceLT,Nat.reduceLeDiff,Nat.reduceSub,Nat.reduceMul,reduceIte,reduceCtorEq,Int.reduceToNat,a]);exact k):X:=z a k
theorem Sc0 {X:Prop} (z:X:=by simp only [vmL,Nat.reduceEqDiff,Nat.reduceAdd,Nat.reduceLT,Nat.reduceLeDiff,Nat.reduceSub,Nat.reduceMul,reduceIte,reduceCtorEq,Int.reduceToNat]):X:=z
theorem Rp0 {q:List VOper} {x:VC} (l:List Nat) {Y:Prop} (k:Y) (z:Y→OpsW P q (fun e' h'=>thenQ (VW P N x Q) Q .normal (Env.keep l e') h') e h:=by intro k;(try simp only [vmL,Nat.reduceEqDiff,Nat.reduceAdd,Nat.reduceLT,Nat.reduceLeDiff,Nat.reduceSub,Nat.reduceMul,reduceIte,reduceCtorEq,Int.reduceToNat]);exact k):VW P N (.seq (.region q false) x) Q e h:=Zab (Zag l (z k))
theorem Rp1 {q:List VOper} {x:VC} (l:List Nat) {A Y:Prop} (a:A) (k:Y) (z:A→Y→OpsW P q (fun e' h'=>thenQ (VW P N x Q) Q .normal (Env.keep l e') h') e h:=by intro a k;(try simp only [vmL,Nat.reduceEqDiff,Nat.reduceAdd,Nat.reduceLT,Nat.reduceLeDiff,Nat.reduceSub,Nat.reduceMul,reduceIte,reduceCtorEq,Int.reduceToNat,a]);exact k):VW P N (.seq (.region q false) x) Q e h:=Zab (Zag l (z a k))
theorem rp0 {q:List VOper} (l:List Nat) {Y:Prop} (k:Y) (z:Y→OpsW P q (fun e' h'=>Q .normal (Env.keep l e') h') e h:=by intro k;(try simp only [vmL,Nat.reduceEqDiff,Nat.reduceAdd,Nat.reduceLT,Nat.reduceLeDiff,Nat.reduceSub,Nat.reduceMul,reduceIte,reduceCtorEq,Int.reduceToNat]);exact k):VW P N (.region q false) Q e h:=Zag l (z k)
theorem rp1 {q:List VOper} (l:List Nat) {A Y:Prop} (a:A) (k:Y) (z:A→Y→OpsW P q (fun e' h'=>Q .normal (Env.keep l e') h') e h:=by intro a k;(try simp only [vmL,Nat.reduceEqDiff,Nat.reduceAdd,Nat.reduceLT,Nat.reduceLeDiff,Nat.reduceSub,Nat.reduceMul,reduceIte,reduceCtorEq,Int.reduceToNat,a]);exact k):VW P N (.region q false) Q e h:=Zag l (z a k)
theorem Kp0  {Y:Prop} (k:Y) (z:Y→Q .normal e h:=by intro k;(try simp only [vmL,Nat.reduceEqDiff,Nat.reduceAdd,Nat.reduceLT,Nat.reduceLeDiff,Nat.reduceSub,Nat.reduceMul,reduceIte,reduceCtorEq,Int.reduceToNat]);exact k):VW P N .skip Q e h:=VW_skip (z k)
theorem Kp1  {A Y:Prop} (a:A) (k:Y) (z:A→Y→Q .normal e h:=by intro a k;(try simp only [vmL,Nat.reduceEqDiff,Nat.reduceAdd,Nat.reduceLT,Nat.reduceLeDiff,Nat.reduceSub,Nat.reduceMul,reduceIte,reduceCtorEq,Int.reduceToNat,a]);exact k):VW P N .skip Q e h:=VW_skip (z a k)
theorem Tp0  {Y:Prop} (k:Y) (z:Y→Q .ret e h:=by intro k;(try simp only [vmL,Nat.reduceEqDiff,Nat.reduceAdd,Nat.reduceLT,Nat.reduceLeDiff,Nat.reduceSub,Nat.reduceMul,reduceIte,reduceCtorEq,Int.reduceToNat]);exact k):VW P N .ret Q e h:=VW_ret (z k)
theorem Tp1  {A Y:Prop} (a:A) (k:Y) (z:A→Y→Q .ret e h:=by intro a k;(try simp only [vmL,Nat.reduceEqDiff,Nat.reduceAdd,Nat.reduceLT,Nat.reduceLeDiff,Nat.reduceSub,Nat.reduceMul,reduceIte,reduceCtorEq,Int.reduceToNat,a]);exact k):VW P N .ret Q e h:=VW_ret (z a k)
theorem Ep0 {i:Nat} {Y:Prop} (k:Y) (z:Y→Q (.exit i) e h:=by intro k;(try simp only [vmL,Nat.reduceEqDiff,Nat.reduceAdd,Nat.reduceLT,Nat.reduceLeDiff,Nat.reduceSub,Nat.reduceMul,reduceIte,reduceCtorEq,Int.reduceToNat]);exact k):VW P N (.exit i) Q e h:=VW_exit (z k)
theorem Ep1 {i:Nat} {A Y:Prop} (a:A) (k:Y) (z:A→Y→Q (.exit i) e h:=by intro a k;(try simp only [vmL,Nat.reduceEqDiff,Nat.reduceAdd,Nat.reduceLT,Nat.reduceLeDiff,Nat.reduceSub,Nat.reduceMul,reduceIte,reduceCtorEq,Int.reduceToNat,a]);exact k):VW P N (.exit i) Q e h:=VW_exit (z a k)
theorem Ap0 {f:FuncId} {args:List PV} {p:PV} {K:PV→Heap→Prop} (H:Zaj P f args p) {Y:Prop} (k:Y) (z:Y→K p h:=by intro k;(try simp only [vmL,Nat.reduceEqDiff,Nat.reduceAdd,Nat.reduceLT,Nat.reduceLeDiff,Nat.reduceSub,Nat.reduceMul,reduceIte,reduceCtorEq,Int.reduceToNat]);exact k):Zan P f args h K:=Za8 H (z k)
theorem Ap1 {f:FuncId} {args:List PV} {p:PV} {K:PV→Heap→Prop} (H:Zaj P f args p) {A Y:Prop} (a:A) (k:Y) (z:A→Y→K p h:=by intro a k;(try simp only [vmL,Nat.reduceEqDiff,Nat.reduceAdd,Nat.reduceLT,Nat.reduceLeDiff,Nat.reduceSub,Nat.reduceMul,reduceIte,reduceCtorEq,Int.reduceToNat,a]);exact k):Zan P f args h K:=Za8 H (z a k)
theorem Fp0 {v:VA} {x:VC} {Y:Prop} (k:Y) (z:Y→Q .normal e h:=by intro k;(try simp only [vmL,Nat.reduceEqDiff,Nat.reduceAdd,Nat.reduceLT,Nat.reduceLeDiff,Nat.reduceSub,Nat.reduceMul,reduceIte,reduceCtorEq,Int.reduceToNat]);exact k) (hb:v.ev e=.bool false:=by rfl):VW P N (.cond v x .skip) Q e h:=Zaf hb (fun h=>by cases h) (fun _=>VW_skip (z k))
theorem Fp1 {v:VA} {x:VC} {A Y:Prop} (a:A) (k:Y) (z:A→Y→Q .normal e h:=by intro a k;(try simp only [vmL,Nat.reduceEqDiff,Nat.reduceAdd,Nat.reduceLT,Nat.reduceLeDiff,Nat.reduceSub,Nat.reduceMul,reduceIte,reduceCtorEq,Int.reduceToNat,a]);exact k) (hb:v.ev e=.bool false:=by rfl):VW P N (.cond v x .skip) Q e h:=Zaf hb (fun h=>by cases h) (fun _=>VW_skip (z a k))
theorem Sr0 {X:Prop} (z:X:=by first|(simp only [vmL,Nat.reduceEqDiff,Nat.reduceAdd,Nat.reduceLT,Nat.reduceLeDiff,Nat.reduceSub,Nat.reduceMul,reduceIte,reduceCtorEq,Int.reduceToNat];done)|((try simp only [vmL,Nat.reduceEqDiff,Nat.reduceAdd,Nat.reduceLT,Nat.reduceLeDiff,Nat.reduceSub,Nat.reduceMul,reduceIte,reduceCtorEq,Int.reduceToNat]);rfl)):X:=z
theorem Tv0 (z:Q .ret e h:=by (try simp only [vmL,Nat.reduceEqDiff,Nat.reduceAdd,Nat.reduceLT,Nat.reduceLeDiff,Nat.reduceSub,Nat.reduceMul,reduceIte,reduceCtorEq,Int.reduceToNat]);exact View.refl _ _):VW P N .ret Q e h:=VW_ret z
theorem Rv0 {q:List VOper} {x:VC} (l:List Nat) (z:OpsW P q (fun e' h'=>thenQ (VW P N x Q) Q .normal (Env.keep l e') h') e h:=by (try simp only [vmL,Nat.reduceEqDiff,Nat.reduceAdd,Nat.reduceLT,Nat.reduceLeDiff,Nat.reduceSub,Nat.reduceMul,reduceIte,reduceCtorEq,Int.reduceToNat]);refine VW_ret ?_;(try simp only [vmL,Nat.reduceEqDiff,Nat.reduceAdd,Nat.reduceLT,Nat.reduceLeDiff,Nat.reduceSub,Nat.reduceMul,reduceIte,reduceCtorEq,Int.reduceToNat]);exact View.refl _ _):VW P N (.seq (.region q false) x) Q e h:=Zab (Zag l z)
theorem Fn0 {X:Prop} (z:X:=by (try simp only [vmL,Nat.reduceEqDiff,Nat.reduceAdd,Nat.reduceLT,Nat.reduceLeDiff,Nat.reduceSub,Nat.reduceMul,reduceIte,reduceCtorEq,Int.reduceToNat]);all_goals (repeat' (first|rfl|trivial|omega|(simp only [];omega)|refine And.intro ?_ ?_))):X:=z
theorem Fn1 {X A:Prop} (a:A) (z:A→X:=by intro a;(try simp only [vmL,Nat.reduceEqDiff,Nat.reduceAdd,Nat.reduceLT,Nat.reduceLeDiff,Nat.reduceSub,Nat.reduceMul,reduceIte,reduceCtorEq,Int.reduceToNat,a]);all_goals (repeat' (first|rfl|trivial|omega|(simp only [];omega)|refine And.intro ?_ ?_))):X:=z a
theorem Ok {X Y:Prop} (k:Y) (z:X=Y:=by (repeat (with_reducible apply xok;first|omega|(with_reducible constructor<;>omega)|exact False.elim|exact ⟨⟩));exact rfl):X:=z.mpr k
theorem Ct {v:VA} {x y:VC} (k:VW P N x Q e h) (hb:v.ev e=.bool true:=by rfl):VW P N (.cond v x y) Q e h:=Zaf hb (fun _=>k) (fun h=>by cases h)
theorem Cf {v:VA} {x y:VC} (k:VW P N y Q e h) (hb:v.ev e=.bool false:=by rfl):VW P N (.cond v x y) Q e h:=Zaf hb (fun h=>by cases h) (fun _=>k)
theorem N3 (x0 x1 x2:Nat) (z:x0≠x1∧x0≠x2∧x1≠x0∧x1≠x2∧x2≠x0∧x2≠x1:=by and_intros<;>omega):x0≠x1∧x0≠x2∧x1≠x0∧x1≠x2∧x2≠x0∧x2≠x1:=z
theorem N4 (x0 x1 x2 x3:Nat) (z:x0≠x1∧x0≠x2∧x0≠x3∧x1≠x0∧x1≠x2∧x1≠x3∧x2≠x0∧x2≠x1∧x2≠x3∧x3≠x0∧x3≠x1∧x3≠x2:=by and_intros<;>omega):x0≠x1∧x0≠x2∧x0≠x3∧x1≠x0∧x1≠x2∧x1≠x3∧x2≠x0∧x2≠x1∧x2≠x3∧x3≠x0∧x3≠x1∧x3≠x2:=z
theorem N5 (x0 x1 x2 x3 x4:Nat) (z:x0≠x1∧x0≠x2∧x0≠x3∧x0≠x4∧x1≠x0∧x1≠x2∧x1≠x3∧x1≠x4∧x2≠x0∧x2≠x1∧x2≠x3∧x2≠x4∧x3≠x0∧x3≠x1∧x3≠x2∧x3≠x4∧x4≠x0∧x4≠x1∧x4≠x2∧x4≠x3:=by and_intros<;>omega):x0≠x1∧x0≠x2∧x0≠x3∧x0≠x4∧x1≠x0∧x1≠x2∧x1≠x3∧x1≠x4∧x2≠x0∧x2≠x1∧x2≠x3∧x2≠x4∧x3≠x0∧x3≠x1∧x3≠x2∧x3≠x4∧x4≠x0∧x4≠x1∧x4≠x2∧x4≠x3:=z
theorem N6 (x0 x1 x2 x3 x4 x5:Nat) (z:x0≠x1∧x0≠x2∧x0≠x3∧x0≠x4∧x0≠x5∧x1≠x0∧x1≠x2∧x1≠x3∧x1≠x4∧x1≠x5∧x2≠x0∧x2≠x1∧x2≠x3∧x2≠x4∧x2≠x5∧x3≠x0∧x3≠x1∧x3≠x2∧x3≠x4∧x3≠x5∧x4≠x0∧x4≠x1∧x4≠x2∧x4≠x3∧x4≠x5∧x5≠x0∧x5≠x1∧x5≠x2∧x5≠x3∧x5≠x4:=by and_intros<;>omega):x0≠x1∧x0≠x2∧x0≠x3∧x0≠x4∧x0≠x5∧x1≠x0∧x1≠x2∧x1≠x3∧x1≠x4∧x1≠x5∧x2≠x0∧x2≠x1∧x2≠x3∧x2≠x4∧x2≠x5∧x3≠x0∧x3≠x1∧x3≠x2∧x3≠x4∧x3≠x5∧x4≠x0∧x4≠x1∧x4≠x2∧x4≠x3∧x4≠x5∧x5≠x0∧x5≠x1∧x5≠x2∧x5≠x3∧x5≠x4:=z
theorem N8 (x0 x1 x2 x3 x4 x5 x6 x7:Nat) (z:x0≠x1∧x0≠x2∧x0≠x3∧x0≠x4∧x0≠x5∧x0≠x6∧x0≠x7∧x1≠x0∧x1≠x2∧x1≠x3∧x1≠x4∧x1≠x5∧x1≠x6∧x1≠x7∧x2≠x0∧x2≠x1∧x2≠x3∧x2≠x4∧x2≠x5∧x2≠x6∧x2≠x7∧x3≠x0∧x3≠x1∧x3≠x2∧x3≠x4∧x3≠x5∧x3≠x6∧x3≠x7∧x4≠x0∧x4≠x1∧x4≠x2∧x4≠x3∧x4≠x5∧x4≠x6∧x4≠x7∧x5≠x0∧x5≠x1∧x5≠x2∧x5≠x3∧x5≠x4∧x5≠x6∧x5≠x7∧x6≠x0∧x6≠x1∧x6≠x2∧x6≠x3∧x6≠x4∧x6≠x5∧x6≠x7∧x7≠x0∧x7≠x1∧x7≠x2∧x7≠x3∧x7≠x4∧x7≠x5∧x7≠x6:=by and_intros<;>omega):x0≠x1∧x0≠x2∧x0≠x3∧x0≠x4∧x0≠x5∧x0≠x6∧x0≠x7∧x1≠x0∧x1≠x2∧x1≠x3∧x1≠x4∧x1≠x5∧x1≠x6∧x1≠x7∧x2≠x0∧x2≠x1∧x2≠x3∧x2≠x4∧x2≠x5∧x2≠x6∧x2≠x7∧x3≠x0∧x3≠x1∧x3≠x2∧x3≠x4∧x3≠x5∧x3≠x6∧x3≠x7∧x4≠x0∧x4≠x1∧x4≠x2∧x4≠x3∧x4≠x5∧x4≠x6∧x4≠x7∧x5≠x0∧x5≠x1∧x5≠x2∧x5≠x3∧x5≠x4∧x5≠x6∧x5≠x7∧x6≠x0∧x6≠x1∧x6≠x2∧x6≠x3∧x6≠x4∧x6≠x5∧x6≠x7∧x7≠x0∧x7≠x1∧x7≠x2∧x7≠x3∧x7≠x4∧x7≠x5∧x7≠x6:=z
end
theorem Gn {P : Program} {h : Heap} {f : FuncId} {fn : Func} {c : Code} {vc : VC} {args : List PV} {K : PV → Heap → Prop} (ts : List RS) (hf : P.funcs[f]? = some fn) (H : VW P (FK.std fn.ntmps) vc (retQ ts K) (argEnv 0 args) h)
  (hok:fnOk P f=true:=by kernel_rfl) (hb:fn.body=some c:=by rfl) (hr:rsOf P fn.results.toList=some ts:=by rfl) (hn:args.length≤fn.ntmps:=by exact Nat.le_of_ble_eq_true rfl) (hc:Za7 P fn.ntmps c=some vc:=by kernel_rfl):Zan P f args h K :=
 ACall_fn hf hok hb hr hn hc H
theorem Gp {P:Program} {f:FuncId} {fn:Func} {c:Code} {vc:VC} {args:List PV} {p:PV} (ts:List RS) (hp:Closed p) (hf:P.funcs[f]?=some fn) (H:VW P (FK.std fn.ntmps) vc (retQ ts (fun r h'=>View h' r p)) (argEnv 0 args) Heap.nil) (cl:ClosedL args:=by simp only [ClosedL,List.mem_cons,List.not_mem_nil,or_false,forall_eq_or_imp,forall_eq,false_implies,implies_true];repeat' (first  | exact cI _|exact cS _|exact cB _|exact closed_fn0 _|exact Zby|exact Zau (Un.closed _)|exact Zau (It.closed _)|exact Zau (EI.closed _)|exact Zau (Ac.closed _)|exact Zau (Wd.closed _)|exact Zau (St.closed _)|exact Zau (Sta.closed _)|exact closed_eis _|exact closed_acs _|exact closed_gzs _|exact Closed.of_scalar (scalar_int _ _)|exact closed_ro (Ac.closed _)|exact closed_ro (Gz.closed _)|exact Zau (Gz.closed _)|exact closed_strs _|exact Zak (fun w _=>Wd.closed w)|exact Zak (fun w _=>St.closed w)|exact Zak (fun w _=>Un.closed w)|exact Zak (fun w _=>It.closed w)|exact closed_sc _|exact closed_sps _|exact Zau (Sp.closed _)|exact closed_ro (EI.closed _)|exact closed_ro (Sta.closed _)|exact closed_ro (It.closed _)|exact closed_ro (by simp only [List.mem_cons,List.not_mem_nil,or_false,forall_eq];first|exact cI _|exact cS _|exact closed_eis _)|refine And.intro ?_ ?_)) (hok:fnOk P f=true:=by kernel_rfl) (hb:fn.body=some c:=by rfl) (hr:rsOf P fn.results.toList=some ts:=by rfl) (hn:args.length≤fn.ntmps:=by exact Nat.le_of_ble_eq_true rfl) (hc:Za7 P fn.ntmps c=some vc:=by kernel_rfl):Zaj P f args p:=Zal (Gn ts hf H hok hb hr hn hc) hp cl
end Go.VM
