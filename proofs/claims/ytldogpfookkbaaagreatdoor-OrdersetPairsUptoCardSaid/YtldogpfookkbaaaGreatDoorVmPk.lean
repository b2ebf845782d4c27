import Derived.Test.YtldogpfookkbaaaGreatDoorVmZ
set_option linter.all false
set_option maxRecDepth 20000
set_option maxHeartbeats 0
namespace Go.VM
open Go
theorem an{p q:Prop}(a:p)(b:q):p∧q:=⟨a,b⟩
def Vh:=an @Heap.le.eq_1<|an @HL.le.eq_1<|an @HL.le.eq_2<|an @Heap.get.eq_1<|an @HL.get.eq_1 @HL.get.eq_2
def vmA0:=
 an @Xdk.eq_1<|an @Xdk.eq_2<|an @Xdk.eq_def<|an @Zfd<|an @Zjv<|an @Znz<|an @Zr5<|an @Zr6<|an @Z01<|an @Zat.eq_1<|an @Zat.eq_2<|an @Zat.eq_3<|an @Zat.eq_4<|an @Zat.eq_5<|an @Zat.eq_6<|an @Zat.eq_7<|an @Zat.eq_8<|an @Zat.eq_9<|an @Zat.eq_10<|an @Zat.eq_11<|an @Zat.eq_12<|an @Zat.eq_13<|an @Zat.eq_def<|an @guardOf.eq_1<|an @guardOf.eq_2<|an @guardOf.eq_3<|an @guardOf.eq_def<|an @Zjw<|an @Zr9<|
 @Zr7
def vmA1:=
 an @Zm6<|an @Zm7<|an @Zr8<|an @Zem.eq_1<|an @Zem.eq_2<|an @VOp.isIaddr.eq_1<|an @VOp.isIaddr.eq_2<|an @VOp.isIaddr.eq_def<|an @QW.eq_1<|an @dok.eq_1<|an @dok.eq_2<|an @dok.eq_def<|an @Zwz.eq_1<|an @Zwz.eq_2<|an @Zwz.eq_def<|an @VOp.pure.eq_1<|an @VOp.pure.eq_2<|an @VOp.pure.eq_3<|an @VOp.pure.eq_4<|an @VOp.pure.eq_5<|an @VOp.pure.eq_6<|an @VOp.pure.eq_7<|an @VOp.pure.eq_8<|an @VOp.pure.eq_9<|an @VOp.pure.eq_10<|an @VOp.pure.eq_11<|an @VOp.pure.eq_12<|an @VOp.pure.eq_13<|an @VOp.pure.eq_14<|
 @VOp.pure.eq_15
def vmA2:=
 an @VOp.pure.eq_16<|an @VOp.pure.eq_17<|an @VOp.pure.eq_18<|an @VOp.pure.eq_19<|an @VOp.pure.eq_20<|an @VOp.pure.eq_21<|an @VOp.pure.eq_22<|an @VOp.pure.eq_23<|an @VOp.pure.eq_def<|an @VOp.simple.eq_1<|an @VOp.simple.eq_2<|an @VOp.simple.eq_3<|an @VOp.simple.eq_4<|an @VOp.simple.eq_5<|an @VOp.simple.eq_6<|an @VOp.simple.eq_7<|an @VOp.simple.eq_8<|an @VOp.simple.eq_9<|an @VOp.simple.eq_def<|an @VOp.det.eq_1<|an @VOp.det.eq_2<|an @VOp.det.eq_def<|an @pok.eq_1<|an @pok.eq_2<|an @pok.eq_3<|an @pok.eq_4<|an @pok.eq_5<|an @pok.eq_6<|an @pok.eq_7<|
 @pok.eq_8
def vmA3:=
 an @pok.eq_9<|an @pok.eq_10<|an @pok.eq_11<|an @pok.eq_12<|an @pok.eq_13<|an @pok.eq_14<|an @pok.eq_15<|an @pok.eq_16<|an @pok.eq_17<|an @pok.eq_18<|an @pok.eq_19<|an @pok.eq_20<|an @pok.eq_21<|an @pok.eq_22<|an @pok.eq_23<|an @pok.eq_def<|an @Zcq.eq_1<|an @Zcq.eq_2<|an @Zcq.eq_3<|an @Zcq.eq_4<|an @Zcq.eq_5<|an @Zcq.eq_6<|an @Zcq.eq_7<|an @Zcq.eq_8<|an @Zcq.eq_9<|an @Zcq.eq_10<|an @Zcq.eq_11<|an @Zcq.eq_12<|an @Zcq.eq_13<|
 @Zcq.eq_14
def vmA4:=
 an @Zcq.eq_15<|an @Zcq.eq_16<|an @Zcq.eq_17<|an @Zcq.eq_18<|an @Zcq.eq_19<|an @Zcq.eq_20<|an @Zcq.eq_21<|an @Zcq.eq_22<|an @Zcq.eq_23<|an @Zcq.eq_def<|an @VA.ev.eq_1<|an @VA.ev.eq_2<|an @VA.ev.eq_def<|an @Env.get.eq_1<|an @Env.get.eq_2<|an @Env.put.eq_1<|an @Env.put.eq_2<|an @Env.put.eq_def<|an @Env.keep.eq_1<|an @Env.keep.eq_2<|an @Zec.eq_1<|an @Zec.eq_2<|an @Zg9.eq_1<|an @Zg9.eq_2<|an @Zg9.eq_def<|an @Zim.eq_1<|an @Zim.eq_2<|an @Zim.eq_def<|an @Z42.eq_1<|
 @Z42.eq_2
def vmA5:=
 an @Z42.eq_3<|an @Z42.eq_def<|an @Ztf.eq_1<|an @Ztf.eq_2<|an @Ztf.eq_def<|an @Zie.eq_1<|an @Zie.eq_2<|an @RS.ev.eq_1<|an @RS.ev.eq_2<|an @RS.ev.eq_def<|an @RS.ok.eq_1<|an @RS.ok.eq_2<|an @RS.ok.eq_def<|an @gd.eq_1<|an @Zpl.eq_1<|an @Zpl.eq_2<|an @Zpl.eq_def<|an @isBool.eq_1<|an @isBool.eq_2<|an @isBool.eq_def<|an @Z2j.eq_1<|an @Zmt.eq_1<|an @Zmt.eq_2<|an @Zmt.eq_3<|an @Zmt.eq_4<|an @Zmt.eq_5<|an @Zmt.eq_6<|an @Zmt.eq_7<|an @Zmt.eq_8<|
 @Zmt.eq_9
def vmA6:=
 an @Zmt.eq_10<|an @Zmt.eq_11<|an @Zmt.eq_12<|an @Zmt.eq_13<|an @Zmt.eq_14<|an @Zmt.eq_15<|an @Zmt.eq_16<|an @Zmt.eq_17<|an @Zmt.eq_def<|an @Zwj.eq_1<|an @Zwj.eq_2<|an @Zwj.eq_3<|an @Zwj.eq_def<|an @Zdd.eq_1<|an @Zdd.eq_2<|an @Zdd.eq_3<|an @Zdd.eq_4<|an @Zdd.eq_5<|an @Zdd.eq_6<|an @Zdd.eq_7<|an @Zdd.eq_8<|an @Zdd.eq_9<|an @Zdd.eq_10<|an @Zdd.eq_11<|an @Zdd.eq_12<|an @Zdd.eq_13<|an @Zdd.eq_14<|an @Zdd.eq_def<|an @Z0o.eq_1<|
 @Z0o.eq_2
def vmA7:=
 an @Z0o.eq_3<|an @Z0o.eq_4<|an @Z0o.eq_5<|an @Z0o.eq_6<|an @Z0o.eq_7<|an @Z0o.eq_8<|an @Z0o.eq_def<|an @Zpm.eq_1<|an @Zpm.eq_2<|an @Zpm.eq_def<|an @Zrs.eq_1<|an @Zrs.eq_2<|an @Zrs.eq_3<|an @Zrs.eq_def<|an @Zfm.eq_1<|an @Zfm.eq_2<|an @Zfm.eq_3<|an @Zfm.eq_4<|an @Zfm.eq_def<|an @unV.eq_1<|an @unV.eq_2<|an @unV.eq_3<|an @unV.eq_4<|an @unV.eq_5<|an @unV.eq_def<|an @Z41.eq_1<|an @Z41.eq_2<|an @Z41.eq_3<|an @Z41.eq_4<|
 @Z41.eq_5
def vmA8:=
 an @Z41.eq_def<|an @Ztl.eq_1<|an @Ztl.eq_2<|an @Ztl.eq_def<|an @isInt.eq_1<|an @isInt.eq_2<|an @isInt.eq_def<|an @isStr.eq_1<|an @isStr.eq_2<|an @isStr.eq_def<|an @numOf.eq_1<|an @numOf.eq_2<|an @numOf.eq_def<|an @loV.eq_1<|an @loV.eq_2<|an @loV.eq_def<|an @hiV.eq_1<|an @hiV.eq_2<|an @hiV.eq_def<|an @Zmu.eq_1<|an @Zmu.eq_2<|an @Zmu.eq_3<|an @Zmu.eq_4<|an @Zmu.eq_def<|an @Zdr.eq_1<|an @Zdr.eq_2<|an @Zdr.eq_3<|an @Zdr.eq_def<|an @Zgv.eq_1<|
 @Zgv.eq_2
def vmA9:=
 an @Zgv.eq_3<|an @Zgv.eq_4<|an @Zgv.eq_5<|an @Zgv.eq_def<|an @Zes.eq_1<|an @Zes.eq_2<|an @Zes.eq_3<|an @Zes.eq_4<|an @Zes.eq_5<|an @Zes.eq_def<|an @Zjf.eq_1<|an @Zjf.eq_2<|an @Zjf.eq_3<|an @Zjf.eq_def<|an @Zii.eq_1<|an @Zii.eq_2<|an @Zii.eq_3<|an @Zii.eq_def<|an @Za9.eq_1<|an @Za9.eq_2<|an @Za9.eq_3<|an @Za9.eq_def<|an @Zfn.eq_1<|an @Zfn.eq_2<|an @Zfn.eq_3<|an @Zfn.eq_def<|an @Za5.eq_1<|an @Za5.eq_2<|an @Za5.eq_def<|
 @Ze8.eq_1
def vmA10:=
 an @Ze8.eq_2<|an @Ze8.eq_def<|an @Zij.eq_1<|an @Zij.eq_2<|an @Zij.eq_3<|an @Zij.eq_def<|an @Zgb.eq_1<|an @Zgb.eq_2<|an @Zgb.eq_3<|an @Zgb.eq_def<|an @Z9t.eq_1<|an @Z9t.eq_2<|an @Z9t.eq_def<|an @Ztm.eq_1<|an @Ztm.eq_2<|an @Ztm.eq_def<|an @Ziw.eq_1<|an @Ziw.eq_2<|an @Ziw.eq_3<|an @Ziw.eq_4<|an @Ziw.eq_5<|an @Ziw.eq_def<|an @Xcd.eq_1<|an @Xcd.eq_2<|an @Xcd.eq_def<|an @Zrt.eq_1<|an @Zrt.eq_2<|an @Zrt.eq_def<|an @Zg2.eq_1<|
 @Zg2.eq_2
def vmA11:=
 an @Ze9.eq_1<|an @Ze9.eq_2<|an @mmV.eq_1<|an @mmV.eq_2<|an @mmV.eq_def<|an @PV.cells.eq_1<|an @PV.cells.eq_2<|an @PV.cells.eq_def<|an @PV.fits.eq_1<|an @PV.fits.eq_2<|an @PV.fits.eq_3<|an @PV.fits.eq_4<|an @PV.fits.eq_5<|an @PV.fits.eq_def<|an @overlay.eq_1<|an @PV.nth.eq_1<|an @PV.row.eq_1<|an @Zk3.eq_1<|an @Zk3.eq_2<|an @Zk3.eq_def<|an @Zbl.eq_1<|an @Zbl.eq_2<|an @Zbl.eq_3<|an @Zbl.eq_def<|an @Zg7.eq_1<|an @Zg7.eq_2<|an @Zg7.eq_3<|an @Zg7.eq_4<|an @Zg7.eq_def<|
 @Zl6.eq_1
def vmA12:=
 an @Zc3.eq_1<|an @Zc3.eq_2<|an @Zc3.eq_def<|an @Zc4.eq_1<|an @Zbn.eq_1<|an @Zbn.eq_2<|an @Zdo.eq_1<|an @Zdo.eq_2<|an @Zfo.eq_1<|an @Zfo.eq_2<|an @Zfo.eq_def<|an @Zct.eq_1<|an @Zct.eq_2<|an @Zct.eq_def<|an @Heap.get.eq_1<|an @Heap.set.eq_1<|an @Heap.del.eq_1<|an @Heap.le.eq_1<|an @HL.get.eq_1<|an @HL.get.eq_2<|an @HL.set.eq_1<|an @HL.set.eq_2<|an @HL.del.eq_1<|an @HL.del.eq_2<|an @HL.le.eq_1<|an @HL.le.eq_2<|an @Heap.push.eq_1<|an @Heap.nil.eq_1<|an @Nat.le_refl<|
 @Nat.add_eq_left
def vmA13:=
 an @Nat.left_eq_add<|an @Nat.succ_ne_self<|an @Nat.one_ne_zero<|an @Env.le.eq_1<|an @Env.le.eq_2<|an @Zbj.eq_1<|an @Zbj.eq_2<|an @Zbj.eq_def<|an @Zgd.eq_1<|an @Zgd.eq_2<|an @Zgd.eq_def<|an @Zbw.eq_1<|an @Zbw.eq_2<|an @Zbw.eq_def<|an @Zk8.eq_1<|an @Zk8.eq_2<|an @Zk8.eq_3<|an @Zk8.eq_def<|an @Zay.eq_1<|an @Zay.eq_2<|an @Zay.eq_3<|an @Zay.eq_4<|an @Zay.eq_def<|an @Zgc.eq_1<|an @Zgc.eq_2<|an @Zgc.eq_3<|an @Zgc.eq_4<|an @Zgc.eq_5<|an @Zgc.eq_def<|
 @Zb2.eq_1
def vmA14:=
 an @Zb2.eq_2<|an @Zcs.eq_1<|an @Zcs.eq_2<|an @Zga.eq_1<|an @Zga.eq_2<|an @Zga.eq_3<|an @Zg1.eq_1<|an @Zg1.eq_2<|an @Zg1.eq_3<|an @Zg1.eq_4<|an @Zg1.eq_def<|an @Zaz.eq_1<|an @Zaz.eq_2<|an @Zbo.eq_1<|an @Zbo.eq_2<|an @Zbo.eq_3<|an @Zbo.eq_4<|an @Zbo.eq_def<|an @Zeb.eq_1<|an @Zeb.eq_2<|an @Zeb.eq_def<|an @Zfh.eq_1<|an @Zfh.eq_2<|an @Zfh.eq_def<|an @AB.live.eq_1<|an @AB.live.eq_2<|an @AB.live.eq_def<|an @pxV.eq_1<|an @pxV.eq_2<|
 @pxV.eq_3
def vmA15:=
 an @pxV.eq_4<|an @pxV.eq_5<|an @pxV.eq_6<|an @pxV.eq_7<|an @pxV.eq_8<|an @pxV.eq_def<|an @Zte.eq_1<|an @Zte.eq_2<|an @Zte.eq_3<|an @Zte.eq_4<|an @Zte.eq_5<|an @Zte.eq_6<|an @Zte.eq_7<|an @Zte.eq_8<|an @Zte.eq_def<|an @fxV.eq_1<|an @fxV.eq_2<|an @fxV.eq_3<|an @fxV.eq_4<|an @fxV.eq_def<|an @Zrz.eq_1<|an @Zrz.eq_2<|an @Zrz.eq_3<|an @Zrz.eq_4<|an @Zrz.eq_5<|an @Zrz.eq_6<|an @Zrz.eq_7<|an @Zrz.eq_8<|an @Zrz.eq_9<|
 @Zrz.eq_def
def vmA16:=
 an @Znh.eq_1<|an @Znh.eq_2<|an @Znh.eq_3<|an @Znh.eq_4<|an @Znh.eq_def<|an @Zik.eq_1<|an @Zik.eq_2<|an @Zik.eq_3<|an @Zik.eq_4<|an @Zik.eq_def<|an @isNil.eq_1<|an @isNil.eq_2<|an @isNil.eq_3<|an @isNil.eq_4<|an @isNil.eq_5<|an @isNil.eq_def<|an @notNil.eq_1<|an @notNil.eq_2<|an @notNil.eq_3<|an @notNil.eq_4<|an @notNil.eq_5<|an @notNil.eq_6<|an @notNil.eq_7<|an @notNil.eq_def<|an @List.map.eq_1.{0,0}<|an @List.map.eq_2.{0,0}<|an @List.set.eq_1.{0}<|an @List.set.eq_2.{0}<|an @List.set.eq_3.{0}<|
 @List.replicate.eq_1.{0}
def vmA17:=
 an @List.replicate.eq_2.{0}<|an @List.length.eq_1.{0}<|an @List.length.eq_2.{0}<|an @List.getD_cons_zero.{0}<|an @List.getD_cons_succ.{0}<|an @List.getD_nil.{0}<|an @List.take.eq_1.{0}<|an @List.take.eq_2.{0}<|an @List.take.eq_3.{0}<|an @List.drop.eq_1.{0}<|an @List.drop.eq_2.{0}<|an @List.drop.eq_3.{0}<|an @List.take_zero.{0}<|an @List.drop_zero.{0}<|an @List.take_succ_cons.{0}<|an @List.drop_succ_cons.{0}<|an @List.append.eq_1.{0}<|an @List.append.eq_2.{0}<|an @List.cons_append.{0}<|an @List.nil_append.{0}<|an @Option.map.eq_1.{0,0}<|an @Option.map.eq_2.{0,0}<|an @Option.map.eq_def.{0,0}<|an @Bool.false_eq_true<|an @Bool.true_eq_false<|an @ite_true.{1}<|an @ite_true.{0}<|an @ite_false.{1}<|an @ite_false.{0}<|
 @if_true.{1}
def vmA18:=
 an @if_true.{0}<|an @if_false.{1}<|an @if_false.{0}<|an @true_and<|an @and_true<|an @implies_true.{1}<|an @implies_true.{0}<|an @forall_const.{1}<|an @forall_const.{0}<|an @ne_eq.{1}<|an @not_false_eq_true<|an @BEq.rfl.{0}<|an @beq_self_eq_true.{0}<|an @Option.some.injEq.{0}<|an @Nat.zero_add<|an @Nat.add_zero<|an @List.length_cons.{0}<|an @List.length_nil.{0}<|an @true_implies<|an @imp_self<|an @Int.toNat_natCast<|an @Bool.not_false<|
 @Bool.not_true
def vmA:=And.intro vmA0<|And.intro vmA1<|And.intro vmA2<|And.intro vmA3<|And.intro vmA4<|And.intro vmA5<|And.intro vmA6<|And.intro vmA7<|And.intro vmA8<|And.intro vmA9<|And.intro vmA10<|And.intro vmA11<|And.intro vmA12<|And.intro vmA13<|And.intro vmA14<|And.intro vmA15<|And.intro vmA16<|And.intro vmA17<|vmA18
theorem vmL:type_of% vmA:=vmA
theorem xlm{α β:Type}{f:α→β}{l:List α}:(l.map f).length=l.length:=Zyc f
theorem xan{α:Type}{l:List α}:l++[]=l:=Zyj l
theorem xok{A B C:Prop}(a:A)(z:B=C):(A∧B)=C:=by rw[←z];exact propext ⟨(·.2),fun b=>⟨a,b⟩⟩
theorem x2{A B:Prop}(a:A)(b:B):A∧B:=⟨a,b⟩
theorem x3{A B C:Prop}(a:A)(b:B)(c:C):A∧B∧C:=⟨a,b,c⟩
theorem x4{A B C D:Prop}(a:A)(b:B)(c:C)(d:D):A∧B∧C∧D:=⟨a,b,c,d⟩
theorem x5{A B C D E:Prop}(a:A)(b:B)(c:C)(d:D)(e:E):A∧B∧C∧D∧E:=⟨a,b,c,d,e⟩
section
variable {P:Program} {N:FK} {Q:Exit→Env→Heap→Prop} {e:Env} {h:Heap}
theorem Sp0{X:Prop}{Y:Prop}(k:Y)(z:Y→X:=by intro k;(try simp only[vmL,Nat.reduceEqDiff,Nat.reduceAdd,Nat.reduceLT,Nat.reduceLeDiff,Nat.reduceSub,Nat.reduceMul,reduceIte,reduceCtorEq,Int.reduceToNat]);exact k):X:=z k
theorem Sp1{X:Prop}{A Y:Prop}(a:A)(k:Y)(z:A→Y→X:=by intro a k;(try simp only[vmL,Nat.reduceEqDiff,Nat.reduceAdd,Nat.reduceLT,Nat.reduceLeDiff,Nat.reduceSub,Nat.reduceMul,reduceIte,reduceCtorEq,Int.reduceToNat,a]);exact k):X:=z a k
theorem Sc0{X:Prop}(z:X:=by simp only[vmL,Nat.reduceEqDiff,Nat.reduceAdd,Nat.reduceLT,Nat.reduceLeDiff,Nat.reduceSub,Nat.reduceMul,reduceIte,reduceCtorEq,Int.reduceToNat]):X:=z
theorem Sc1{X:Prop}{A:Prop}(a:A)(z:A→X:=by intro a;simp only[vmL,Nat.reduceEqDiff,Nat.reduceAdd,Nat.reduceLT,Nat.reduceLeDiff,Nat.reduceSub,Nat.reduceMul,reduceIte,reduceCtorEq,Int.reduceToNat,a]):X:=z a
theorem Rp0{q:List VOper}{x:VC}(l:List Nat){Y:Prop}(k:Y)(z:Y→Zfq P q (fun e' h'=>Zg9 (VW P N x Q) Q .normal (Env.keep l e') h') e h:=by intro k;(try simp only[vmL,Nat.reduceEqDiff,Nat.reduceAdd,Nat.reduceLT,Nat.reduceLeDiff,Nat.reduceSub,Nat.reduceMul,reduceIte,reduceCtorEq,Int.reduceToNat]);exact k):VW P N (.seq (.region q false) x) Q e h:=Zaa (Zad l (z k))
theorem Rp1{q:List VOper}{x:VC}(l:List Nat){A Y:Prop}(a:A)(k:Y)(z:A→Y→Zfq P q (fun e' h'=>Zg9 (VW P N x Q) Q .normal (Env.keep l e') h') e h:=by intro a k;(try simp only[vmL,Nat.reduceEqDiff,Nat.reduceAdd,Nat.reduceLT,Nat.reduceLeDiff,Nat.reduceSub,Nat.reduceMul,reduceIte,reduceCtorEq,Int.reduceToNat,a]);exact k):VW P N (.seq (.region q false) x) Q e h:=Zaa (Zad l (z a k))
theorem rp0{q:List VOper}(l:List Nat){Y:Prop}(k:Y)(z:Y→Zfq P q (fun e' h'=>Q .normal (Env.keep l e') h') e h:=by intro k;(try simp only[vmL,Nat.reduceEqDiff,Nat.reduceAdd,Nat.reduceLT,Nat.reduceLeDiff,Nat.reduceSub,Nat.reduceMul,reduceIte,reduceCtorEq,Int.reduceToNat]);exact k):VW P N (.region q false) Q e h:=Zad l (z k)
theorem rp1{q:List VOper}(l:List Nat){A Y:Prop}(a:A)(k:Y)(z:A→Y→Zfq P q (fun e' h'=>Q .normal (Env.keep l e') h') e h:=by intro a k;(try simp only[vmL,Nat.reduceEqDiff,Nat.reduceAdd,Nat.reduceLT,Nat.reduceLeDiff,Nat.reduceSub,Nat.reduceMul,reduceIte,reduceCtorEq,Int.reduceToNat,a]);exact k):VW P N (.region q false) Q e h:=Zad l (z a k)
theorem Kp0  {Y:Prop}(k:Y)(z:Y→Q .normal e h:=by intro k;(try simp only[vmL,Nat.reduceEqDiff,Nat.reduceAdd,Nat.reduceLT,Nat.reduceLeDiff,Nat.reduceSub,Nat.reduceMul,reduceIte,reduceCtorEq,Int.reduceToNat]);exact k):VW P N .skip Q e h:=Znu (z k)
theorem Kp1  {A Y:Prop}(a:A)(k:Y)(z:A→Y→Q .normal e h:=by intro a k;(try simp only[vmL,Nat.reduceEqDiff,Nat.reduceAdd,Nat.reduceLT,Nat.reduceLeDiff,Nat.reduceSub,Nat.reduceMul,reduceIte,reduceCtorEq,Int.reduceToNat,a]);exact k):VW P N .skip Q e h:=Znu (z a k)
theorem Tp0  {Y:Prop}(k:Y)(z:Y→Q .ret e h:=by intro k;(try simp only[vmL,Nat.reduceEqDiff,Nat.reduceAdd,Nat.reduceLT,Nat.reduceLeDiff,Nat.reduceSub,Nat.reduceMul,reduceIte,reduceCtorEq,Int.reduceToNat]);exact k):VW P N .ret Q e h:=Zd3 (z k)
theorem Tp1  {A Y:Prop}(a:A)(k:Y)(z:A→Y→Q .ret e h:=by intro a k;(try simp only[vmL,Nat.reduceEqDiff,Nat.reduceAdd,Nat.reduceLT,Nat.reduceLeDiff,Nat.reduceSub,Nat.reduceMul,reduceIte,reduceCtorEq,Int.reduceToNat,a]);exact k):VW P N .ret Q e h:=Zd3 (z a k)
theorem Ep0{i:Nat}{Y:Prop}(k:Y)(z:Y→Q (.exit i) e h:=by intro k;(try simp only[vmL,Nat.reduceEqDiff,Nat.reduceAdd,Nat.reduceLT,Nat.reduceLeDiff,Nat.reduceSub,Nat.reduceMul,reduceIte,reduceCtorEq,Int.reduceToNat]);exact k):VW P N (.exit i) Q e h:=Z5r (z k)
theorem Ep1{i:Nat}{A Y:Prop}(a:A)(k:Y)(z:A→Y→Q (.exit i) e h:=by intro a k;(try simp only[vmL,Nat.reduceEqDiff,Nat.reduceAdd,Nat.reduceLT,Nat.reduceLeDiff,Nat.reduceSub,Nat.reduceMul,reduceIte,reduceCtorEq,Int.reduceToNat,a]);exact k):VW P N (.exit i) Q e h:=Z5r (z a k)
theorem Ap0{f:FuncId}{args:List PV}{p:PV}{K:PV→Heap→Prop}(H:Zg3 P f args p){Y:Prop}(k:Y)(z:Y→K p h:=by intro k;(try simp only[vmL,Nat.reduceEqDiff,Nat.reduceAdd,Nat.reduceLT,Nat.reduceLeDiff,Nat.reduceSub,Nat.reduceMul,reduceIte,reduceCtorEq,Int.reduceToNat]);exact k):Zak P f args h K:=Zag H (z k)
theorem Ap1{f:FuncId}{args:List PV}{p:PV}{K:PV→Heap→Prop}(H:Zg3 P f args p){A Y:Prop}(a:A)(k:Y)(z:A→Y→K p h:=by intro a k;(try simp only[vmL,Nat.reduceEqDiff,Nat.reduceAdd,Nat.reduceLT,Nat.reduceLeDiff,Nat.reduceSub,Nat.reduceMul,reduceIte,reduceCtorEq,Int.reduceToNat,a]);exact k):Zak P f args h K:=Zag H (z a k)
theorem Fp0{v:VA}{x:VC}{Y:Prop}(k:Y)(z:Y→Q .normal e h:=by intro k;(try simp only[vmL,Nat.reduceEqDiff,Nat.reduceAdd,Nat.reduceLT,Nat.reduceLeDiff,Nat.reduceSub,Nat.reduceMul,reduceIte,reduceCtorEq,Int.reduceToNat]);exact k)(hb:v.ev e=.bool false:=by rfl):VW P N (.cond v x .skip) Q e h:=Zae hb (fun h=>by cases h) (fun _=>Znu (z k))
theorem Fp1{v:VA}{x:VC}{A Y:Prop}(a:A)(k:Y)(z:A→Y→Q .normal e h:=by intro a k;(try simp only[vmL,Nat.reduceEqDiff,Nat.reduceAdd,Nat.reduceLT,Nat.reduceLeDiff,Nat.reduceSub,Nat.reduceMul,reduceIte,reduceCtorEq,Int.reduceToNat,a]);exact k)(hb:v.ev e=.bool false:=by rfl):VW P N (.cond v x .skip) Q e h:=Zae hb (fun h=>by cases h) (fun _=>Znu (z a k))
theorem Sr0{X:Prop}(z:X:=by first|(simp only[vmL,Nat.reduceEqDiff,Nat.reduceAdd,Nat.reduceLT,Nat.reduceLeDiff,Nat.reduceSub,Nat.reduceMul,reduceIte,reduceCtorEq,Int.reduceToNat];done)|((try simp only[vmL,Nat.reduceEqDiff,Nat.reduceAdd,Nat.reduceLT,Nat.reduceLeDiff,Nat.reduceSub,Nat.reduceMul,reduceIte,reduceCtorEq,Int.reduceToNat]);rfl)):X:=z
theorem Sr1{X A:Prop}(a:A)(z:A→X:=by intro a;first|(simp only[vmL,Nat.reduceEqDiff,Nat.reduceAdd,Nat.reduceLT,Nat.reduceLeDiff,Nat.reduceSub,Nat.reduceMul,reduceIte,reduceCtorEq,Int.reduceToNat,a];done)|((try simp only[vmL,Nat.reduceEqDiff,Nat.reduceAdd,Nat.reduceLT,Nat.reduceLeDiff,Nat.reduceSub,Nat.reduceMul,reduceIte,reduceCtorEq,Int.reduceToNat,a]);rfl)):X:=z a
theorem Tv0(z:Q .ret e h:=by(try simp only[vmL,Nat.reduceEqDiff,Nat.reduceAdd,Nat.reduceLT,Nat.reduceLeDiff,Nat.reduceSub,Nat.reduceMul,reduceIte,reduceCtorEq,Int.reduceToNat]);exact Vr):VW P N .ret Q e h:=Zd3 z
theorem Tv1{A:Prop}(a:A)(z:A→Q .ret e h:=by intro a;(try simp only[vmL,Nat.reduceEqDiff,Nat.reduceAdd,Nat.reduceLT,Nat.reduceLeDiff,Nat.reduceSub,Nat.reduceMul,reduceIte,reduceCtorEq,Int.reduceToNat,a]);exact Vr):VW P N .ret Q e h:=Zd3 (z a)
theorem Rv0{q:List VOper}{x:VC}(l:List Nat)(z:Zfq P q (fun e' h'=>Zg9 (VW P N x Q) Q .normal (Env.keep l e') h') e h:=by(try simp only[vmL,Nat.reduceEqDiff,Nat.reduceAdd,Nat.reduceLT,Nat.reduceLeDiff,Nat.reduceSub,Nat.reduceMul,reduceIte,reduceCtorEq,Int.reduceToNat]);refine Zd3 ?_;(try simp only[vmL,Nat.reduceEqDiff,Nat.reduceAdd,Nat.reduceLT,Nat.reduceLeDiff,Nat.reduceSub,Nat.reduceMul,reduceIte,reduceCtorEq,Int.reduceToNat]);exact Vr):VW P N (.seq (.region q false) x) Q e h:=Zaa (Zad l z)
theorem Fn0{X:Prop}(z:X:=by(try simp only[vmL,Nat.reduceEqDiff,Nat.reduceAdd,Nat.reduceLT,Nat.reduceLeDiff,Nat.reduceSub,Nat.reduceMul,reduceIte,reduceCtorEq,Int.reduceToNat]);all_goals (repeat' (first|rfl|trivial|omega|(simp only[];omega)|refine And.intro ?_ ?_))):X:=z
theorem Fn1{X A:Prop}(a:A)(z:A→X:=by intro a;(try simp only[vmL,Nat.reduceEqDiff,Nat.reduceAdd,Nat.reduceLT,Nat.reduceLeDiff,Nat.reduceSub,Nat.reduceMul,reduceIte,reduceCtorEq,Int.reduceToNat,a]);all_goals (repeat' (first|rfl|trivial|omega|(simp only[];omega)|refine And.intro ?_ ?_))):X:=z a
theorem Ok{X Y:Prop}(k:Y)(z:X=Y:=by(repeat (with_reducible apply xok;first|omega|(with_reducible constructor<;>omega)|exact False.elim|exact⟨⟩));exact rfl):X:=z.mpr k
theorem Ct{v:VA}{x y:VC}(k:VW P N x Q e h)(hb:v.ev e=.bool true:=by rfl):VW P N (.cond v x y) Q e h:=Zae hb (fun _=>k) (fun h=>by cases h)
theorem Cf{v:VA}{x y:VC}(k:VW P N y Q e h)(hb:v.ev e=.bool false:=by rfl):VW P N (.cond v x y) Q e h:=Zae hb (fun h=>by cases h) (fun _=>k)
theorem N2(x0 x1:Nat)(z:x0≠x1∧x1≠x0:=by and_intros<;>omega):x0≠x1∧x1≠x0:=z
theorem N3(x0 x1 x2:Nat)(z:x0≠x1∧x0≠x2∧x1≠x0∧x1≠x2∧x2≠x0∧x2≠x1:=by and_intros<;>omega):x0≠x1∧x0≠x2∧x1≠x0∧x1≠x2∧x2≠x0∧x2≠x1:=z
theorem N4(x0 x1 x2 x3:Nat)(z:x0≠x1∧x0≠x2∧x0≠x3∧x1≠x0∧x1≠x2∧x1≠x3∧x2≠x0∧x2≠x1∧x2≠x3∧x3≠x0∧x3≠x1∧x3≠x2:=by and_intros<;>omega):x0≠x1∧x0≠x2∧x0≠x3∧x1≠x0∧x1≠x2∧x1≠x3∧x2≠x0∧x2≠x1∧x2≠x3∧x3≠x0∧x3≠x1∧x3≠x2:=z
theorem N5(x0 x1 x2 x3 x4:Nat)(z:x0≠x1∧x0≠x2∧x0≠x3∧x0≠x4∧x1≠x0∧x1≠x2∧x1≠x3∧x1≠x4∧x2≠x0∧x2≠x1∧x2≠x3∧x2≠x4∧x3≠x0∧x3≠x1∧x3≠x2∧x3≠x4∧x4≠x0∧x4≠x1∧x4≠x2∧x4≠x3:=by and_intros<;>omega):x0≠x1∧x0≠x2∧x0≠x3∧x0≠x4∧x1≠x0∧x1≠x2∧x1≠x3∧x1≠x4∧x2≠x0∧x2≠x1∧x2≠x3∧x2≠x4∧x3≠x0∧x3≠x1∧x3≠x2∧x3≠x4∧x4≠x0∧x4≠x1∧x4≠x2∧x4≠x3:=z
theorem N6(x0 x1 x2 x3 x4 x5:Nat)(z:x0≠x1∧x0≠x2∧x0≠x3∧x0≠x4∧x0≠x5∧x1≠x0∧x1≠x2∧x1≠x3∧x1≠x4∧x1≠x5∧x2≠x0∧x2≠x1∧x2≠x3∧x2≠x4∧x2≠x5∧x3≠x0∧x3≠x1∧x3≠x2∧x3≠x4∧x3≠x5∧x4≠x0∧x4≠x1∧x4≠x2∧x4≠x3∧x4≠x5∧x5≠x0∧x5≠x1∧x5≠x2∧x5≠x3∧x5≠x4:=by and_intros<;>omega):x0≠x1∧x0≠x2∧x0≠x3∧x0≠x4∧x0≠x5∧x1≠x0∧x1≠x2∧x1≠x3∧x1≠x4∧x1≠x5∧x2≠x0∧x2≠x1∧x2≠x3∧x2≠x4∧x2≠x5∧x3≠x0∧x3≠x1∧x3≠x2∧x3≠x4∧x3≠x5∧x4≠x0∧x4≠x1∧x4≠x2∧x4≠x3∧x4≠x5∧x5≠x0∧x5≠x1∧x5≠x2∧x5≠x3∧x5≠x4:=z
theorem N7(x0 x1 x2 x3 x4 x5 x6:Nat)(z:x0≠x1∧x0≠x2∧x0≠x3∧x0≠x4∧x0≠x5∧x0≠x6∧x1≠x0∧x1≠x2∧x1≠x3∧x1≠x4∧x1≠x5∧x1≠x6∧x2≠x0∧x2≠x1∧x2≠x3∧x2≠x4∧x2≠x5∧x2≠x6∧x3≠x0∧x3≠x1∧x3≠x2∧x3≠x4∧x3≠x5∧x3≠x6∧x4≠x0∧x4≠x1∧x4≠x2∧x4≠x3∧x4≠x5∧x4≠x6∧x5≠x0∧x5≠x1∧x5≠x2∧x5≠x3∧x5≠x4∧x5≠x6∧x6≠x0∧x6≠x1∧x6≠x2∧x6≠x3∧x6≠x4∧x6≠x5:=by and_intros<;>omega):x0≠x1∧x0≠x2∧x0≠x3∧x0≠x4∧x0≠x5∧x0≠x6∧x1≠x0∧x1≠x2∧x1≠x3∧x1≠x4∧x1≠x5∧x1≠x6∧x2≠x0∧x2≠x1∧x2≠x3∧x2≠x4∧x2≠x5∧x2≠x6∧x3≠x0∧x3≠x1∧x3≠x2∧x3≠x4∧x3≠x5∧x3≠x6∧x4≠x0∧x4≠x1∧x4≠x2∧x4≠x3∧x4≠x5∧x4≠x6∧x5≠x0∧x5≠x1∧x5≠x2∧x5≠x3∧x5≠x4∧x5≠x6∧x6≠x0∧x6≠x1∧x6≠x2∧x6≠x3∧x6≠x4∧x6≠x5:=z
theorem N8(x0 x1 x2 x3 x4 x5 x6 x7:Nat)(z:x0≠x1∧x0≠x2∧x0≠x3∧x0≠x4∧x0≠x5∧x0≠x6∧x0≠x7∧x1≠x0∧x1≠x2∧x1≠x3∧x1≠x4∧x1≠x5∧x1≠x6∧x1≠x7∧x2≠x0∧x2≠x1∧x2≠x3∧x2≠x4∧x2≠x5∧x2≠x6∧x2≠x7∧x3≠x0∧x3≠x1∧x3≠x2∧x3≠x4∧x3≠x5∧x3≠x6∧x3≠x7∧x4≠x0∧x4≠x1∧x4≠x2∧x4≠x3∧x4≠x5∧x4≠x6∧x4≠x7∧x5≠x0∧x5≠x1∧x5≠x2∧x5≠x3∧x5≠x4∧x5≠x6∧x5≠x7∧x6≠x0∧x6≠x1∧x6≠x2∧x6≠x3∧x6≠x4∧x6≠x5∧x6≠x7∧x7≠x0∧x7≠x1∧x7≠x2∧x7≠x3∧x7≠x4∧x7≠x5∧x7≠x6:=by and_intros<;>omega):x0≠x1∧x0≠x2∧x0≠x3∧x0≠x4∧x0≠x5∧x0≠x6∧x0≠x7∧x1≠x0∧x1≠x2∧x1≠x3∧x1≠x4∧x1≠x5∧x1≠x6∧x1≠x7∧x2≠x0∧x2≠x1∧x2≠x3∧x2≠x4∧x2≠x5∧x2≠x6∧x2≠x7∧x3≠x0∧x3≠x1∧x3≠x2∧x3≠x4∧x3≠x5∧x3≠x6∧x3≠x7∧x4≠x0∧x4≠x1∧x4≠x2∧x4≠x3∧x4≠x5∧x4≠x6∧x4≠x7∧x5≠x0∧x5≠x1∧x5≠x2∧x5≠x3∧x5≠x4∧x5≠x6∧x5≠x7∧x6≠x0∧x6≠x1∧x6≠x2∧x6≠x3∧x6≠x4∧x6≠x5∧x6≠x7∧x7≠x0∧x7≠x1∧x7≠x2∧x7≠x3∧x7≠x4∧x7≠x5∧x7≠x6:=z
end
theorem Gn{P:Program}{h:Heap}{f:FuncId}{fn:Func}{c:Code}{vc:VC}{args:List PV}{K:PV→Heap→Prop}(ts:List RS)(hf:P.funcs[f]?=some fn)(H:VW P (FK.std fn.ntmps) vc (Z42 ts K) (Zec 0 args) h)
  (hok:Ztk P f=true:=by kernel_rfl)(hb:fn.body=some c:=by rfl)(hr:Z43 P fn.results.toList=some ts:=by rfl)(hn:args.length≤fn.ntmps:=by exact Zym rfl)(hc:Zby P fn.ntmps c=some vc:=by kernel_rfl):Zak P f args h K:=
 Z91 hf hok hb hr hn hc H
theorem Gp{P:Program}{f:FuncId}{fn:Func}{c:Code}{vc:VC}{args:List PV}{p:PV}(ts:List RS)(hp:Closed p)(hf:P.funcs[f]?=some fn)(H:VW P (FK.std fn.ntmps) vc (Z42 ts (fun r h'=>View h' r p)) (Zec 0 args) Heap.nil)(cl:Za7 args:=by simp only[Za7,Zyb,Zya,or_false,Zyv,forall_eq,false_implies,implies_true];repeat' (first  |exact cI _|exact cS _|exact cB _|exact Zft _|exact Zar|exact Zah (Un.closed _)|exact Zah (It.closed _)|exact Zah (EI.closed _)|exact Zah (Ac.closed _)|exact Zah (Wd.closed _)|exact Zah (St.closed _)|exact Zah (Sta.closed _)|exact Zqs _|exact Zqt _|exact Z21 _|exact Closed.of_scalar (Zc8 _ _)|exact Zbe (Ac.closed _)|exact Zbe (Gz.closed _)|exact Zah (Gz.closed _)|exact Zbx _|exact Zaj (fun w _=>Wd.closed w)|exact Zaj (fun w _=>St.closed w)|exact Zaj (fun w _=>Un.closed w)|exact Zaj (fun w _=>It.closed w)|exact Z5z _|exact Z2w _|exact Zah (Sp.closed _)|exact Zbe (EI.closed _)|exact Zbe (Sta.closed _)|exact Zbe (It.closed _)|exact Zbe (by simp only[Zyb,Zya,or_false,forall_eq];first|exact cI _|exact cS _|exact Zqs _)|refine And.intro ?_ ?_))(hok:Ztk P f=true:=by kernel_rfl)(hb:fn.body=some c:=by rfl)(hr:Z43 P fn.results.toList=some ts:=by rfl)(hn:args.length≤fn.ntmps:=by exact Zym rfl)(hc:Zby P fn.ntmps c=some vc:=by kernel_rfl):Zg3 P f args p:=Zac (Gn ts hf H hok hb hr hn hc) hp cl
end Go.VM
