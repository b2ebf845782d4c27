import Derived.Test.YtldogpfookkbaaaGreatDoorVmZ
set_option linter.all false
set_option maxRecDepth 20000
set_option maxHeartbeats 0
namespace Go.VM
open Go
theorem an{p q:Prop}(a:p)(b:q):p∧q:=⟨a,b⟩
def Vh:=an @Heap.le.eq_1<|an @HL.le.eq_1<|an @HL.le.eq_2<|an @Heap.get.eq_1<|an @HL.get.eq_1 @HL.get.eq_2
def vmA0:=
 an @Xdv.eq_1<|an @Xdv.eq_2<|an @Xdv.eq_def<|an @Zff<|an @Zj2<|an @Zn5<|an @Zse<|an @Zsf<|an @Z1k<|an @Zat.eq_1<|an @Zat.eq_2<|an @Zat.eq_3<|an @Zat.eq_4<|an @Zat.eq_5<|an @Zat.eq_6<|an @Zat.eq_7<|an @Zat.eq_8<|an @Zat.eq_9<|an @Zat.eq_10<|an @Zat.eq_11<|an @Zat.eq_12<|an @Zat.eq_13<|an @Zat.eq_def<|an @guardOf.eq_1<|an @guardOf.eq_2<|an @guardOf.eq_3<|an @guardOf.eq_def<|an @Zj3<|an @Zsi<|
 @Zsg
def vmA1:=
 an @Zne<|an @Znf<|an @Zsh<|an @Zer.eq_1<|an @Zer.eq_2<|an @VOp.isIaddr.eq_1<|an @VOp.isIaddr.eq_2<|an @VOp.isIaddr.eq_def<|an @QW.eq_1<|an @dok.eq_1<|an @dok.eq_2<|an @dok.eq_def<|an @Ztr.eq_1<|an @Ztr.eq_2<|an @Ztr.eq_def<|an @VOp.pure.eq_1<|an @VOp.pure.eq_2<|an @VOp.pure.eq_3<|an @VOp.pure.eq_4<|an @VOp.pure.eq_5<|an @VOp.pure.eq_6<|an @VOp.pure.eq_7<|an @VOp.pure.eq_8<|an @VOp.pure.eq_9<|an @VOp.pure.eq_10<|an @VOp.pure.eq_11<|an @VOp.pure.eq_12<|an @VOp.pure.eq_13<|an @VOp.pure.eq_14<|
 @VOp.pure.eq_15
def vmA2:=
 an @VOp.pure.eq_16<|an @VOp.pure.eq_17<|an @VOp.pure.eq_18<|an @VOp.pure.eq_19<|an @VOp.pure.eq_20<|an @VOp.pure.eq_21<|an @VOp.pure.eq_22<|an @VOp.pure.eq_23<|an @VOp.pure.eq_def<|an @VOp.simple.eq_1<|an @VOp.simple.eq_2<|an @VOp.simple.eq_3<|an @VOp.simple.eq_4<|an @VOp.simple.eq_5<|an @VOp.simple.eq_6<|an @VOp.simple.eq_7<|an @VOp.simple.eq_8<|an @VOp.simple.eq_9<|an @VOp.simple.eq_def<|an @VOp.det.eq_1<|an @VOp.det.eq_2<|an @VOp.det.eq_def<|an @pok.eq_1<|an @pok.eq_2<|an @pok.eq_3<|an @pok.eq_4<|an @pok.eq_5<|an @pok.eq_6<|an @pok.eq_7<|
 @pok.eq_8
def vmA3:=
 an @pok.eq_9<|an @pok.eq_10<|an @pok.eq_11<|an @pok.eq_12<|an @pok.eq_13<|an @pok.eq_14<|an @pok.eq_15<|an @pok.eq_16<|an @pok.eq_17<|an @pok.eq_18<|an @pok.eq_19<|an @pok.eq_20<|an @pok.eq_21<|an @pok.eq_22<|an @pok.eq_23<|an @pok.eq_def<|an @Zct.eq_1<|an @Zct.eq_2<|an @Zct.eq_3<|an @Zct.eq_4<|an @Zct.eq_5<|an @Zct.eq_6<|an @Zct.eq_7<|an @Zct.eq_8<|an @Zct.eq_9<|an @Zct.eq_10<|an @Zct.eq_11<|an @Zct.eq_12<|an @Zct.eq_13<|
 @Zct.eq_14
def vmA4:=
 an @Zct.eq_15<|an @Zct.eq_16<|an @Zct.eq_17<|an @Zct.eq_18<|an @Zct.eq_19<|an @Zct.eq_20<|an @Zct.eq_21<|an @Zct.eq_22<|an @Zct.eq_23<|an @Zct.eq_def<|an @VA.ev.eq_1<|an @VA.ev.eq_2<|an @VA.ev.eq_def<|an @Env.get.eq_1<|an @Env.get.eq_2<|an @Env.put.eq_1<|an @Env.put.eq_2<|an @Env.put.eq_def<|an @Env.keep.eq_1<|an @Env.keep.eq_2<|an @Zeh.eq_1<|an @Zeh.eq_2<|an @Zhc.eq_1<|an @Zhc.eq_2<|an @Zhc.eq_def<|an @Zit.eq_1<|an @Zit.eq_2<|an @Zit.eq_def<|an @Z5n.eq_1<|
 @Z5n.eq_2
def vmA5:=
 an @Z5n.eq_3<|an @Z5n.eq_def<|an @Ztq.eq_1<|an @Ztq.eq_2<|an @Ztq.eq_def<|an @Zim.eq_1<|an @Zim.eq_2<|an @RS.ev.eq_1<|an @RS.ev.eq_2<|an @RS.ev.eq_def<|an @RS.ok.eq_1<|an @RS.ok.eq_2<|an @RS.ok.eq_def<|an @gd.eq_1<|an @Zpq.eq_1<|an @Zpq.eq_2<|an @Zpq.eq_def<|an @isBool.eq_1<|an @isBool.eq_2<|an @isBool.eq_def<|an @Z21.eq_1<|an @Zmy.eq_1<|an @Zmy.eq_2<|an @Zmy.eq_3<|an @Zmy.eq_4<|an @Zmy.eq_5<|an @Zmy.eq_6<|an @Zmy.eq_7<|an @Zmy.eq_8<|
 @Zmy.eq_9
def vmA6:=
 an @Zmy.eq_10<|an @Zmy.eq_11<|an @Zmy.eq_12<|an @Zmy.eq_13<|an @Zmy.eq_14<|an @Zmy.eq_15<|an @Zmy.eq_16<|an @Zmy.eq_17<|an @Zmy.eq_def<|an @Zwx.eq_1<|an @Zwx.eq_2<|an @Zwx.eq_3<|an @Zwx.eq_def<|an @Zdh.eq_1<|an @Zdh.eq_2<|an @Zdh.eq_3<|an @Zdh.eq_4<|an @Zdh.eq_5<|an @Zdh.eq_6<|an @Zdh.eq_7<|an @Zdh.eq_8<|an @Zdh.eq_9<|an @Zdh.eq_10<|an @Zdh.eq_11<|an @Zdh.eq_12<|an @Zdh.eq_13<|an @Zdh.eq_14<|an @Zdh.eq_def<|an @Z05.eq_1<|
 @Z05.eq_2
def vmA7:=
 an @Z05.eq_3<|an @Z05.eq_4<|an @Z05.eq_5<|an @Z05.eq_6<|an @Z05.eq_7<|an @Z05.eq_8<|an @Z05.eq_def<|an @Zpr.eq_1<|an @Zpr.eq_2<|an @Zpr.eq_def<|an @Zr0.eq_1<|an @Zr0.eq_2<|an @Zr0.eq_3<|an @Zr0.eq_def<|an @Zfq.eq_1<|an @Zfq.eq_2<|an @Zfq.eq_3<|an @Zfq.eq_4<|an @Zfq.eq_def<|an @unV.eq_1<|an @unV.eq_2<|an @unV.eq_3<|an @unV.eq_4<|an @unV.eq_5<|an @unV.eq_def<|an @Z5m.eq_1<|an @Z5m.eq_2<|an @Z5m.eq_3<|an @Z5m.eq_4<|
 @Z5m.eq_5
def vmA8:=
 an @Z5m.eq_def<|an @Ztw.eq_1<|an @Ztw.eq_2<|an @Ztw.eq_def<|an @isInt.eq_1<|an @isInt.eq_2<|an @isInt.eq_def<|an @isStr.eq_1<|an @isStr.eq_2<|an @isStr.eq_def<|an @numOf.eq_1<|an @numOf.eq_2<|an @numOf.eq_def<|an @loV.eq_1<|an @loV.eq_2<|an @loV.eq_def<|an @hiV.eq_1<|an @hiV.eq_2<|an @hiV.eq_def<|an @Zmz.eq_1<|an @Zmz.eq_2<|an @Zmz.eq_3<|an @Zmz.eq_4<|an @Zmz.eq_def<|an @Zdt.eq_1<|an @Zdt.eq_2<|an @Zdt.eq_3<|an @Zdt.eq_def<|an @Zgx.eq_1<|
 @Zgx.eq_2
def vmA9:=
 an @Zgx.eq_3<|an @Zgx.eq_4<|an @Zgx.eq_5<|an @Zgx.eq_def<|an @Zex.eq_1<|an @Zex.eq_2<|an @Zex.eq_3<|an @Zex.eq_4<|an @Zex.eq_5<|an @Zex.eq_def<|an @Zjp.eq_1<|an @Zjp.eq_2<|an @Zjp.eq_3<|an @Zjp.eq_def<|an @Ziq.eq_1<|an @Ziq.eq_2<|an @Ziq.eq_3<|an @Ziq.eq_def<|an @Zbb.eq_1<|an @Zbb.eq_2<|an @Zbb.eq_3<|an @Zbb.eq_def<|an @Zfr.eq_1<|an @Zfr.eq_2<|an @Zfr.eq_3<|an @Zfr.eq_def<|an @Za5.eq_1<|an @Za5.eq_2<|an @Za5.eq_def<|
 @Zfa.eq_1
def vmA10:=
 an @Zfa.eq_2<|an @Zfa.eq_def<|an @Zir.eq_1<|an @Zir.eq_2<|an @Zir.eq_3<|an @Zir.eq_def<|an @Zgf.eq_1<|an @Zgf.eq_2<|an @Zgf.eq_3<|an @Zgf.eq_def<|an @Z99.eq_1<|an @Z99.eq_2<|an @Z99.eq_def<|an @Ztx.eq_1<|an @Ztx.eq_2<|an @Ztx.eq_def<|an @Zi3.eq_1<|an @Zi3.eq_2<|an @Zi3.eq_3<|an @Zi3.eq_4<|an @Zi3.eq_5<|an @Zi3.eq_def<|an @Xcq.eq_1<|an @Xcq.eq_2<|an @Xcq.eq_def<|an @Zr1.eq_1<|an @Zr1.eq_2<|an @Zr1.eq_def<|an @Zg5.eq_1<|
 @Zg5.eq_2
def vmA11:=
 an @Zfb.eq_1<|an @Zfb.eq_2<|an @mmV.eq_1<|an @mmV.eq_2<|an @mmV.eq_def<|an @PV.cells.eq_1<|an @PV.cells.eq_2<|an @PV.cells.eq_def<|an @PV.fits.eq_1<|an @PV.fits.eq_2<|an @PV.fits.eq_3<|an @PV.fits.eq_4<|an @PV.fits.eq_5<|an @PV.fits.eq_def<|an @overlay.eq_1<|an @PV.nth.eq_1<|an @PV.row.eq_1<|an @Zla.eq_1<|an @Zla.eq_2<|an @Zla.eq_def<|an @Zbl.eq_1<|an @Zbl.eq_2<|an @Zbl.eq_3<|an @Zbl.eq_def<|an @Zha.eq_1<|an @Zha.eq_2<|an @Zha.eq_3<|an @Zha.eq_4<|an @Zha.eq_def<|
 @Zme.eq_1
def vmA12:=
 an @Zc6.eq_1<|an @Zc6.eq_2<|an @Zc6.eq_def<|an @Zc7.eq_1<|an @Zbm.eq_1<|an @Zbm.eq_2<|an @Zdq.eq_1<|an @Zdq.eq_2<|an @Zfs.eq_1<|an @Zfs.eq_2<|an @Zfs.eq_def<|an @Zcv.eq_1<|an @Zcv.eq_2<|an @Zcv.eq_def<|an @Heap.get.eq_1<|an @Heap.set.eq_1<|an @Heap.del.eq_1<|an @Heap.le.eq_1<|an @HL.get.eq_1<|an @HL.get.eq_2<|an @HL.set.eq_1<|an @HL.set.eq_2<|an @HL.del.eq_1<|an @HL.del.eq_2<|an @HL.le.eq_1<|an @HL.le.eq_2<|an @Heap.push.eq_1<|an @Heap.nil.eq_1<|an @Nat.le_refl<|
 @Nat.add_eq_left
def vmA13:=
 an @Nat.left_eq_add<|an @Nat.succ_ne_self<|an @Nat.one_ne_zero<|an @Env.le.eq_1<|an @Env.le.eq_2<|an @Zbo.eq_1<|an @Zbo.eq_2<|an @Zbo.eq_def<|an @Zgh.eq_1<|an @Zgh.eq_2<|an @Zgh.eq_def<|an @Zb2.eq_1<|an @Zb2.eq_2<|an @Zb2.eq_def<|an @Zlf.eq_1<|an @Zlf.eq_2<|an @Zlf.eq_3<|an @Zlf.eq_def<|an @Zax.eq_1<|an @Zax.eq_2<|an @Zax.eq_3<|an @Zax.eq_4<|an @Zax.eq_def<|an @Zgg.eq_1<|an @Zgg.eq_2<|an @Zgg.eq_3<|an @Zgg.eq_4<|an @Zgg.eq_5<|an @Zgg.eq_def<|
 @Zb9.eq_1
def vmA14:=
 an @Zb9.eq_2<|an @Zcu.eq_1<|an @Zcu.eq_2<|an @Zge.eq_1<|an @Zge.eq_2<|an @Zge.eq_3<|an @Zg4.eq_1<|an @Zg4.eq_2<|an @Zg4.eq_3<|an @Zg4.eq_4<|an @Zg4.eq_def<|an @Zay.eq_1<|an @Zay.eq_2<|an @Zbn.eq_1<|an @Zbn.eq_2<|an @Zbn.eq_3<|an @Zbn.eq_4<|an @Zbn.eq_def<|an @Zef.eq_1<|an @Zef.eq_2<|an @Zef.eq_def<|an @Zfk.eq_1<|an @Zfk.eq_2<|an @Zfk.eq_def<|an @AB.live.eq_1<|an @AB.live.eq_2<|an @AB.live.eq_def<|an @pxV.eq_1<|an @pxV.eq_2<|
 @pxV.eq_3
def vmA15:=
 an @pxV.eq_4<|an @pxV.eq_5<|an @pxV.eq_6<|an @pxV.eq_7<|an @pxV.eq_8<|an @pxV.eq_def<|an @Ztp.eq_1<|an @Ztp.eq_2<|an @Ztp.eq_3<|an @Ztp.eq_4<|an @Ztp.eq_5<|an @Ztp.eq_6<|an @Ztp.eq_7<|an @Ztp.eq_8<|an @Ztp.eq_def<|an @fxV.eq_1<|an @fxV.eq_2<|an @fxV.eq_3<|an @fxV.eq_4<|an @fxV.eq_def<|an @Zr7.eq_1<|an @Zr7.eq_2<|an @Zr7.eq_3<|an @Zr7.eq_4<|an @Zr7.eq_5<|an @Zr7.eq_6<|an @Zr7.eq_7<|an @Zr7.eq_8<|an @Zr7.eq_9<|
 @Zr7.eq_def
def vmA16:=
 an @Zno.eq_1<|an @Zno.eq_2<|an @Zno.eq_3<|an @Zno.eq_4<|an @Zno.eq_def<|an @Zis.eq_1<|an @Zis.eq_2<|an @Zis.eq_3<|an @Zis.eq_4<|an @Zis.eq_def<|an @isNil.eq_1<|an @isNil.eq_2<|an @isNil.eq_3<|an @isNil.eq_4<|an @isNil.eq_5<|an @isNil.eq_def<|an @notNil.eq_1<|an @notNil.eq_2<|an @notNil.eq_3<|an @notNil.eq_4<|an @notNil.eq_5<|an @notNil.eq_6<|an @notNil.eq_7<|an @notNil.eq_def<|an @List.map.eq_1.{0,0}<|an @List.map.eq_2.{0,0}<|an @List.set.eq_1.{0}<|an @List.set.eq_2.{0}<|an @List.set.eq_3.{0}<|
 @List.replicate.eq_1.{0}
def vmA17:=
 an @List.replicate.eq_2.{0}<|an @List.length.eq_1.{0}<|an @List.length.eq_2.{0}<|an @List.getD_cons_zero.{0}<|an @List.getD_cons_succ.{0}<|an @List.getD_nil.{0}<|an @List.take.eq_1.{0}<|an @List.take.eq_2.{0}<|an @List.take.eq_3.{0}<|an @List.drop.eq_1.{0}<|an @List.drop.eq_2.{0}<|an @List.drop.eq_3.{0}<|an @List.take_zero.{0}<|an @List.drop_zero.{0}<|an @List.take_succ_cons.{0}<|an @List.drop_succ_cons.{0}<|an @List.append.eq_1.{0}<|an @List.append.eq_2.{0}<|an @List.cons_append.{0}<|an @List.nil_append.{0}<|an @Option.map.eq_1.{0,0}<|an @Option.map.eq_2.{0,0}<|an @Option.map.eq_def.{0,0}<|an @Bool.false_eq_true<|an @Bool.true_eq_false<|an @ite_true.{1}<|an @ite_true.{0}<|an @ite_false.{1}<|an @ite_false.{0}<|
 @if_true.{1}
def vmA18:=
 an @if_true.{0}<|an @if_false.{1}<|an @if_false.{0}<|an @true_and<|an @and_true<|an @implies_true.{1}<|an @implies_true.{0}<|an @forall_const.{1}<|an @forall_const.{0}<|an @ne_eq.{1}<|an @not_false_eq_true<|an @BEq.rfl.{0}<|an @beq_self_eq_true.{0}<|an @Option.some.injEq.{0}<|an @Nat.zero_add<|an @Nat.add_zero<|an @List.length_cons.{0}<|an @List.length_nil.{0}<|an @true_implies<|an @imp_self<|an @Int.toNat_natCast<|an @Bool.not_false<|
 @Bool.not_true
def vmA:=And.intro vmA0<|And.intro vmA1<|And.intro vmA2<|And.intro vmA3<|And.intro vmA4<|And.intro vmA5<|And.intro vmA6<|And.intro vmA7<|And.intro vmA8<|And.intro vmA9<|And.intro vmA10<|And.intro vmA11<|And.intro vmA12<|And.intro vmA13<|And.intro vmA14<|And.intro vmA15<|And.intro vmA16<|And.intro vmA17<|vmA18
theorem vmL:type_of% vmA:=vmA
theorem xlm{α β:Type}{f:α→β}{l:List α}:(l.map f).length=l.length:=Zyc f
theorem xan{α:Type}{l:List α}:l++[]=l:=Zyj l
theorem xok{A B C:Prop}(a:A)(z:B=C):(A∧B)=C:=by rw[←z];exact propext ⟨(·.2),fun b=>⟨a,b⟩⟩
theorem x2{A B:Prop}(a:A)(b:B):A∧B:=⟨a,b⟩
theorem x3{A B C:Prop}(a:A)(b:B)(c:C):A∧B∧C:=⟨a,b,c⟩
theorem x4{A B C D:Prop}(a:A)(b:B)(c:C)(d:D):A∧B∧C∧D:=⟨a,b,c,d⟩
theorem x5{A B C D E:Prop}(a:A)(b:B)(c:C)(d:D)(e:E):A∧B∧C∧D∧E:=⟨a,b,c,d,e⟩
section
variable {P:Program} {N:FK} {Q:Exit→Env→Heap→Prop} {e:Env} {h:Heap}
theorem Sp0{X:Prop}{Y:Prop}(k:Y)(z:Y→X:=by intro k;(try simp only[vmL,Nat.reduceEqDiff,Nat.reduceAdd,Nat.reduceLT,Nat.reduceLeDiff,Nat.reduceSub,Nat.reduceMul,reduceIte,reduceCtorEq,Int.reduceToNat]);exact k):X:=z k
theorem Sp1{X:Prop}{A Y:Prop}(a:A)(k:Y)(z:A→Y→X:=by intro a k;(try simp only[vmL,Nat.reduceEqDiff,Nat.reduceAdd,Nat.reduceLT,Nat.reduceLeDiff,Nat.reduceSub,Nat.reduceMul,reduceIte,reduceCtorEq,Int.reduceToNat,a]);exact k):X:=z a k
theorem Sc0{X:Prop}(z:X:=by simp only[vmL,Nat.reduceEqDiff,Nat.reduceAdd,Nat.reduceLT,Nat.reduceLeDiff,Nat.reduceSub,Nat.reduceMul,reduceIte,reduceCtorEq,Int.reduceToNat]):X:=z
theorem Sc1{X:Prop}{A:Prop}(a:A)(z:A→X:=by intro a;simp only[vmL,Nat.reduceEqDiff,Nat.reduceAdd,Nat.reduceLT,Nat.reduceLeDiff,Nat.reduceSub,Nat.reduceMul,reduceIte,reduceCtorEq,Int.reduceToNat,a]):X:=z a
theorem Rp0{q:List VOper}{x:VC}(l:List Nat){Y:Prop}(k:Y)(z:Y→Zfu P q (fun e' h'=>Zhc (VW P N x Q) Q .normal (Env.keep l e') h') e h:=by intro k;(try simp only[vmL,Nat.reduceEqDiff,Nat.reduceAdd,Nat.reduceLT,Nat.reduceLeDiff,Nat.reduceSub,Nat.reduceMul,reduceIte,reduceCtorEq,Int.reduceToNat]);exact k):VW P N (.seq (.region q false) x) Q e h:=Zaa (Zad l (z k))
theorem Rp1{q:List VOper}{x:VC}(l:List Nat){A Y:Prop}(a:A)(k:Y)(z:A→Y→Zfu P q (fun e' h'=>Zhc (VW P N x Q) Q .normal (Env.keep l e') h') e h:=by intro a k;(try simp only[vmL,Nat.reduceEqDiff,Nat.reduceAdd,Nat.reduceLT,Nat.reduceLeDiff,Nat.reduceSub,Nat.reduceMul,reduceIte,reduceCtorEq,Int.reduceToNat,a]);exact k):VW P N (.seq (.region q false) x) Q e h:=Zaa (Zad l (z a k))
theorem rp0{q:List VOper}(l:List Nat){Y:Prop}(k:Y)(z:Y→Zfu P q (fun e' h'=>Q .normal (Env.keep l e') h') e h:=by intro k;(try simp only[vmL,Nat.reduceEqDiff,Nat.reduceAdd,Nat.reduceLT,Nat.reduceLeDiff,Nat.reduceSub,Nat.reduceMul,reduceIte,reduceCtorEq,Int.reduceToNat]);exact k):VW P N (.region q false) Q e h:=Zad l (z k)
theorem rp1{q:List VOper}(l:List Nat){A Y:Prop}(a:A)(k:Y)(z:A→Y→Zfu P q (fun e' h'=>Q .normal (Env.keep l e') h') e h:=by intro a k;(try simp only[vmL,Nat.reduceEqDiff,Nat.reduceAdd,Nat.reduceLT,Nat.reduceLeDiff,Nat.reduceSub,Nat.reduceMul,reduceIte,reduceCtorEq,Int.reduceToNat,a]);exact k):VW P N (.region q false) Q e h:=Zad l (z a k)
theorem Kp0  {Y:Prop}(k:Y)(z:Y→Q .normal e h:=by intro k;(try simp only[vmL,Nat.reduceEqDiff,Nat.reduceAdd,Nat.reduceLT,Nat.reduceLeDiff,Nat.reduceSub,Nat.reduceMul,reduceIte,reduceCtorEq,Int.reduceToNat]);exact k):VW P N .skip Q e h:=Zn1 (z k)
theorem Kp1  {A Y:Prop}(a:A)(k:Y)(z:A→Y→Q .normal e h:=by intro a k;(try simp only[vmL,Nat.reduceEqDiff,Nat.reduceAdd,Nat.reduceLT,Nat.reduceLeDiff,Nat.reduceSub,Nat.reduceMul,reduceIte,reduceCtorEq,Int.reduceToNat,a]);exact k):VW P N .skip Q e h:=Zn1 (z a k)
theorem Tp0  {Y:Prop}(k:Y)(z:Y→Q .ret e h:=by intro k;(try simp only[vmL,Nat.reduceEqDiff,Nat.reduceAdd,Nat.reduceLT,Nat.reduceLeDiff,Nat.reduceSub,Nat.reduceMul,reduceIte,reduceCtorEq,Int.reduceToNat]);exact k):VW P N .ret Q e h:=Zeg (z k)
theorem Tp1  {A Y:Prop}(a:A)(k:Y)(z:A→Y→Q .ret e h:=by intro a k;(try simp only[vmL,Nat.reduceEqDiff,Nat.reduceAdd,Nat.reduceLT,Nat.reduceLeDiff,Nat.reduceSub,Nat.reduceMul,reduceIte,reduceCtorEq,Int.reduceToNat,a]);exact k):VW P N .ret Q e h:=Zeg (z a k)
theorem Ep0{i:Nat}{Y:Prop}(k:Y)(z:Y→Q (.exit i) e h:=by intro k;(try simp only[vmL,Nat.reduceEqDiff,Nat.reduceAdd,Nat.reduceLT,Nat.reduceLeDiff,Nat.reduceSub,Nat.reduceMul,reduceIte,reduceCtorEq,Int.reduceToNat]);exact k):VW P N (.exit i) Q e h:=Z6b (z k)
theorem Ep1{i:Nat}{A Y:Prop}(a:A)(k:Y)(z:A→Y→Q (.exit i) e h:=by intro a k;(try simp only[vmL,Nat.reduceEqDiff,Nat.reduceAdd,Nat.reduceLT,Nat.reduceLeDiff,Nat.reduceSub,Nat.reduceMul,reduceIte,reduceCtorEq,Int.reduceToNat,a]);exact k):VW P N (.exit i) Q e h:=Z6b (z a k)
theorem Ap0{f:FuncId}{args:List PV}{p:PV}{K:PV→Heap→Prop}(H:Zg6 P f args p){Y:Prop}(k:Y)(z:Y→K p h:=by intro k;(try simp only[vmL,Nat.reduceEqDiff,Nat.reduceAdd,Nat.reduceLT,Nat.reduceLeDiff,Nat.reduceSub,Nat.reduceMul,reduceIte,reduceCtorEq,Int.reduceToNat]);exact k):Zal P f args h K:=Zag H (z k)
theorem Ap1{f:FuncId}{args:List PV}{p:PV}{K:PV→Heap→Prop}(H:Zg6 P f args p){A Y:Prop}(a:A)(k:Y)(z:A→Y→K p h:=by intro a k;(try simp only[vmL,Nat.reduceEqDiff,Nat.reduceAdd,Nat.reduceLT,Nat.reduceLeDiff,Nat.reduceSub,Nat.reduceMul,reduceIte,reduceCtorEq,Int.reduceToNat,a]);exact k):Zal P f args h K:=Zag H (z a k)
theorem Fp0{v:VA}{x:VC}{Y:Prop}(k:Y)(z:Y→Q .normal e h:=by intro k;(try simp only[vmL,Nat.reduceEqDiff,Nat.reduceAdd,Nat.reduceLT,Nat.reduceLeDiff,Nat.reduceSub,Nat.reduceMul,reduceIte,reduceCtorEq,Int.reduceToNat]);exact k)(hb:v.ev e=.bool false:=by rfl):VW P N (.cond v x .skip) Q e h:=Zae hb (fun h=>by cases h) (fun _=>Zn1 (z k))
theorem Fp1{v:VA}{x:VC}{A Y:Prop}(a:A)(k:Y)(z:A→Y→Q .normal e h:=by intro a k;(try simp only[vmL,Nat.reduceEqDiff,Nat.reduceAdd,Nat.reduceLT,Nat.reduceLeDiff,Nat.reduceSub,Nat.reduceMul,reduceIte,reduceCtorEq,Int.reduceToNat,a]);exact k)(hb:v.ev e=.bool false:=by rfl):VW P N (.cond v x .skip) Q e h:=Zae hb (fun h=>by cases h) (fun _=>Zn1 (z a k))
theorem Sr0{X:Prop}(z:X:=by first|(simp only[vmL,Nat.reduceEqDiff,Nat.reduceAdd,Nat.reduceLT,Nat.reduceLeDiff,Nat.reduceSub,Nat.reduceMul,reduceIte,reduceCtorEq,Int.reduceToNat];done)|((try simp only[vmL,Nat.reduceEqDiff,Nat.reduceAdd,Nat.reduceLT,Nat.reduceLeDiff,Nat.reduceSub,Nat.reduceMul,reduceIte,reduceCtorEq,Int.reduceToNat]);rfl)):X:=z
theorem Sr1{X A:Prop}(a:A)(z:A→X:=by intro a;first|(simp only[vmL,Nat.reduceEqDiff,Nat.reduceAdd,Nat.reduceLT,Nat.reduceLeDiff,Nat.reduceSub,Nat.reduceMul,reduceIte,reduceCtorEq,Int.reduceToNat,a];done)|((try simp only[vmL,Nat.reduceEqDiff,Nat.reduceAdd,Nat.reduceLT,Nat.reduceLeDiff,Nat.reduceSub,Nat.reduceMul,reduceIte,reduceCtorEq,Int.reduceToNat,a]);rfl)):X:=z a
theorem Tv0(z:Q .ret e h:=by(try simp only[vmL,Nat.reduceEqDiff,Nat.reduceAdd,Nat.reduceLT,Nat.reduceLeDiff,Nat.reduceSub,Nat.reduceMul,reduceIte,reduceCtorEq,Int.reduceToNat]);exact Vr):VW P N .ret Q e h:=Zeg z
theorem Tv1{A:Prop}(a:A)(z:A→Q .ret e h:=by intro a;(try simp only[vmL,Nat.reduceEqDiff,Nat.reduceAdd,Nat.reduceLT,Nat.reduceLeDiff,Nat.reduceSub,Nat.reduceMul,reduceIte,reduceCtorEq,Int.reduceToNat,a]);exact Vr):VW P N .ret Q e h:=Zeg (z a)
theorem Rv0{q:List VOper}{x:VC}(l:List Nat)(z:Zfu P q (fun e' h'=>Zhc (VW P N x Q) Q .normal (Env.keep l e') h') e h:=by(try simp only[vmL,Nat.reduceEqDiff,Nat.reduceAdd,Nat.reduceLT,Nat.reduceLeDiff,Nat.reduceSub,Nat.reduceMul,reduceIte,reduceCtorEq,Int.reduceToNat]);refine Zeg ?_;(try simp only[vmL,Nat.reduceEqDiff,Nat.reduceAdd,Nat.reduceLT,Nat.reduceLeDiff,Nat.reduceSub,Nat.reduceMul,reduceIte,reduceCtorEq,Int.reduceToNat]);exact Vr):VW P N (.seq (.region q false) x) Q e h:=Zaa (Zad l z)
theorem Fn0{X:Prop}(z:X:=by(try simp only[vmL,Nat.reduceEqDiff,Nat.reduceAdd,Nat.reduceLT,Nat.reduceLeDiff,Nat.reduceSub,Nat.reduceMul,reduceIte,reduceCtorEq,Int.reduceToNat]);all_goals (repeat' (first|rfl|trivial|omega|(simp only[];omega)|refine And.intro ?_ ?_))):X:=z
theorem Fn1{X A:Prop}(a:A)(z:A→X:=by intro a;(try simp only[vmL,Nat.reduceEqDiff,Nat.reduceAdd,Nat.reduceLT,Nat.reduceLeDiff,Nat.reduceSub,Nat.reduceMul,reduceIte,reduceCtorEq,Int.reduceToNat,a]);all_goals (repeat' (first|rfl|trivial|omega|(simp only[];omega)|refine And.intro ?_ ?_))):X:=z a
theorem Ok{X Y:Prop}(k:Y)(z:X=Y:=by(repeat (with_reducible apply xok;first|omega|(with_reducible constructor<;>omega)|exact False.elim|exact⟨⟩));exact rfl):X:=z.mpr k
theorem Ct{v:VA}{x y:VC}(k:VW P N x Q e h)(hb:v.ev e=.bool true:=by rfl):VW P N (.cond v x y) Q e h:=Zae hb (fun _=>k) (fun h=>by cases h)
theorem Cf{v:VA}{x y:VC}(k:VW P N y Q e h)(hb:v.ev e=.bool false:=by rfl):VW P N (.cond v x y) Q e h:=Zae hb (fun h=>by cases h) (fun _=>k)
theorem N2(x0 x1:Nat)(z:x0≠x1∧x1≠x0:=by and_intros<;>omega):x0≠x1∧x1≠x0:=z
theorem N3(x0 x1 x2:Nat)(z:x0≠x1∧x0≠x2∧x1≠x0∧x1≠x2∧x2≠x0∧x2≠x1:=by and_intros<;>omega):x0≠x1∧x0≠x2∧x1≠x0∧x1≠x2∧x2≠x0∧x2≠x1:=z
theorem N4(x0 x1 x2 x3:Nat)(z:x0≠x1∧x0≠x2∧x0≠x3∧x1≠x0∧x1≠x2∧x1≠x3∧x2≠x0∧x2≠x1∧x2≠x3∧x3≠x0∧x3≠x1∧x3≠x2:=by and_intros<;>omega):x0≠x1∧x0≠x2∧x0≠x3∧x1≠x0∧x1≠x2∧x1≠x3∧x2≠x0∧x2≠x1∧x2≠x3∧x3≠x0∧x3≠x1∧x3≠x2:=z
theorem N5(x0 x1 x2 x3 x4:Nat)(z:x0≠x1∧x0≠x2∧x0≠x3∧x0≠x4∧x1≠x0∧x1≠x2∧x1≠x3∧x1≠x4∧x2≠x0∧x2≠x1∧x2≠x3∧x2≠x4∧x3≠x0∧x3≠x1∧x3≠x2∧x3≠x4∧x4≠x0∧x4≠x1∧x4≠x2∧x4≠x3:=by and_intros<;>omega):x0≠x1∧x0≠x2∧x0≠x3∧x0≠x4∧x1≠x0∧x1≠x2∧x1≠x3∧x1≠x4∧x2≠x0∧x2≠x1∧x2≠x3∧x2≠x4∧x3≠x0∧x3≠x1∧x3≠x2∧x3≠x4∧x4≠x0∧x4≠x1∧x4≠x2∧x4≠x3:=z
theorem N6(x0 x1 x2 x3 x4 x5:Nat)(z:x0≠x1∧x0≠x2∧x0≠x3∧x0≠x4∧x0≠x5∧x1≠x0∧x1≠x2∧x1≠x3∧x1≠x4∧x1≠x5∧x2≠x0∧x2≠x1∧x2≠x3∧x2≠x4∧x2≠x5∧x3≠x0∧x3≠x1∧x3≠x2∧x3≠x4∧x3≠x5∧x4≠x0∧x4≠x1∧x4≠x2∧x4≠x3∧x4≠x5∧x5≠x0∧x5≠x1∧x5≠x2∧x5≠x3∧x5≠x4:=by and_intros<;>omega):x0≠x1∧x0≠x2∧x0≠x3∧x0≠x4∧x0≠x5∧x1≠x0∧x1≠x2∧x1≠x3∧x1≠x4∧x1≠x5∧x2≠x0∧x2≠x1∧x2≠x3∧x2≠x4∧x2≠x5∧x3≠x0∧x3≠x1∧x3≠x2∧x3≠x4∧x3≠x5∧x4≠x0∧x4≠x1∧x4≠x2∧x4≠x3∧x4≠x5∧x5≠x0∧x5≠x1∧x5≠x2∧x5≠x3∧x5≠x4:=z
theorem N7(x0 x1 x2 x3 x4 x5 x6:Nat)(z:x0≠x1∧x0≠x2∧x0≠x3∧x0≠x4∧x0≠x5∧x0≠x6∧x1≠x0∧x1≠x2∧x1≠x3∧x1≠x4∧x1≠x5∧x1≠x6∧x2≠x0∧x2≠x1∧x2≠x3∧x2≠x4∧x2≠x5∧x2≠x6∧x3≠x0∧x3≠x1∧x3≠x2∧x3≠x4∧x3≠x5∧x3≠x6∧x4≠x0∧x4≠x1∧x4≠x2∧x4≠x3∧x4≠x5∧x4≠x6∧x5≠x0∧x5≠x1∧x5≠x2∧x5≠x3∧x5≠x4∧x5≠x6∧x6≠x0∧x6≠x1∧x6≠x2∧x6≠x3∧x6≠x4∧x6≠x5:=by and_intros<;>omega):x0≠x1∧x0≠x2∧x0≠x3∧x0≠x4∧x0≠x5∧x0≠x6∧x1≠x0∧x1≠x2∧x1≠x3∧x1≠x4∧x1≠x5∧x1≠x6∧x2≠x0∧x2≠x1∧x2≠x3∧x2≠x4∧x2≠x5∧x2≠x6∧x3≠x0∧x3≠x1∧x3≠x2∧x3≠x4∧x3≠x5∧x3≠x6∧x4≠x0∧x4≠x1∧x4≠x2∧x4≠x3∧x4≠x5∧x4≠x6∧x5≠x0∧x5≠x1∧x5≠x2∧x5≠x3∧x5≠x4∧x5≠x6∧x6≠x0∧x6≠x1∧x6≠x2∧x6≠x3∧x6≠x4∧x6≠x5:=z
theorem N8(x0 x1 x2 x3 x4 x5 x6 x7:Nat)(z:x0≠x1∧x0≠x2∧x0≠x3∧x0≠x4∧x0≠x5∧x0≠x6∧x0≠x7∧x1≠x0∧x1≠x2∧x1≠x3∧x1≠x4∧x1≠x5∧x1≠x6∧x1≠x7∧x2≠x0∧x2≠x1∧x2≠x3∧x2≠x4∧x2≠x5∧x2≠x6∧x2≠x7∧x3≠x0∧x3≠x1∧x3≠x2∧x3≠x4∧x3≠x5∧x3≠x6∧x3≠x7∧x4≠x0∧x4≠x1∧x4≠x2∧x4≠x3∧x4≠x5∧x4≠x6∧x4≠x7∧x5≠x0∧x5≠x1∧x5≠x2∧x5≠x3∧x5≠x4∧x5≠x6∧x5≠x7∧x6≠x0∧x6≠x1∧x6≠x2∧x6≠x3∧x6≠x4∧x6≠x5∧x6≠x7∧x7≠x0∧x7≠x1∧x7≠x2∧x7≠x3∧x7≠x4∧x7≠x5∧x7≠x6:=by and_intros<;>omega):x0≠x1∧x0≠x2∧x0≠x3∧x0≠x4∧x0≠x5∧x0≠x6∧x0≠x7∧x1≠x0∧x1≠x2∧x1≠x3∧x1≠x4∧x1≠x5∧x1≠x6∧x1≠x7∧x2≠x0∧x2≠x1∧x2≠x3∧x2≠x4∧x2≠x5∧x2≠x6∧x2≠x7∧x3≠x0∧x3≠x1∧x3≠x2∧x3≠x4∧x3≠x5∧x3≠x6∧x3≠x7∧x4≠x0∧x4≠x1∧x4≠x2∧x4≠x3∧x4≠x5∧x4≠x6∧x4≠x7∧x5≠x0∧x5≠x1∧x5≠x2∧x5≠x3∧x5≠x4∧x5≠x6∧x5≠x7∧x6≠x0∧x6≠x1∧x6≠x2∧x6≠x3∧x6≠x4∧x6≠x5∧x6≠x7∧x7≠x0∧x7≠x1∧x7≠x2∧x7≠x3∧x7≠x4∧x7≠x5∧x7≠x6:=z
end
theorem Gn{P:Program}{h:Heap}{f:FuncId}{fn:Func}{c:Code}{vc:VC}{args:List PV}{K:PV→Heap→Prop}(ts:List RS)(hf:P.funcs[f]?=some fn)(H:VW P (FK.std fn.ntmps) vc (Z5n ts K) (Zeh 0 args) h)
  (hok:Ztv P f=true:=by kernel_rfl)(hb:fn.body=some c:=by rfl)(hr:Z5o P fn.results.toList=some ts:=by rfl)(hn:args.length≤fn.ntmps:=by exact Zym rfl)(hc:Zb4 P fn.ntmps c=some vc:=by kernel_rfl):Zal P f args h K:=
 Xah hf hok hb hr hn hc H
theorem Gp{P:Program}{f:FuncId}{fn:Func}{c:Code}{vc:VC}{args:List PV}{p:PV}(ts:List RS)(hp:Closed p)(hf:P.funcs[f]?=some fn)(H:VW P (FK.std fn.ntmps) vc (Z5n ts (fun r h'=>View h' r p)) (Zeh 0 args) Heap.nil)(cl:Za7 args:=by simp only[Za7,Zyb,Zya,or_false,Zyv,forall_eq,false_implies,implies_true];repeat' (first  |exact cI _|exact cS _|exact cB _|exact Zfx _|exact Zar|exact Zah (Un.closed _)|exact Zah (It.closed _)|exact Zah (EI.closed _)|exact Zah (Ac.closed _)|exact Zah (Wd.closed _)|exact Zah (St.closed _)|exact Zah (Sta.closed _)|exact Zqx _|exact Zqy _|exact Z3i _|exact Closed.of_scalar (Zdb _ _)|exact Zbg (Ac.closed _)|exact Zbg (Gz.closed _)|exact Zah (Gz.closed _)|exact Zb5 _|exact Zaj (fun w _=>Wd.closed w)|exact Zaj (fun w _=>St.closed w)|exact Zaj (fun w _=>Un.closed w)|exact Zaj (fun w _=>It.closed w)|exact Z6i _|exact Z3d _|exact Zah (Sp.closed _)|exact Zbg (EI.closed _)|exact Zbg (Sta.closed _)|exact Zbg (It.closed _)|exact Zbg (by simp only[Zyb,Zya,or_false,forall_eq];first|exact cI _|exact cS _|exact Zqx _)|refine And.intro ?_ ?_))(hok:Ztv P f=true:=by kernel_rfl)(hb:fn.body=some c:=by rfl)(hr:Z5o P fn.results.toList=some ts:=by rfl)(hn:args.length≤fn.ntmps:=by exact Zym rfl)(hc:Zb4 P fn.ntmps c=some vc:=by kernel_rfl):Zg6 P f args p:=Zac (Gn ts hf H hok hb hr hn hc) hp cl
end Go.VM
