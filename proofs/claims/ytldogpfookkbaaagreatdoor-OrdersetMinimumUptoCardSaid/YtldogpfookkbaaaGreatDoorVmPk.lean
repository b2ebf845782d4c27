import Derived.Test.YtldogpfookkbaaaGreatDoorVmZ
set_option linter.all false
set_option maxRecDepth 20000
set_option maxHeartbeats 0
namespace Go.VM
open Go
theorem an{p q:Prop}(a:p)(b:q):p∧q:=⟨a,b⟩
def Vh:=an @Heap.le.eq_1<|an @HL.le.eq_1<|an @HL.le.eq_2<|an @Heap.get.eq_1<|an @HL.get.eq_1 @HL.get.eq_2
def vmA0:=
 an @Xdm.eq_1<|an @Xdm.eq_2<|an @Xdm.eq_def<|an @Ze9<|an @Zjs<|an @Znw<|an @Zr9<|an @Zsa<|an @Z1h<|an @Zau.eq_1<|an @Zau.eq_2<|an @Zau.eq_3<|an @Zau.eq_4<|an @Zau.eq_5<|an @Zau.eq_6<|an @Zau.eq_7<|an @Zau.eq_8<|an @Zau.eq_9<|an @Zau.eq_10<|an @Zau.eq_11<|an @Zau.eq_12<|an @Zau.eq_13<|an @Zau.eq_def<|an @guardOf.eq_1<|an @guardOf.eq_2<|an @guardOf.eq_3<|an @guardOf.eq_def<|an @Zjt<|an @Zsd<|
 @Zsb
def vmA1:=
 an @Zm4<|an @Zm5<|an @Zsc<|an @Zem.eq_1<|an @Zem.eq_2<|an @VOp.isIaddr.eq_1<|an @VOp.isIaddr.eq_2<|an @VOp.isIaddr.eq_def<|an @QW.eq_1<|an @dok.eq_1<|an @dok.eq_2<|an @dok.eq_def<|an @Zw9.eq_1<|an @Zw9.eq_2<|an @Zw9.eq_def<|an @VOp.pure.eq_1<|an @VOp.pure.eq_2<|an @VOp.pure.eq_3<|an @VOp.pure.eq_4<|an @VOp.pure.eq_5<|an @VOp.pure.eq_6<|an @VOp.pure.eq_7<|an @VOp.pure.eq_8<|an @VOp.pure.eq_9<|an @VOp.pure.eq_10<|an @VOp.pure.eq_11<|an @VOp.pure.eq_12<|an @VOp.pure.eq_13<|an @VOp.pure.eq_14<|
 @VOp.pure.eq_15
def vmA2:=
 an @VOp.pure.eq_16<|an @VOp.pure.eq_17<|an @VOp.pure.eq_18<|an @VOp.pure.eq_19<|an @VOp.pure.eq_20<|an @VOp.pure.eq_21<|an @VOp.pure.eq_22<|an @VOp.pure.eq_23<|an @VOp.pure.eq_def<|an @VOp.simple.eq_1<|an @VOp.simple.eq_2<|an @VOp.simple.eq_3<|an @VOp.simple.eq_4<|an @VOp.simple.eq_5<|an @VOp.simple.eq_6<|an @VOp.simple.eq_7<|an @VOp.simple.eq_8<|an @VOp.simple.eq_9<|an @VOp.simple.eq_def<|an @VOp.det.eq_1<|an @VOp.det.eq_2<|an @VOp.det.eq_def<|an @pok.eq_1<|an @pok.eq_2<|an @pok.eq_3<|an @pok.eq_4<|an @pok.eq_5<|an @pok.eq_6<|an @pok.eq_7<|
 @pok.eq_8
def vmA3:=
 an @pok.eq_9<|an @pok.eq_10<|an @pok.eq_11<|an @pok.eq_12<|an @pok.eq_13<|an @pok.eq_14<|an @pok.eq_15<|an @pok.eq_16<|an @pok.eq_17<|an @pok.eq_18<|an @pok.eq_19<|an @pok.eq_20<|an @pok.eq_21<|an @pok.eq_22<|an @pok.eq_23<|an @pok.eq_def<|an @Zcq.eq_1<|an @Zcq.eq_2<|an @Zcq.eq_3<|an @Zcq.eq_4<|an @Zcq.eq_5<|an @Zcq.eq_6<|an @Zcq.eq_7<|an @Zcq.eq_8<|an @Zcq.eq_9<|an @Zcq.eq_10<|an @Zcq.eq_11<|an @Zcq.eq_12<|an @Zcq.eq_13<|
 @Zcq.eq_14
def vmA4:=
 an @Zcq.eq_15<|an @Zcq.eq_16<|an @Zcq.eq_17<|an @Zcq.eq_18<|an @Zcq.eq_19<|an @Zcq.eq_20<|an @Zcq.eq_21<|an @Zcq.eq_22<|an @Zcq.eq_23<|an @Zcq.eq_def<|an @VA.ev.eq_1<|an @VA.ev.eq_2<|an @VA.ev.eq_def<|an @Env.get.eq_1<|an @Env.get.eq_2<|an @Env.put.eq_1<|an @Env.put.eq_2<|an @Env.put.eq_def<|an @Env.keep.eq_1<|an @Env.keep.eq_2<|an @Zed.eq_1<|an @Zed.eq_2<|an @Zg4.eq_1<|an @Zg4.eq_2<|an @Zg4.eq_def<|an @Zii.eq_1<|an @Zii.eq_2<|an @Zii.eq_def<|an @Z5g.eq_1<|
 @Z5g.eq_2
def vmA5:=
 an @Z5g.eq_3<|an @Z5g.eq_def<|an @Ztn.eq_1<|an @Ztn.eq_2<|an @Ztn.eq_def<|an @Zia.eq_1<|an @Zia.eq_2<|an @RS.ev.eq_1<|an @RS.ev.eq_2<|an @RS.ev.eq_def<|an @RS.ok.eq_1<|an @RS.ok.eq_2<|an @RS.ok.eq_def<|an @gd.eq_1<|an @Zpl.eq_1<|an @Zpl.eq_2<|an @Zpl.eq_def<|an @isBool.eq_1<|an @isBool.eq_2<|an @isBool.eq_def<|an @Z2v.eq_1<|an @Zmn.eq_1<|an @Zmn.eq_2<|an @Zmn.eq_3<|an @Zmn.eq_4<|an @Zmn.eq_5<|an @Zmn.eq_6<|an @Zmn.eq_7<|an @Zmn.eq_8<|
 @Zmn.eq_9
def vmA6:=
 an @Zmn.eq_10<|an @Zmn.eq_11<|an @Zmn.eq_12<|an @Zmn.eq_13<|an @Zmn.eq_14<|an @Zmn.eq_15<|an @Zmn.eq_16<|an @Zmn.eq_17<|an @Zmn.eq_def<|an @Zwt.eq_1<|an @Zwt.eq_2<|an @Zwt.eq_3<|an @Zwt.eq_def<|an @Zdf.eq_1<|an @Zdf.eq_2<|an @Zdf.eq_3<|an @Zdf.eq_4<|an @Zdf.eq_5<|an @Zdf.eq_6<|an @Zdf.eq_7<|an @Zdf.eq_8<|an @Zdf.eq_9<|an @Zdf.eq_10<|an @Zdf.eq_11<|an @Zdf.eq_12<|an @Zdf.eq_13<|an @Zdf.eq_14<|an @Zdf.eq_def<|an @Z02.eq_1<|
 @Z02.eq_2
def vmA7:=
 an @Z02.eq_3<|an @Z02.eq_4<|an @Z02.eq_5<|an @Z02.eq_6<|an @Z02.eq_7<|an @Z02.eq_8<|an @Z02.eq_def<|an @Zpm.eq_1<|an @Zpm.eq_2<|an @Zpm.eq_def<|an @Zrw.eq_1<|an @Zrw.eq_2<|an @Zrw.eq_3<|an @Zrw.eq_def<|an @Zfk.eq_1<|an @Zfk.eq_2<|an @Zfk.eq_3<|an @Zfk.eq_4<|an @Zfk.eq_def<|an @unV.eq_1<|an @unV.eq_2<|an @unV.eq_3<|an @unV.eq_4<|an @unV.eq_5<|an @unV.eq_def<|an @Z5f.eq_1<|an @Z5f.eq_2<|an @Z5f.eq_3<|an @Z5f.eq_4<|
 @Z5f.eq_5
def vmA8:=
 an @Z5f.eq_def<|an @Zts.eq_1<|an @Zts.eq_2<|an @Zts.eq_def<|an @isInt.eq_1<|an @isInt.eq_2<|an @isInt.eq_def<|an @isStr.eq_1<|an @isStr.eq_2<|an @isStr.eq_def<|an @numOf.eq_1<|an @numOf.eq_2<|an @numOf.eq_def<|an @loV.eq_1<|an @loV.eq_2<|an @loV.eq_def<|an @hiV.eq_1<|an @hiV.eq_2<|an @hiV.eq_def<|an @Zmo.eq_1<|an @Zmo.eq_2<|an @Zmo.eq_3<|an @Zmo.eq_4<|an @Zmo.eq_def<|an @Zds.eq_1<|an @Zds.eq_2<|an @Zds.eq_3<|an @Zds.eq_def<|an @Zgq.eq_1<|
 @Zgq.eq_2
def vmA9:=
 an @Zgq.eq_3<|an @Zgq.eq_4<|an @Zgq.eq_5<|an @Zgq.eq_def<|an @Zer.eq_1<|an @Zer.eq_2<|an @Zer.eq_3<|an @Zer.eq_4<|an @Zer.eq_5<|an @Zer.eq_def<|an @Zjd.eq_1<|an @Zjd.eq_2<|an @Zjd.eq_3<|an @Zjd.eq_def<|an @Zie.eq_1<|an @Zie.eq_2<|an @Zie.eq_3<|an @Zie.eq_def<|an @Zba.eq_1<|an @Zba.eq_2<|an @Zba.eq_3<|an @Zba.eq_def<|an @Zfl.eq_1<|an @Zfl.eq_2<|an @Zfl.eq_3<|an @Zfl.eq_def<|an @Za6.eq_1<|an @Za6.eq_2<|an @Za6.eq_def<|
 @Ze4.eq_1
def vmA10:=
 an @Ze4.eq_2<|an @Ze4.eq_def<|an @Zif.eq_1<|an @Zif.eq_2<|an @Zif.eq_3<|an @Zif.eq_def<|an @Zf8.eq_1<|an @Zf8.eq_2<|an @Zf8.eq_3<|an @Zf8.eq_def<|an @Z92.eq_1<|an @Z92.eq_2<|an @Z92.eq_def<|an @Ztt.eq_1<|an @Ztt.eq_2<|an @Ztt.eq_def<|an @Zis.eq_1<|an @Zis.eq_2<|an @Zis.eq_3<|an @Zis.eq_4<|an @Zis.eq_5<|an @Zis.eq_def<|an @Xci.eq_1<|an @Xci.eq_2<|an @Xci.eq_def<|an @Zrx.eq_1<|an @Zrx.eq_2<|an @Zrx.eq_def<|an @Zgx.eq_1<|
 @Zgx.eq_2
def vmA11:=
 an @Ze5.eq_1<|an @Ze5.eq_2<|an @mmV.eq_1<|an @mmV.eq_2<|an @mmV.eq_def<|an @PV.cells.eq_1<|an @PV.cells.eq_2<|an @PV.cells.eq_def<|an @PV.fits.eq_1<|an @PV.fits.eq_2<|an @PV.fits.eq_3<|an @PV.fits.eq_4<|an @PV.fits.eq_5<|an @PV.fits.eq_def<|an @overlay.eq_1<|an @PV.nth.eq_1<|an @PV.row.eq_1<|an @Zkz.eq_1<|an @Zkz.eq_2<|an @Zkz.eq_def<|an @Zbl.eq_1<|an @Zbl.eq_2<|an @Zbl.eq_3<|an @Zbl.eq_def<|an @Zg2.eq_1<|an @Zg2.eq_2<|an @Zg2.eq_3<|an @Zg2.eq_4<|an @Zg2.eq_def<|
 @Zlz.eq_1
def vmA12:=
 an @Zc3.eq_1<|an @Zc3.eq_2<|an @Zc3.eq_def<|an @Zc4.eq_1<|an @Zbn.eq_1<|an @Zbn.eq_2<|an @Zdo.eq_1<|an @Zdo.eq_2<|an @Zfm.eq_1<|an @Zfm.eq_2<|an @Zfm.eq_def<|an @Zcu.eq_1<|an @Zcu.eq_2<|an @Zcu.eq_def<|an @Heap.get.eq_1<|an @Heap.set.eq_1<|an @Heap.del.eq_1<|an @Heap.le.eq_1<|an @HL.get.eq_1<|an @HL.get.eq_2<|an @HL.set.eq_1<|an @HL.set.eq_2<|an @HL.del.eq_1<|an @HL.del.eq_2<|an @HL.le.eq_1<|an @HL.le.eq_2<|an @Heap.push.eq_1<|an @Heap.nil.eq_1<|an @Nat.le_refl<|
 @Nat.add_eq_left
def vmA13:=
 an @Nat.left_eq_add<|an @Nat.succ_ne_self<|an @Nat.one_ne_zero<|an @Env.le.eq_1<|an @Env.le.eq_2<|an @Zbp.eq_1<|an @Zbp.eq_2<|an @Zbp.eq_def<|an @Zga.eq_1<|an @Zga.eq_2<|an @Zga.eq_def<|an @Zbz.eq_1<|an @Zbz.eq_2<|an @Zbz.eq_def<|an @Zk4.eq_1<|an @Zk4.eq_2<|an @Zk4.eq_3<|an @Zk4.eq_def<|an @Zax.eq_1<|an @Zax.eq_2<|an @Zax.eq_3<|an @Zax.eq_4<|an @Zax.eq_def<|an @Zf9.eq_1<|an @Zf9.eq_2<|an @Zf9.eq_3<|an @Zf9.eq_4<|an @Zf9.eq_5<|an @Zf9.eq_def<|
 @Zb6.eq_1
def vmA14:=
 an @Zb6.eq_2<|an @Zct.eq_1<|an @Zct.eq_2<|an @Zf7.eq_1<|an @Zf7.eq_2<|an @Zf7.eq_3<|an @Zgw.eq_1<|an @Zgw.eq_2<|an @Zgw.eq_3<|an @Zgw.eq_4<|an @Zgw.eq_def<|an @Zay.eq_1<|an @Zay.eq_2<|an @Zbo.eq_1<|an @Zbo.eq_2<|an @Zbo.eq_3<|an @Zbo.eq_4<|an @Zbo.eq_def<|an @Zec.eq_1<|an @Zec.eq_2<|an @Zec.eq_def<|an @Zfe.eq_1<|an @Zfe.eq_2<|an @Zfe.eq_def<|an @AB.live.eq_1<|an @AB.live.eq_2<|an @AB.live.eq_def<|an @pxV.eq_1<|an @pxV.eq_2<|
 @pxV.eq_3
def vmA15:=
 an @pxV.eq_4<|an @pxV.eq_5<|an @pxV.eq_6<|an @pxV.eq_7<|an @pxV.eq_8<|an @pxV.eq_def<|an @Ztm.eq_1<|an @Ztm.eq_2<|an @Ztm.eq_3<|an @Ztm.eq_4<|an @Ztm.eq_5<|an @Ztm.eq_6<|an @Ztm.eq_7<|an @Ztm.eq_8<|an @Ztm.eq_def<|an @fxV.eq_1<|an @fxV.eq_2<|an @fxV.eq_3<|an @fxV.eq_4<|an @fxV.eq_def<|an @Zr3.eq_1<|an @Zr3.eq_2<|an @Zr3.eq_3<|an @Zr3.eq_4<|an @Zr3.eq_5<|an @Zr3.eq_6<|an @Zr3.eq_7<|an @Zr3.eq_8<|an @Zr3.eq_9<|
 @Zr3.eq_def
def vmA16:=
 an @Zne.eq_1<|an @Zne.eq_2<|an @Zne.eq_3<|an @Zne.eq_4<|an @Zne.eq_def<|an @Zig.eq_1<|an @Zig.eq_2<|an @Zig.eq_3<|an @Zig.eq_4<|an @Zig.eq_def<|an @isNil.eq_1<|an @isNil.eq_2<|an @isNil.eq_3<|an @isNil.eq_4<|an @isNil.eq_5<|an @isNil.eq_def<|an @notNil.eq_1<|an @notNil.eq_2<|an @notNil.eq_3<|an @notNil.eq_4<|an @notNil.eq_5<|an @notNil.eq_6<|an @notNil.eq_7<|an @notNil.eq_def<|an @List.map.eq_1.{0,0}<|an @List.map.eq_2.{0,0}<|an @List.set.eq_1.{0}<|an @List.set.eq_2.{0}<|an @List.set.eq_3.{0}<|
 @List.replicate.eq_1.{0}
def vmA17:=
 an @List.replicate.eq_2.{0}<|an @List.length.eq_1.{0}<|an @List.length.eq_2.{0}<|an @List.getD_cons_zero.{0}<|an @List.getD_cons_succ.{0}<|an @List.getD_nil.{0}<|an @List.take.eq_1.{0}<|an @List.take.eq_2.{0}<|an @List.take.eq_3.{0}<|an @List.drop.eq_1.{0}<|an @List.drop.eq_2.{0}<|an @List.drop.eq_3.{0}<|an @List.take_zero.{0}<|an @List.drop_zero.{0}<|an @List.take_succ_cons.{0}<|an @List.drop_succ_cons.{0}<|an @List.append.eq_1.{0}<|an @List.append.eq_2.{0}<|an @List.cons_append.{0}<|an @List.nil_append.{0}<|an @Option.map.eq_1.{0,0}<|an @Option.map.eq_2.{0,0}<|an @Option.map.eq_def.{0,0}<|an @Bool.false_eq_true<|an @Bool.true_eq_false<|an @ite_true.{1}<|an @ite_true.{0}<|an @ite_false.{1}<|an @ite_false.{0}<|
 @if_true.{1}
def vmA18:=
 an @if_true.{0}<|an @if_false.{1}<|an @if_false.{0}<|an @true_and<|an @and_true<|an @implies_true.{1}<|an @implies_true.{0}<|an @forall_const.{1}<|an @forall_const.{0}<|an @ne_eq.{1}<|an @not_false_eq_true<|an @BEq.rfl.{0}<|an @beq_self_eq_true.{0}<|an @Option.some.injEq.{0}<|an @Nat.zero_add<|an @Nat.add_zero<|an @List.length_cons.{0}<|an @List.length_nil.{0}<|an @true_implies<|an @imp_self<|an @Int.toNat_natCast<|an @Bool.not_false<|
 @Bool.not_true
def vmA:=And.intro vmA0<|And.intro vmA1<|And.intro vmA2<|And.intro vmA3<|And.intro vmA4<|And.intro vmA5<|And.intro vmA6<|And.intro vmA7<|And.intro vmA8<|And.intro vmA9<|And.intro vmA10<|And.intro vmA11<|And.intro vmA12<|And.intro vmA13<|And.intro vmA14<|And.intro vmA15<|And.intro vmA16<|And.intro vmA17<|vmA18
theorem vmL:type_of% vmA:=vmA
theorem xlm{α β:Type}{f:α→β}{l:List α}:(l.map f).length=l.length:=Zyc f
theorem xan{α:Type}{l:List α}:l++[]=l:=Zyj l
theorem xok{A B C:Prop}(a:A)(z:B=C):(A∧B)=C:=by rw[←z];exact propext ⟨(·.2),fun b=>⟨a,b⟩⟩
theorem x2{A B:Prop}(a:A)(b:B):A∧B:=⟨a,b⟩
theorem x3{A B C:Prop}(a:A)(b:B)(c:C):A∧B∧C:=⟨a,b,c⟩
theorem x4{A B C D:Prop}(a:A)(b:B)(c:C)(d:D):A∧B∧C∧D:=⟨a,b,c,d⟩
theorem x5{A B C D E:Prop}(a:A)(b:B)(c:C)(d:D)(e:E):A∧B∧C∧D∧E:=⟨a,b,c,d,e⟩
section
variable {P:Program} {N:FK} {Q:Exit→Env→Heap→Prop} {e:Env} {h:Heap}
theorem Sp0{X:Prop}{Y:Prop}(k:Y)(z:Y→X:=by intro k;(try simp only[vmL,Nat.reduceEqDiff,Nat.reduceAdd,Nat.reduceLT,Nat.reduceLeDiff,Nat.reduceSub,Nat.reduceMul,reduceIte,reduceCtorEq,Int.reduceToNat]);exact k):X:=z k
theorem Sp1{X:Prop}{A Y:Prop}(a:A)(k:Y)(z:A→Y→X:=by intro a k;(try simp only[vmL,Nat.reduceEqDiff,Nat.reduceAdd,Nat.reduceLT,Nat.reduceLeDiff,Nat.reduceSub,Nat.reduceMul,reduceIte,reduceCtorEq,Int.reduceToNat,a]);exact k):X:=z a k
theorem Sc0{X:Prop}(z:X:=by simp only[vmL,Nat.reduceEqDiff,Nat.reduceAdd,Nat.reduceLT,Nat.reduceLeDiff,Nat.reduceSub,Nat.reduceMul,reduceIte,reduceCtorEq,Int.reduceToNat]):X:=z
theorem Sc1{X:Prop}{A:Prop}(a:A)(z:A→X:=by intro a;simp only[vmL,Nat.reduceEqDiff,Nat.reduceAdd,Nat.reduceLT,Nat.reduceLeDiff,Nat.reduceSub,Nat.reduceMul,reduceIte,reduceCtorEq,Int.reduceToNat,a]):X:=z a
theorem Rp0{q:List VOper}{x:VC}(l:List Nat){Y:Prop}(k:Y)(z:Y→Zfo P q (fun e' h'=>Zg4 (VW P N x Q) Q .normal (Env.keep l e') h') e h:=by intro k;(try simp only[vmL,Nat.reduceEqDiff,Nat.reduceAdd,Nat.reduceLT,Nat.reduceLeDiff,Nat.reduceSub,Nat.reduceMul,reduceIte,reduceCtorEq,Int.reduceToNat]);exact k):VW P N (.seq (.region q false) x) Q e h:=Zaa (Zad l (z k))
theorem Rp1{q:List VOper}{x:VC}(l:List Nat){A Y:Prop}(a:A)(k:Y)(z:A→Y→Zfo P q (fun e' h'=>Zg4 (VW P N x Q) Q .normal (Env.keep l e') h') e h:=by intro a k;(try simp only[vmL,Nat.reduceEqDiff,Nat.reduceAdd,Nat.reduceLT,Nat.reduceLeDiff,Nat.reduceSub,Nat.reduceMul,reduceIte,reduceCtorEq,Int.reduceToNat,a]);exact k):VW P N (.seq (.region q false) x) Q e h:=Zaa (Zad l (z a k))
theorem rp0{q:List VOper}(l:List Nat){Y:Prop}(k:Y)(z:Y→Zfo P q (fun e' h'=>Q .normal (Env.keep l e') h') e h:=by intro k;(try simp only[vmL,Nat.reduceEqDiff,Nat.reduceAdd,Nat.reduceLT,Nat.reduceLeDiff,Nat.reduceSub,Nat.reduceMul,reduceIte,reduceCtorEq,Int.reduceToNat]);exact k):VW P N (.region q false) Q e h:=Zad l (z k)
theorem rp1{q:List VOper}(l:List Nat){A Y:Prop}(a:A)(k:Y)(z:A→Y→Zfo P q (fun e' h'=>Q .normal (Env.keep l e') h') e h:=by intro a k;(try simp only[vmL,Nat.reduceEqDiff,Nat.reduceAdd,Nat.reduceLT,Nat.reduceLeDiff,Nat.reduceSub,Nat.reduceMul,reduceIte,reduceCtorEq,Int.reduceToNat,a]);exact k):VW P N (.region q false) Q e h:=Zad l (z a k)
theorem Kp0  {Y:Prop}(k:Y)(z:Y→Q .normal e h:=by intro k;(try simp only[vmL,Nat.reduceEqDiff,Nat.reduceAdd,Nat.reduceLT,Nat.reduceLeDiff,Nat.reduceSub,Nat.reduceMul,reduceIte,reduceCtorEq,Int.reduceToNat]);exact k):VW P N .skip Q e h:=Znr (z k)
theorem Kp1  {A Y:Prop}(a:A)(k:Y)(z:A→Y→Q .normal e h:=by intro a k;(try simp only[vmL,Nat.reduceEqDiff,Nat.reduceAdd,Nat.reduceLT,Nat.reduceLeDiff,Nat.reduceSub,Nat.reduceMul,reduceIte,reduceCtorEq,Int.reduceToNat,a]);exact k):VW P N .skip Q e h:=Znr (z a k)
theorem Tp0  {Y:Prop}(k:Y)(z:Y→Q .ret e h:=by intro k;(try simp only[vmL,Nat.reduceEqDiff,Nat.reduceAdd,Nat.reduceLT,Nat.reduceLeDiff,Nat.reduceSub,Nat.reduceMul,reduceIte,reduceCtorEq,Int.reduceToNat]);exact k):VW P N .ret Q e h:=Zd4 (z k)
theorem Tp1  {A Y:Prop}(a:A)(k:Y)(z:A→Y→Q .ret e h:=by intro a k;(try simp only[vmL,Nat.reduceEqDiff,Nat.reduceAdd,Nat.reduceLT,Nat.reduceLeDiff,Nat.reduceSub,Nat.reduceMul,reduceIte,reduceCtorEq,Int.reduceToNat,a]);exact k):VW P N .ret Q e h:=Zd4 (z a k)
theorem Ep0{i:Nat}{Y:Prop}(k:Y)(z:Y→Q (.exit i) e h:=by intro k;(try simp only[vmL,Nat.reduceEqDiff,Nat.reduceAdd,Nat.reduceLT,Nat.reduceLeDiff,Nat.reduceSub,Nat.reduceMul,reduceIte,reduceCtorEq,Int.reduceToNat]);exact k):VW P N (.exit i) Q e h:=Z56 (z k)
theorem Ep1{i:Nat}{A Y:Prop}(a:A)(k:Y)(z:A→Y→Q (.exit i) e h:=by intro a k;(try simp only[vmL,Nat.reduceEqDiff,Nat.reduceAdd,Nat.reduceLT,Nat.reduceLeDiff,Nat.reduceSub,Nat.reduceMul,reduceIte,reduceCtorEq,Int.reduceToNat,a]);exact k):VW P N (.exit i) Q e h:=Z56 (z a k)
theorem Ap0{f:FuncId}{args:List PV}{p:PV}{K:PV→Heap→Prop}(H:Zgy P f args p){Y:Prop}(k:Y)(z:Y→K p h:=by intro k;(try simp only[vmL,Nat.reduceEqDiff,Nat.reduceAdd,Nat.reduceLT,Nat.reduceLeDiff,Nat.reduceSub,Nat.reduceMul,reduceIte,reduceCtorEq,Int.reduceToNat]);exact k):Zam P f args h K:=Zag H (z k)
theorem Ap1{f:FuncId}{args:List PV}{p:PV}{K:PV→Heap→Prop}(H:Zgy P f args p){A Y:Prop}(a:A)(k:Y)(z:A→Y→K p h:=by intro a k;(try simp only[vmL,Nat.reduceEqDiff,Nat.reduceAdd,Nat.reduceLT,Nat.reduceLeDiff,Nat.reduceSub,Nat.reduceMul,reduceIte,reduceCtorEq,Int.reduceToNat,a]);exact k):Zam P f args h K:=Zag H (z a k)
theorem Fp0{v:VA}{x:VC}{Y:Prop}(k:Y)(z:Y→Q .normal e h:=by intro k;(try simp only[vmL,Nat.reduceEqDiff,Nat.reduceAdd,Nat.reduceLT,Nat.reduceLeDiff,Nat.reduceSub,Nat.reduceMul,reduceIte,reduceCtorEq,Int.reduceToNat]);exact k)(hb:v.ev e=.bool false:=by rfl):VW P N (.cond v x .skip) Q e h:=Zae hb (fun h=>by cases h) (fun _=>Znr (z k))
theorem Fp1{v:VA}{x:VC}{A Y:Prop}(a:A)(k:Y)(z:A→Y→Q .normal e h:=by intro a k;(try simp only[vmL,Nat.reduceEqDiff,Nat.reduceAdd,Nat.reduceLT,Nat.reduceLeDiff,Nat.reduceSub,Nat.reduceMul,reduceIte,reduceCtorEq,Int.reduceToNat,a]);exact k)(hb:v.ev e=.bool false:=by rfl):VW P N (.cond v x .skip) Q e h:=Zae hb (fun h=>by cases h) (fun _=>Znr (z a k))
theorem Sr0{X:Prop}(z:X:=by first|(simp only[vmL,Nat.reduceEqDiff,Nat.reduceAdd,Nat.reduceLT,Nat.reduceLeDiff,Nat.reduceSub,Nat.reduceMul,reduceIte,reduceCtorEq,Int.reduceToNat];done)|((try simp only[vmL,Nat.reduceEqDiff,Nat.reduceAdd,Nat.reduceLT,Nat.reduceLeDiff,Nat.reduceSub,Nat.reduceMul,reduceIte,reduceCtorEq,Int.reduceToNat]);rfl)):X:=z
theorem Sr1{X A:Prop}(a:A)(z:A→X:=by intro a;first|(simp only[vmL,Nat.reduceEqDiff,Nat.reduceAdd,Nat.reduceLT,Nat.reduceLeDiff,Nat.reduceSub,Nat.reduceMul,reduceIte,reduceCtorEq,Int.reduceToNat,a];done)|((try simp only[vmL,Nat.reduceEqDiff,Nat.reduceAdd,Nat.reduceLT,Nat.reduceLeDiff,Nat.reduceSub,Nat.reduceMul,reduceIte,reduceCtorEq,Int.reduceToNat,a]);rfl)):X:=z a
theorem Tv0(z:Q .ret e h:=by(try simp only[vmL,Nat.reduceEqDiff,Nat.reduceAdd,Nat.reduceLT,Nat.reduceLeDiff,Nat.reduceSub,Nat.reduceMul,reduceIte,reduceCtorEq,Int.reduceToNat]);exact Vr):VW P N .ret Q e h:=Zd4 z
theorem Tv1{A:Prop}(a:A)(z:A→Q .ret e h:=by intro a;(try simp only[vmL,Nat.reduceEqDiff,Nat.reduceAdd,Nat.reduceLT,Nat.reduceLeDiff,Nat.reduceSub,Nat.reduceMul,reduceIte,reduceCtorEq,Int.reduceToNat,a]);exact Vr):VW P N .ret Q e h:=Zd4 (z a)
theorem Rv0{q:List VOper}{x:VC}(l:List Nat)(z:Zfo P q (fun e' h'=>Zg4 (VW P N x Q) Q .normal (Env.keep l e') h') e h:=by(try simp only[vmL,Nat.reduceEqDiff,Nat.reduceAdd,Nat.reduceLT,Nat.reduceLeDiff,Nat.reduceSub,Nat.reduceMul,reduceIte,reduceCtorEq,Int.reduceToNat]);refine Zd4 ?_;(try simp only[vmL,Nat.reduceEqDiff,Nat.reduceAdd,Nat.reduceLT,Nat.reduceLeDiff,Nat.reduceSub,Nat.reduceMul,reduceIte,reduceCtorEq,Int.reduceToNat]);exact Vr):VW P N (.seq (.region q false) x) Q e h:=Zaa (Zad l z)
theorem Fn0{X:Prop}(z:X:=by(try simp only[vmL,Nat.reduceEqDiff,Nat.reduceAdd,Nat.reduceLT,Nat.reduceLeDiff,Nat.reduceSub,Nat.reduceMul,reduceIte,reduceCtorEq,Int.reduceToNat]);all_goals (repeat' (first|rfl|trivial|omega|(simp only[];omega)|refine And.intro ?_ ?_))):X:=z
theorem Fn1{X A:Prop}(a:A)(z:A→X:=by intro a;(try simp only[vmL,Nat.reduceEqDiff,Nat.reduceAdd,Nat.reduceLT,Nat.reduceLeDiff,Nat.reduceSub,Nat.reduceMul,reduceIte,reduceCtorEq,Int.reduceToNat,a]);all_goals (repeat' (first|rfl|trivial|omega|(simp only[];omega)|refine And.intro ?_ ?_))):X:=z a
theorem Ok{X Y:Prop}(k:Y)(z:X=Y:=by(repeat (with_reducible apply xok;first|omega|(with_reducible constructor<;>omega)|exact False.elim|exact⟨⟩));exact rfl):X:=z.mpr k
theorem Ct{v:VA}{x y:VC}(k:VW P N x Q e h)(hb:v.ev e=.bool true:=by rfl):VW P N (.cond v x y) Q e h:=Zae hb (fun _=>k) (fun h=>by cases h)
theorem Cf{v:VA}{x y:VC}(k:VW P N y Q e h)(hb:v.ev e=.bool false:=by rfl):VW P N (.cond v x y) Q e h:=Zae hb (fun h=>by cases h) (fun _=>k)
theorem N2(x0 x1:Nat)(z:x0≠x1∧x1≠x0:=by and_intros<;>omega):x0≠x1∧x1≠x0:=z
theorem N3(x0 x1 x2:Nat)(z:x0≠x1∧x0≠x2∧x1≠x0∧x1≠x2∧x2≠x0∧x2≠x1:=by and_intros<;>omega):x0≠x1∧x0≠x2∧x1≠x0∧x1≠x2∧x2≠x0∧x2≠x1:=z
theorem N4(x0 x1 x2 x3:Nat)(z:x0≠x1∧x0≠x2∧x0≠x3∧x1≠x0∧x1≠x2∧x1≠x3∧x2≠x0∧x2≠x1∧x2≠x3∧x3≠x0∧x3≠x1∧x3≠x2:=by and_intros<;>omega):x0≠x1∧x0≠x2∧x0≠x3∧x1≠x0∧x1≠x2∧x1≠x3∧x2≠x0∧x2≠x1∧x2≠x3∧x3≠x0∧x3≠x1∧x3≠x2:=z
theorem N5(x0 x1 x2 x3 x4:Nat)(z:x0≠x1∧x0≠x2∧x0≠x3∧x0≠x4∧x1≠x0∧x1≠x2∧x1≠x3∧x1≠x4∧x2≠x0∧x2≠x1∧x2≠x3∧x2≠x4∧x3≠x0∧x3≠x1∧x3≠x2∧x3≠x4∧x4≠x0∧x4≠x1∧x4≠x2∧x4≠x3:=by and_intros<;>omega):x0≠x1∧x0≠x2∧x0≠x3∧x0≠x4∧x1≠x0∧x1≠x2∧x1≠x3∧x1≠x4∧x2≠x0∧x2≠x1∧x2≠x3∧x2≠x4∧x3≠x0∧x3≠x1∧x3≠x2∧x3≠x4∧x4≠x0∧x4≠x1∧x4≠x2∧x4≠x3:=z
theorem N6(x0 x1 x2 x3 x4 x5:Nat)(z:x0≠x1∧x0≠x2∧x0≠x3∧x0≠x4∧x0≠x5∧x1≠x0∧x1≠x2∧x1≠x3∧x1≠x4∧x1≠x5∧x2≠x0∧x2≠x1∧x2≠x3∧x2≠x4∧x2≠x5∧x3≠x0∧x3≠x1∧x3≠x2∧x3≠x4∧x3≠x5∧x4≠x0∧x4≠x1∧x4≠x2∧x4≠x3∧x4≠x5∧x5≠x0∧x5≠x1∧x5≠x2∧x5≠x3∧x5≠x4:=by and_intros<;>omega):x0≠x1∧x0≠x2∧x0≠x3∧x0≠x4∧x0≠x5∧x1≠x0∧x1≠x2∧x1≠x3∧x1≠x4∧x1≠x5∧x2≠x0∧x2≠x1∧x2≠x3∧x2≠x4∧x2≠x5∧x3≠x0∧x3≠x1∧x3≠x2∧x3≠x4∧x3≠x5∧x4≠x0∧x4≠x1∧x4≠x2∧x4≠x3∧x4≠x5∧x5≠x0∧x5≠x1∧x5≠x2∧x5≠x3∧x5≠x4:=z
theorem N7(x0 x1 x2 x3 x4 x5 x6:Nat)(z:x0≠x1∧x0≠x2∧x0≠x3∧x0≠x4∧x0≠x5∧x0≠x6∧x1≠x0∧x1≠x2∧x1≠x3∧x1≠x4∧x1≠x5∧x1≠x6∧x2≠x0∧x2≠x1∧x2≠x3∧x2≠x4∧x2≠x5∧x2≠x6∧x3≠x0∧x3≠x1∧x3≠x2∧x3≠x4∧x3≠x5∧x3≠x6∧x4≠x0∧x4≠x1∧x4≠x2∧x4≠x3∧x4≠x5∧x4≠x6∧x5≠x0∧x5≠x1∧x5≠x2∧x5≠x3∧x5≠x4∧x5≠x6∧x6≠x0∧x6≠x1∧x6≠x2∧x6≠x3∧x6≠x4∧x6≠x5:=by and_intros<;>omega):x0≠x1∧x0≠x2∧x0≠x3∧x0≠x4∧x0≠x5∧x0≠x6∧x1≠x0∧x1≠x2∧x1≠x3∧x1≠x4∧x1≠x5∧x1≠x6∧x2≠x0∧x2≠x1∧x2≠x3∧x2≠x4∧x2≠x5∧x2≠x6∧x3≠x0∧x3≠x1∧x3≠x2∧x3≠x4∧x3≠x5∧x3≠x6∧x4≠x0∧x4≠x1∧x4≠x2∧x4≠x3∧x4≠x5∧x4≠x6∧x5≠x0∧x5≠x1∧x5≠x2∧x5≠x3∧x5≠x4∧x5≠x6∧x6≠x0∧x6≠x1∧x6≠x2∧x6≠x3∧x6≠x4∧x6≠x5:=z
theorem N8(x0 x1 x2 x3 x4 x5 x6 x7:Nat)(z:x0≠x1∧x0≠x2∧x0≠x3∧x0≠x4∧x0≠x5∧x0≠x6∧x0≠x7∧x1≠x0∧x1≠x2∧x1≠x3∧x1≠x4∧x1≠x5∧x1≠x6∧x1≠x7∧x2≠x0∧x2≠x1∧x2≠x3∧x2≠x4∧x2≠x5∧x2≠x6∧x2≠x7∧x3≠x0∧x3≠x1∧x3≠x2∧x3≠x4∧x3≠x5∧x3≠x6∧x3≠x7∧x4≠x0∧x4≠x1∧x4≠x2∧x4≠x3∧x4≠x5∧x4≠x6∧x4≠x7∧x5≠x0∧x5≠x1∧x5≠x2∧x5≠x3∧x5≠x4∧x5≠x6∧x5≠x7∧x6≠x0∧x6≠x1∧x6≠x2∧x6≠x3∧x6≠x4∧x6≠x5∧x6≠x7∧x7≠x0∧x7≠x1∧x7≠x2∧x7≠x3∧x7≠x4∧x7≠x5∧x7≠x6:=by and_intros<;>omega):x0≠x1∧x0≠x2∧x0≠x3∧x0≠x4∧x0≠x5∧x0≠x6∧x0≠x7∧x1≠x0∧x1≠x2∧x1≠x3∧x1≠x4∧x1≠x5∧x1≠x6∧x1≠x7∧x2≠x0∧x2≠x1∧x2≠x3∧x2≠x4∧x2≠x5∧x2≠x6∧x2≠x7∧x3≠x0∧x3≠x1∧x3≠x2∧x3≠x4∧x3≠x5∧x3≠x6∧x3≠x7∧x4≠x0∧x4≠x1∧x4≠x2∧x4≠x3∧x4≠x5∧x4≠x6∧x4≠x7∧x5≠x0∧x5≠x1∧x5≠x2∧x5≠x3∧x5≠x4∧x5≠x6∧x5≠x7∧x6≠x0∧x6≠x1∧x6≠x2∧x6≠x3∧x6≠x4∧x6≠x5∧x6≠x7∧x7≠x0∧x7≠x1∧x7≠x2∧x7≠x3∧x7≠x4∧x7≠x5∧x7≠x6:=z
end
theorem Gn{P:Program}{h:Heap}{f:FuncId}{fn:Func}{c:Code}{vc:VC}{args:List PV}{K:PV→Heap→Prop}(ts:List RS)(hf:P.funcs[f]?=some fn)(H:VW P (FK.std fn.ntmps) vc (Z5g ts K) (Zed 0 args) h)
  (hok:Ztr P f=true:=by kernel_rfl)(hb:fn.body=some c:=by rfl)(hr:Z5h P fn.results.toList=some ts:=by rfl)(hn:args.length≤fn.ntmps:=by exact Zym rfl)(hc:Zb1 P fn.ntmps c=some vc:=by kernel_rfl):Zam P f args h K:=
 Xaa hf hok hb hr hn hc H
theorem Gp{P:Program}{f:FuncId}{fn:Func}{c:Code}{vc:VC}{args:List PV}{p:PV}(ts:List RS)(hp:Closed p)(hf:P.funcs[f]?=some fn)(H:VW P (FK.std fn.ntmps) vc (Z5g ts (fun r h'=>View h' r p)) (Zed 0 args) Heap.nil)(cl:Za8 args:=by simp only[Za8,Zyb,Zya,or_false,Zyv,forall_eq,false_implies,implies_true];repeat' (first  |exact cI _|exact cS _|exact cB _|exact Zfr _|exact Zar|exact Zah (Un.closed _)|exact Zah (It.closed _)|exact Zah (EI.closed _)|exact Zah (Ac.closed _)|exact Zah (Wd.closed _)|exact Zah (St.closed _)|exact Zah (Sta.closed _)|exact Zqt _|exact Zqu _|exact Z3d _|exact Closed.of_scalar (Zda _ _)|exact Zbf (Ac.closed _)|exact Zbf (Gz.closed _)|exact Zah (Gz.closed _)|exact Zb0 _|exact Zaj (fun w _=>Wd.closed w)|exact Zaj (fun w _=>St.closed w)|exact Zaj (fun w _=>Un.closed w)|exact Zaj (fun w _=>It.closed w)|exact Z6d _|exact Z28 _|exact Zah (Sp.closed _)|exact Zbf (EI.closed _)|exact Zbf (Sta.closed _)|exact Zbf (It.closed _)|exact Zbf (by simp only[Zyb,Zya,or_false,forall_eq];first|exact cI _|exact cS _|exact Zqt _)|refine And.intro ?_ ?_))(hok:Ztr P f=true:=by kernel_rfl)(hb:fn.body=some c:=by rfl)(hr:Z5h P fn.results.toList=some ts:=by rfl)(hn:args.length≤fn.ntmps:=by exact Zym rfl)(hc:Zb1 P fn.ntmps c=some vc:=by kernel_rfl):Zgy P f args p:=Zac (Gn ts hf H hok hb hr hn hc) hp cl
end Go.VM
