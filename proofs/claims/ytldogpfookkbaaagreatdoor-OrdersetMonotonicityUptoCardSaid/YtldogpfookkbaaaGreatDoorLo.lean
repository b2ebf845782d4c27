import Derived.Test.YtldogpfookkbaaaGreatDoorIv
import Derived.Test.YtldogpfookkbaaaGreatDoorVmBt
import Derived.Lib.LaidTab
import Derived.LaidSub
import Derived.LaidMore
set_option linter.all false
set_option maxRecDepth 20000
set_option maxHeartbeats 0
namespace Go.VM
open Go Go.Proofs.w
theorem Xfb{l:List Ac}{u:Un}{K:List Int}{x:Int}(h5:l.length≤5)(h:Zed l u K=true):Zed l u (K++[x])=true:=by
 unfold Zed at h⊢;refine Z0w h5 (fun i _ hi=>?_) h;rw[List.contains_iff_mem]at hi⊢;exact List.mem_append_left _ hi
theorem Xfc{l:List Ac}{u:Un}(h5:l.length≤5):Zed l u ((nz (List.range l.length)).drop 1)=true:=by
  unfold Zed;refine Z0x h5 (Zwl l u) (fun i h1 hi=>?_);rw[List.contains_iff_mem];have:nz (List.range l.length)=0::(nz (List.range (l.length-1))).map (·+1):=by
    obtain⟨m,hm⟩:∃m,l.length=m+1:=⟨l.length-1,by omega⟩;rw[hm,Nat.add_sub_cancel,List.range_succ_eq_map];unfold nz;rw[List.map_cons,List.map_map,List.map_map];rfl
  rw[this,List.drop_one,List.tail_cons,List.mem_map];exact⟨((i-1:Nat):Int),Zrg.2 ⟨i-1,List.mem_range.2 (by omega),rfl⟩,by omega⟩
theorem Xfd{l:List Ac}{u:Un}(h5:l.length≤5):Zed l u []=decide ((Zgw (Zbw l u)).length=1):=by
 unfold Zed;have e:(fun i:Nat=>([]:List Int).contains (i:Int))=fun _=>false:=by funext i;rfl
 rw[e,Z0y];obtain⟨h0,h1⟩:=Zpl l.length h5;have hr:Za3 l.length=List.range l.length::(Za3 l.length).tail:=by
  cases hq:Za3 l.length with
  |nil=>rw[hq]at h0;exact absurd h0 (Nat.lt_irrefl 0)
  |cons a r=>simp only[hq,List.getElem_cons_zero]at h1;rw[h1];rfl
 have hb:Zbw l u=Zcr l u (List.range l.length)::(Za3 l.length).tail.map (Zcr l u):=by
  unfold Zbw;rw[hr];rfl
 rw[hb,Bool.eq_iff_iff,Zx3,(Zrv _ _).2,hr,List.all_cons,Zwl,Zyt,List.all_eq_true,List.tail_cons];constructor
 ·intro H x hx;obtain⟨r,h2,rfl⟩:=List.mem_map.1 hx;exact Zzg.1 (H r h2)
 ·intro H r h2;exact Zzg.2 (H _ (List.mem_map_of_mem h2))
theorem mo_pos{l:List Ac}{u:Un}(h5:l.length≤5):1≤(Zgw (Zbw l u)).length:=by
 obtain⟨h0,_⟩:=Zpl l.length h5;cases hq:Zbw l u with
 |nil=>
  have:(Zbw l u).length=(Za3 l.length).length:=Zyc _;rw[hq]at this;rw[Zyn]at this;omega
 |cons b r=>exact(Zrv b r).1
end Go.VM
namespace Go.Proofs.w
open Go Go.VM
def Y201:VC:=(ZR [Yw 4 8 0,Yv 8 Yf] (.seq (ZR [Yc 11 9 [],Yn 12 11] (YC 12 (ZR [Yv 8 Yf] .ret) .skip)) (.seq (ZR [Ym 13 8 4,ZM 14 3,ZO 15 (.call 17 [.t 13,.t 14,(Yi 4)]),Yn 16 15,ZM 17 16,Yg 18 1 17 false,Yd 19 18 17 false,ZG 20 (.bin .gtr (.t 19) (Yi 20)) 17 false,Yh 21 17 20] (YC 21 (ZR [Yv 8 Yt] .ret) .skip)) (.seq (.seq (.draw2 [Ym 22 8 4,ZM 23 1,ZM 24 3,Yc 25 22 [22,23,24],ZM 26 25,Yj 27 8 4 26 true,ZG 28 (.fx (.mk0 1) []) 26 true,Yg 29 1 26 true,ZG 30 (.app 1 8 [Yo] false (.t 28) (.t 29)) 26 true,Yg 31 2 26 true,ZG 32 (.bslice 1 1 [Yo] [(0,(.t 31))]) 26 true,ZG 33 (.app 1 8 [Yo] false (.t 30) (.t 32)) 26 true,Yg 34 3 26 true,ZG 35 (.call 22 [.t 27,.t 33,.t 34]) 26 true,Yq 36 35 26 true,Yz 37 26 36] [true,true,true,true,true,false,false,false,false,false,false,false,false,false,false,false]) (YC 37 (ZR [Yv 8 Yf] .ret) .skip)) (ZR [ZM 38 3,Ye 39 38,Yc 40 23 [39],ZM 9 40] (.seq (ZR [ZM 41 9,Ye 42 41,Yu 43 .gtr 42 0] (YC 43 (.region [ZM 44 9,ZO 45 (.slice false 1 (.t 44) (some (Yi 1)) none),ZM 9 45] false) .skip)) (ZR [Ym 46 8 4,ZM 47 3,Yc 48 21 [46,47],ZM 10 48] (ZR [Ym 49 8 4,ZM 50 9,ZM 51 3,Yc 52 22 [49,50,51],ZM 53 52,Yj 54 8 4 53 true,Yg 55 3 53 true,ZG 56 (.call 22 [.t 54,(.c .nilsl),.t 55]) 53 true,Yg 57 10 53 true,ZG 58 (.bin .eql (.t 57) (Yi 1)) 53 true,ZG 59 (.binb .eql (.t 56) (.t 58)) 53 true,Yz 60 53 59,ZM 61 60,Yg 62 10 61 true,ZG 63 (.bin .geq (.t 62) (Yi 1)) 61 true,Yz 64 61 63,ZM 8 64] .ret))))))))
theorem Zgd(u:Un)(K:List Int)(x:Int)(l:List Ac)(hu:UnB u)(hK:K.length≤1048576)(hx:i64 x)(hs:Z4s AcB l):Tc 6 [.agg u.enc,.sl 1 (zR K),pI x,.sl 7 (l.map Ac.enc)] (.bool true):=by
 obtain⟨hl,ha⟩:=hs;have AW:=Z9q;have FW:=Xcm hu (l:=l) hl ha 4 (by omega);refine Zac ?_ (cB _) (CL4 (Zam u) (Zb1 _) (cI _) (Zd3 l));have SU:=fun(h4:l.length≤4) (g:VM.Good 60 u) (h:∀y∈l,SmAc y) (K:List Int) (hK:K.length≤1000000)=>Ztn g h (by omega) (by omega) K hK;have CN:=fun(h4:l.length≤4) (g:VM.Good 60 u) (h:∀y∈l,SmAc y)=>Z2t g h (by omega) (by omega);have GI:=fun(h4:l.length≤4)=>Zp1 l.length (by omega);have mm:=fun(h4:l.length≤4)=>Xfb (l:=l) (u:=u) (K:=K) (x:=x) (by omega);have mt:=fun(h4:l.length≤4)=>Xfc (l:=l) (u:=u) (by omega);have mn:=fun(h4:l.length≤4)=>Xfd (l:=l) (u:=u) (by omega);have mp:=fun(h4:l.length≤4)=>mo_pos (l:=l) (u:=u) (by omega);generalize Zed l u=EN at*;generalize(Zgw (Zbw l u)).length=C at*;have hKl:=Zo3 K;have hut:=Zaq u;have hul:=Zap u;have hL:(l.map Ac.enc).length=l.length:=Zyc _;generalize u.enc=U at*;generalize l.map Ac.enc=LE at*;refine Gn (vc:=Y201) [.t 8] Tryz.func6 ?_;simp only[Y201,YY];refine Rp1 [1,2,3,4] hul ?_;refine Zaw [(1,.sl 1 (zR K)),(2,pI x),(3,.sl 7 LE),(4,.ro U)] ⟨Vr,Vr,Vr,View.loc (z:=8) (fz:=false) (es:=[U]) rfl (by simp) rfl (by omega),trivial⟩ ?_;refine Zaa<|Rp0 [1,2,3,4,12] ?_;refine Ap0 AW ?_;refine Fp0 ?_;refine Zaa<|Zcw (σ:={ b:Bool//b=false→(Sm38 u l 4∧K.length≤20) }) [1,2,3,4,21] (fun s=>[(1,.sl 1 (zR K)),(2,pI x),(3,.sl 7 LE),(4,.ro U),(21,.bool s.1)]) ?_ (fun b=>?_)
 ·refine Sp1 (x2 hut hul) ?_;refine Zks FW ?_;rintro p ⟨b1,rfl,hb1⟩;cases b1 with
  |false=>
   refine Sp0 ?_;exact⟨⟨true,fun h=>by cases h⟩,by first|trivial|rfl⟩
  |true=>
   refine Sp1 hKl ?_;exact⟨⟨decide ((20:Int)<(K.length:Int)),fun h=>⟨hb1 rfl,by have:=of_decide_eq_false h;omega⟩⟩,by first|trivial|rfl⟩
 obtain⟨b,hb0⟩:=b;simp only[];refine Zae rfl (fun h1=>?_) (fun h1=>?_)
 ·exact Rv0 [8]
 obtain⟨q1,q2⟩:=hb0 h1;have h4:=q1.len;have g:=q1.good hu;have h:=q1.ac ha
 replace SU:=SU h4 g h
 replace CN:=CN h4 g h
 replace GI:=GI h4
 replace mm:=mm h4
 replace mt:=mt h4
 replace mn:=mn h4
 replace mp:=mp h4
 clear hb0 FW q1 ha hl g h;refine Kp0 ?_;have S1:=SU K (by omega);have S2:=SU (K++[x]) (by simp;omega);have S3:=SU ((nz (List.range l.length)).drop 1) (by rw[List.length_drop,Zkm,List.length_range];omega);have S4:=SU [] (by simp);have htk:List.take K.length (zR K)=zR K:=by rw[←hKl,List.take_length]
 refine Zaa ?_;refine Zaa (Ze2 (σ:=Unit) (fun _=>([(3,.sl 7 LE),(4,.ro U),(37,.bool false)],⟨[],100⟩)) ?_ (fun _=>?_))
 ·cases hE:EN K with
  |false=>
   rw[hE]at S1;refine Zws 13 [] 100 [3,4,37] rfl (by simp) ?_;simp only[vmL,Nat.reduceEqDiff,Nat.reduceAdd,Nat.reduceLT,Nat.reduceLeDiff,Zk4,List.contains_nil,hut,hul];refine⟨_,.inl S1,?_⟩;have ff:(false==true)=false:=rfl;simp only[vmL,ff,false_implies,Zyu,true_and];exact⟨.undef,.undef,.undef,.undef,(),trivial⟩
  |true=>
   have e2:zR (K++[x])=zR K++[[pI x]]:=by simp[zR]
   rw[mm hE,e2]at S2;rw[hE]at S1;refine Zws 13 [6,8,11,13] 100 [3,4,37] rfl (by simp) ?_;have tt:(true==true)=true:=rfl;rw[Zk4];simp only[vmL,Nat.reduceEqDiff,hut,hul,List.contains_cons,List.contains_nil,Nat.reduceBEq,Bool.or_false,Bool.false_or,Bool.or_true,Bool.true_or];rw[Zk4];simp only[vmL,Nat.reduceEqDiff,Nat.reduceAdd,hut,hul,List.contains_cons,List.contains_nil,Nat.reduceBEq,Bool.or_false,Bool.false_or,Bool.or_true,Bool.true_or];rw[Zk4];simp only[vmL,Nat.reduceEqDiff,Nat.reduceAdd,hut,hul,List.contains_cons,List.contains_nil,Nat.reduceBEq,Bool.or_false,Bool.false_or,Bool.or_true,Bool.true_or];rw[Zk4];simp only[vmL,Nat.reduceAdd,hut,hul,List.contains_cons,List.contains_nil,Nat.reduceBEq,Bool.or_false,Bool.false_or,Bool.or_true,Bool.true_or];refine⟨_,.inl S1,?_⟩;simp only[vmL,Nat.reduceEqDiff,Nat.reduceAdd,Nat.reduceLT,Nat.reduceLeDiff,Zk4,gOf,List.contains_cons,List.contains_nil,Nat.reduceBEq,Bool.or_false,Bool.false_or,Bool.or_true,Bool.true_or,hut,hul,tt,hKl,htk];refine⟨by omega,by omega,by omega,by omega,?_⟩;refine Zlp [.agg U,.sl 1 (zR K++[[pI x]]),.sl 7 LE] ⟨Vr,View.own_all (fz:=false) (by simp[Vh]) (by simp[hKl]),Vr,trivial⟩ (Zag S2 ?_);refine Sp0 ?_;exact⟨(),trivial⟩
 simp only[];refine Fp0 ?_;refine Rp1 [3,4,9] hL ?_;refine Zag GI ?_;refine Zaa<|Ze2 (σ:=Unit) (fun _=>([(3,.sl 7 LE),(4,.ro U),(9,.sl 1 (zR ((nz (List.range l.length)).drop 1)))],⟨[],200⟩)) ?_ (fun _=>?_)
 ·refine Zaa (Zad [3,4,9,43] ?_);simp only[vmL,Nat.reduceEqDiff,Zb0,List.length_range];refine Zae rfl (fun h3=>?_) (fun h3=>?_)
  ·refine Zad [3,4,9] ?_;simp only[vmL,Nat.reduceEqDiff,Nat.reduceLeDiff,Int.reduceToNat,Zb0,List.length_range];have h3:=oT h3;refine⟨⟨by omega,by omega⟩,(),?_⟩
   congr 1
   rw[Zsx,Zyi (by rw[List.length_drop,Zo3,Zkm,List.length_range];exact Nat.le_refl _)];unfold zR;rw[List.map_drop]
  ·refine Kp0 ?_;have h3:=oF h3;have h0:l.length=0:=by omega
   refine⟨(),?_⟩;rw[h0];rfl
 simp only[];refine Rp1 [3,4,9,10] (x2 hut hul) ?_;refine Zag CN ?_;have c1:((C:Int)==1)=decide (C=1):=by
  by_cases h:C=1
  ·subst h;rfl
  ·rw[Zyg h,beq_eq_false_iff_ne];omega
 have c2:decide ((1:Int)≤(C:Int))=true:=Vt;rw[mt]at S3;rw[mn]at S4;refine Rp1 [8] (x2 hut hul) ?_;refine Ap1 S3 (x2 hut hul) ?_;refine Zlp [.agg U,.sl 1 (zR []),.sl 7 LE] ⟨Vr,View.nil _ _,Vr,trivial⟩ (Zag S4 ?_);refine Sp1 (x2 c1 c2) ?_;exact Tv0
theorem Xco{H:Type}{enc:TypeId×Value→H}{P:Program}{W:World}{base:Nat}{sp:Nat→Bool}{held:Bool}{m:Nat}{e:TypeId}{cs:List Value}{bs:List UInt8}{q:List MemPlace}(he:P.underlying e=some .string)
  (h:DataW.trod enc P W base sp held m e cs=some (.lit (.string bs),q)):cs=[.string ⟨bs.toArray⟩]:=by
 cases m with
 |zero=>simp[DataW.trod]at h
 |succ m=>
  unfold DataW.trod at h;rw[he]at h;split at h<;>try (simp_all;done)
  rename_i s heq;split at h
  ·simp only[Zx0,Prod.mk.injEq,DataW.lit.injEq,Lit.string.injEq]at h;obtain⟨rfl,_⟩:=h;rfl
  ·cases h
abbrev cW(W:World)(b o:Nat):Option Value:=match W.cell? ⟨b,o,none⟩with
 |some v=>if v.oneCell'=true then some v else none
 |none=>none
theorem Z9u{H:Type}{enc:TypeId×Value→H}{P:Program}{W:World}{base:Nat}{sp:Nat→Bool}{held:Bool}{m:Nat}{t e:TypeId}{cs:List Value}{zs:List Int}{rest:List (DataW H)}{q:List MemPlace}(ht:P.underlying t=some (.slice e))(he:P.underlying e=some (.int .i64))(hc:P.cellsOf e=1)(hz:zs≠[])
    (h:DataW.trod enc P W base sp held m t cs=some (.slice (zs.map fun z=>.lit (.int .i64 z)) rest,q)):∃v,cs=[v]∧v.oneCell'=true∧Xdg (cW W) v zs:=by
  rcases DataW.trod_slice ht h with⟨_,h2⟩|⟨a,len,cap,elems,rs,m',hm,rfl,hx,hb,hlc,hcap,hel,hread,_,_⟩
  ·simp at h2
  simp only[Prod.mk.injEq,DataW.slice.injEq]at hx;obtain⟨⟨hx,_⟩,_⟩:=hx;have hzl:zs.length=len:=by
    have:=congrArg List.length hx;simp at this;omega
  have hlen:0<len:=by rw[←hzl];exact List.length_pos_iff.2 hz
  have each:∀i,i<len→W.cell? (a.add i)=some (.int .i64 (zs.getD i 0)):=by
    intro i hi;have hr:=hread i hi;rw[Zye (by omega),hc,Nat.mul_one]at hr;obtain⟨ci,hc1,hc2⟩:=Option.bind_eq_some_iff.1 hr;obtain⟨_,hcl,hcells⟩:=World.cells?_some hc1;obtain⟨n,rfl,hn,_⟩:=DataW.trod_int he hc2;have h1:=hcells 0 (by omega);have e0:∀b:Addr,b.add 0=b:=fun b=>by simp[Addr.add]
    rw[e0]at h1;rw[h1];have h2:(elems.map (·.1))[i]?=some (DataW.lit (.int .i64 n)):=by
      rw[List.getElem?_map,Zye (by omega),Zys,hn]
    rw[←hx,List.getElem?_map,Zye (by omega),Zys]at h2;simp only[Zx0,DataW.lit.injEq,Lit.int.injEq,true_and]at h2;have e3:zs.getD i 0=n:=by rw[←h2];simp[List.getD,show i<zs.length by omega]
    rw[e3];rfl
  have hspot:a.spot=none:=by
    have hv:=each 0 hlen;have e0:a.add 0=a:=by simp[Addr.add]
    rw[e0]at hv;unfold World.cell? at hv;split at hv
    · split at hv
      ·cases hv
      ·rename_i hs;simpa using hs
    ·cases hv
  have hadd:∀i,a.add i=⟨a.block,a.off+i,none⟩:=by
    intro i;obtain⟨b,o,s⟩:=a;simp only at hspot;subst hspot;by_cases hi:i=0<;>simp[Addr.add,hi]
  refine⟨_,rfl,rfl,.inr ⟨a.block,a.off,cap,by omega,?_,fun i hi=>?_⟩⟩
  · obtain⟨b,o,s⟩:=a
    simp only at hspot;subst hspot;rw[hzl]
  · have:=each i (by omega)
    rw[hadd]at this;simp only[cW];rw[this];rfl
def Z2y:List Value:=[.func (.func 299) #[] #[],.func (.func 300) #[] #[]]
theorem Z9v(b:Nat)(l:List Value)(h:known.lookup b=some l):(b=4∧l=Zc1.map fun s=>Value.string ⟨s.toArray⟩)∨(b=0∧l=Z2y):=by
 have e:known=[(0,Z2y),(4,Zc1.map fun s=>Value.string ⟨s.toArray⟩)]:=by kernel_rfl
 rw[e]at h;simp only[List.lookup]at h;split at h
 ·rename_i hb;simp only[Zx0]at h;exact .inr ⟨by simpa using hb,h.symm⟩
 ·split at h
  ·rename_i hb;simp only[Zx0]at h;exact .inl ⟨by simpa using hb,h.symm⟩
  ·cases h
def Xde{H:Type}:DataW H:=.agg (Zc1.map fun s=>.lit (.string s))
def slD{H:Type}(zs:List Int):DataW H:=if zs=[]then .nil else .slice (zs.map fun z=>.lit (.int .i64 z)) []
def Xdf{H:Type}:DataW H:=.agg (Zgz.map slD)
def orderD : DataW Unit := .agg [.iface "func" (.lit (.string [112, 97, 110, 100, 101, 99, 116, 47, 115, 121, 110, 116, 97, 120, 46, 111, 114, 100, 101, 114, 36, 49])), .iface "func" (.lit (.string [112, 97, 110, 100, 101, 99, 116, 47, 115, 121, 110, 116, 97, 120, 46, 111, 114, 100, 101, 114, 36, 50]))]
theorem Z9w {W : World} {rest : List (String × DataW Unit)} (ho : ("pandect/syntax.order", DataW.iface "func table" orderD) ∈ rest) (h : laidMetH Tryz.prog rest W) (hf : (((rest.filter fun x => x.2.handleName?.isNone)).filter (fun x => x.1 == "pandect/unit.names"), ((rest.filter fun x => x.2.handleName?.isNone)).filter (fun x => x.1 == "pandect/unit.below")) = ([("pandect/unit.names", Xde)], [("pandect/unit.below", Xdf)])) : Zdc W := by
  obtain⟨f1,f2⟩:=Prod.mk.inj hf
  have h1:=(laidMetH_iff.1 h).1
  have h2 := h1.filter (fun x => x.1 == "pandect/unit.names")
  rw[f1]at h2
  have h3 := h1.filter (fun x => x.1 == "pandect/unit.below")
  rw[f2]at h3
  have g1 : Tryz.prog.globalNamed "pandect/unit.names" = some 4 := by kernel_rfl
  have g2 : Tryz.prog.globalNamed "pandect/unit.below" = some 1 := by kernel_rfl
  have t1:(Tryz.prog.globals[4]?).map (·.type)=some 290:=by kernel_rfl
  have t2:(Tryz.prog.globals[1]?).map (·.type)=some 236:=by kernel_rfl
  have cs1:Tryz.prog.cellsOf 9=1:=by kernel_rfl
  have cs2:Tryz.prog.cellsOf 290=8:=by kernel_rfl
  have cs3:Tryz.prog.cellsOf 22=1:=by kernel_rfl
  have cs4:Tryz.prog.cellsOf 236=8:=by kernel_rfl
  have cs5:Tryz.prog.cellsOf 3=1:=by kernel_rfl
  have var_heap:∀{name:String} {b:Nat} {cs:Array Value},Tryz.prog.globalNamed name=some b→W.var? Tryz.prog name=some cs→∃t fr,W.heap[b]?=some (.cells cs t fr):=by
    intro name b cs hg hv
    unfold World.var? at hv
    rw[hg]at hv
    simp only[Option.bind_some]at hv
    split at hv
    · rename_i c t fr hh
      simp only[Zx0]at hv
      exact⟨t,fr,by rw[hh,hv]⟩
    ·cases hv
  refine⟨⟨fun b l hl=>?_,fun b k hb=>?_⟩,fun b ls hb j hj=>?_⟩
  · rcases Z9v b l hl with⟨rfl,rfl⟩|⟨rfl,rfl⟩
    rotate_left
    · obtain⟨g',t',cs,fuel,p,hg',ht',hvar,hd⟩:=h.funcs ho
      have g3 : Tryz.prog.globalNamed "pandect/syntax.order" = some 0 := by kernel_rfl
      have t3:(Tryz.prog.globals[0]?).map (·.type)=some 145:=by kernel_rfl
      obtain rfl:=Option.some.inj (g3.symm.trans hg')
      obtain rfl:=Option.some.inj (t3.symm.trans ht')
      obtain⟨t,fr,hh⟩:=var_heap g3 hvar
      obtain⟨xs,m,_,hx,hlen,hxs,hread⟩:=DataW.trod_struct Tryz.underlying145 hd
      have cf1:Tryz.prog.cellsOf 143=1:=by kernel_rfl
      have cf2:Tryz.prog.cellsOf 107=1:=by kernel_rfl
      have hc2:Tryz.prog.cellsOf 145=2:=by kernel_rfl
      rw[hc2]at hlen
      have hx1:=(Prod.mk.inj hx).1
      have r0:DataW.trod (funcToken Tryz.prog) Tryz.prog W 0 (fun _=>true) true m 143 ((cs.toList.drop 0).take (Tryz.prog.cellsOf 143))=xs[0]?:=hread 0 _ rfl
      have r1:DataW.trod (funcToken Tryz.prog) Tryz.prog W 0 (fun _=>true) true m 107 ((cs.toList.drop 1).take (Tryz.prog.cellsOf 107))=xs[1]?:=hread 1 _ rfl
      rw[cf1]at r0
      rw[cf2]at r1
      have hxl:xs.length=2:=hxs
      match xs,hxl with
      | [x0,x1],_=>
      have e0:x0.1=.held [112,97,110,100,101,99,116,47,115,121,110,116,97,120,46,111,114,100,101,114,36,49]:=by
        have:(DataW.agg [.held [112,97,110,100,101,99,116,47,115,121,110,116,97,120,46,111,114,100,101,114,36,49],.held [112,97,110,100,101,99,116,47,115,121,110,116,97,120,46,111,114,100,101,114,36,50]]:DataW (List UInt8))=.agg [x0.1,x1.1]:=hx1
        simp only[DataW.agg.injEq,List.cons.injEq]at this
        exact this.1.symm
      have e1:x1.1=.held [112,97,110,100,101,99,116,47,115,121,110,116,97,120,46,111,114,100,101,114,36,50]:=by
        have:(DataW.agg [.held [112,97,110,100,101,99,116,47,115,121,110,116,97,120,46,111,114,100,101,114,36,49],.held [112,97,110,100,101,99,116,47,115,121,110,116,97,120,46,111,114,100,101,114,36,50]]:DataW (List UInt8))=.agg [x0.1,x1.1]:=hx1
        simp only[DataW.agg.injEq,List.cons.injEq]at this
        exact this.2.1.symm
      match hcl:cs.toList,hlen with
      | [v0,v1],_=>
      rw[hcl]at r0 r1
      have k0:=func_of_trod (ps:=#[84]) (rs:=#[84]) (va:=false) (f0:=299) (q:=x0.2) (by kernel_rfl) (by kernel_rfl) (r0.trans (by rw[←e0];rfl))
      have k1:=func_of_trod (ps:=#[84]) (rs:=#[4]) (va:=false) (f0:=300) (q:=x1.2) (by kernel_rfl) (by kernel_rfl) (r1.trans (by rw[←e1];rfl))
      subst k0 k1
      have hcs:cs=Z2y.toArray:=Array.ext' hcl
      exact⟨⟨t,fr,by rw[hh,hcs]⟩,fun v hv=>by simp only[Z2y,Zyb,Zya,or_false]at hv;rcases hv with rfl|rfl<;>rfl⟩
    refine⟨?_,fun v hv=>by obtain⟨s,_,rfl⟩:=List.mem_map.1 hv;rfl⟩
    obtain⟨ps,⟨g',t',cs,fuel,p,q,hg',ht',hvar,hd,_,_⟩,_⟩:=h2
    obtain rfl:=Option.some.inj (g1.symm.trans hg')
    obtain rfl:=Option.some.inj (t1.symm.trans ht')
    obtain⟨t,fr,hh⟩:=var_heap g1 hvar
    refine⟨t,fr,?_⟩
    suffices hcs:cs=(Zc1.map fun s=>Value.string ⟨s.toArray⟩).toArray by rw[hh,hcs]
    obtain⟨xs,m,_,hx,hlen,hxs,hread⟩:=DataW.trod_array Tryz.underlying290 hd
    rw[cs2]at hlen
    simp only[Prod.mk.injEq]at hx
    have hx1:Zc1.map (fun s=>(DataW.lit (.string s):DataW _))=xs.map (·.1):=by
      have:=hx.1
      unfold Xde at this
      simpa using this
    apply Array.ext'
    apply List.ext_getElem?
    intro i
    by_cases hi:i<8
    · have hr:=hread i hi
      rw[cs1,Nat.mul_one,Zye (by omega)]at hr
      have hk:i<Zc1.length:=hi
      have h5:(xs.map (·.1))[i]?=some xs[i].1:=by rw[List.getElem?_map,Zye (by omega)];rfl
      rw[←hx1,List.getElem?_map,Zye hk]at h5
      simp only[Zys,Zx0]at h5
      have h6:xs[i]=(.lit (.string Zc1[i]),xs[i].2):=Prod.ext h5.symm rfl
      rw[h6]at hr
      have h7:=Xco Tryz.underlying9 hr
      have h8:=congrArg (·[0]?) h7
      simp only[List.getElem?_take,List.getElem?_drop]at h8
      simp only[List.getElem?_map,Zye hk,Zys]
      simpa using h8
    · rw[List.getElem?_eq_none (by omega)]
      symm
      apply List.getElem?_eq_none
      show(List.map _ Zc1).length≤i
      rw[Zyc]
      show 8≤i
      omega
  · exfalso
    have:Zmc=[]:=by kernel_rfl
    rw[this]at hb;cases hb
  · have hS:Zmd=[(1,Zgz)]:=by kernel_rfl
    rw[hS]at hb
    simp only[List.lookup]at hb
    split at hb
    · rename_i hbb
      simp only[Zx0]at hb
      subst hb
      have hb':b=1:=by simpa using hbb
      subst hb'
      obtain⟨ps,⟨g',t',cs,fuel,p,q,hg',ht',hvar,hd,_,_⟩,_⟩:=h3
      obtain rfl:=Option.some.inj (g2.symm.trans hg')
      obtain rfl:=Option.some.inj (t2.symm.trans ht')
      obtain⟨t,fr,hh⟩:=var_heap g2 hvar
      obtain⟨xs,m,_,hx,hlen,hxs,hread⟩:=DataW.trod_array Tryz.underlying236 hd
      rw[cs4]at hlen
      simp only[Prod.mk.injEq]at hx
      have hx1:Zgz.map slD=xs.map (·.1):=by
        have:=hx.1
        unfold Xdf at this
        simpa using this
      have hj8:j<8:=hj
      have hr:=hread j hj8
      rw[cs3,Nat.mul_one,Zye (by omega)]at hr
      have h5:(xs.map (·.1))[j]?=some xs[j].1:=by rw[List.getElem?_map,Zye (by omega)];rfl
      rw[←hx1,List.getElem?_map,Zye hj]at h5
      simp only[Zys,Zx0]at h5
      have h6:xs[j]=(slD Zgz[j],xs[j].2):=Prod.ext h5.symm rfl
      rw[h6]at hr
      have hgD:Zgz.getD j []=Zgz[j]:=by rw[Zx1,Zye hj];rfl
      have hcell:∀v,(cs.toList.drop j).take 1=[v]→W.cell? ⟨1,j,none⟩=some v:=by
        intro v hv
        have h8:=congrArg (·[0]?) hv
        simp only[List.getElem?_take,List.getElem?_drop]at h8
        unfold World.cell?
        rw[hh]
        simpa using h8
      rw[hgD]
      generalize Zgz[j]=zs at hr
      unfold slD at hr
      by_cases hz:zs=[]
      · rw[if_pos hz]at hr
        rcases DataW.trod_slice Tryz.underlying22 hr with⟨h7,_⟩|⟨a,len,cap,elems,rs,m',_,_,h8,_⟩
        · refine⟨.slice none 0 0,?_,.inl ⟨hz,rfl⟩⟩
          simp only[]
          rw[hcell _ h7];rfl
        ·simp at h8
      · rw[if_neg hz]at hr
        obtain⟨v,h7,h8,h9⟩:=Z9u (W:=W) Tryz.underlying22 Tryz.underlying3 cs5 hz hr
        refine⟨v,?_,h9⟩
        simp only[]
        rw[hcell _ h7]
        simp only[]
        rw[if_pos h8]
    ·cases hb
theorem Zk5{H:Type}{d:DataW H}:∀{l:List (DataW H)},d∈l→YtldogpfookkbaaaGreatDoor.Rows.uptoBulk d≤YtldogpfookkbaaaGreatDoor.Rows.uptoBulkAll l
 |x::r,h=>by
  simp only[YtldogpfookkbaaaGreatDoor.Rows.uptoBulkAll];rcases List.mem_cons.1 h with e|e
  ·subst e;omega
  ·have:=Zk5 e;omega
theorem Xcp{H:Type}(d:DataW H):1≤YtldogpfookkbaaaGreatDoor.Rows.uptoBulk d:=by
 cases d with
 |lit l=>cases l<;>simp[YtldogpfookkbaaaGreatDoor.Rows.uptoBulk]
 |nil=>simp[YtldogpfookkbaaaGreatDoor.Rows.uptoBulk]
 |ptr d=>simp[YtldogpfookkbaaaGreatDoor.Rows.uptoBulk]
 |slice elems spare=>simp[YtldogpfookkbaaaGreatDoor.Rows.uptoBulk]
 |agg parts=>simp[YtldogpfookkbaaaGreatDoor.Rows.uptoBulk]
 |iface t d=>simp[YtldogpfookkbaaaGreatDoor.Rows.uptoBulk]
 |map entries=>simp[YtldogpfookkbaaaGreatDoor.Rows.uptoBulk]
 |held h=>simp[YtldogpfookkbaaaGreatDoor.Rows.uptoBulk]
theorem Z2z{H:Type}:∀l:List (DataW H),l.length≤YtldogpfookkbaaaGreatDoor.Rows.uptoBulkAll l
 | []=>by simp[YtldogpfookkbaaaGreatDoor.Rows.uptoBulkAll]
 |x::r=>by have:=Xcp x;have:=Z2z r;simp only[YtldogpfookkbaaaGreatDoor.Rows.uptoBulkAll,Zyd];omega
theorem Xfe{H:Type}:Bulky (YtldogpfookkbaaaGreatDoor.Rows.uptoBulk (H:=H)):=
 ⟨fun s=>by simp only[YtldogpfookkbaaaGreatDoor.Rows.uptoBulk];omega,fun es sp=>by have:=Z2z es;simp only[YtldogpfookkbaaaGreatDoor.Rows.uptoBulk];omega,fun es sp d h=>by have:=Zk5 h;simp only[YtldogpfookkbaaaGreatDoor.Rows.uptoBulk];omega,fun ps d h=>by have:=Zk5 h;simp only[YtldogpfookkbaaaGreatDoor.Rows.uptoBulk];omega⟩
theorem Z5l{H:Type}{l:List (DataW H)}(h:YtldogpfookkbaaaGreatDoor.Rows.uptoSmall H (l++[])=true):∀d∈l,YtldogpfookkbaaaGreatDoor.Rows.uptoBulk d≤Zp6:=fun d hd=>by
 rw[Zyj]at h;have h1:YtldogpfookkbaaaGreatDoor.Rows.uptoBulkAll l≤1048576:=of_decide_eq_true h;exact Nat.le_trans (Zk5 hd) h1
end Go.Proofs.w
