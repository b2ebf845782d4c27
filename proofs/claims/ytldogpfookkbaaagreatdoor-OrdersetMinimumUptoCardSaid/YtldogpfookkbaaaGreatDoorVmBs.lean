import Derived.Test.YtldogpfookkbaaaGreatDoorVmBr
set_option linter.all false
namespace Go.VM
open Go Go.VM.Ap
theorem Z7j{P:Program}{N:FK}{Q:Exit→Env→Heap→Prop}{e:Env}{h:Heap}{id:Nat}{ops:Array Oper}(H:AW P N (.region id ops true) Q e h):VW P N (.other (.region id ops true)) Q e h:=by
 intro c hc;have hc':c=.region id ops true:=by
  cases c
  case region id' ops' draw'=>
   obtain⟨p,h3',h'|h'|h'⟩:=Zb7 hc
   ·obtain⟨_,h'⟩:=h';cases h'
   ·obtain⟨_,_,h'|h'⟩:=h'
    ·obtain⟨_,h'⟩:=h';cases h'
    ·cases h'
   ·simp only[Zb1]at hc;rw[h3']at hc;simp only at hc;split at hc
    ·split at hc
     ·split at hc<;>simp at hc
     ·simpa using hc
    ·simp at hc
  all_goals
   simp only[Zb1,Option.map_eq_some_iff]at hc
   first
   |(simp at hc;done)
   |(split at hc<;>simp at hc;done)
   |(simpa using hc)
 subst hc';exact H
theorem Zvd{e e0:Env}:∀{l:List Nat},(∀x∈l,e.get x=e0.get x)→e.keep l=e0.keep l
 | [],_=>rfl
 |t::r,h=>by
  rw[Env.keep,Env.keep,h t List.mem_cons_self,Zvd fun x hx=>h x (Zx7 _ hx)]
theorem Zfz{a:Act}{d t:Nat}{v:Value}(h:d≠t):(a.put (some d) v).tmps.getD t Go.undef=a.tmps.getD t Go.undef:=by
 simp[Act.put,Zx6,Array.getElem?_setIfInBounds,h]
theorem Zmd{a:Act}{d:Nat}{v:Value}(h:d<a.tmps.size):(a.put (some d) v).tmps.getD d Go.undef=v:=by
 simp[Act.put,Zx6,Array.getElem?_setIfInBounds,h]
def Zc0:List (List Nat):=[[],[],[],[0,1,2],[],[],[],[],[],[8],[7,9],[4,5,6,10],[3,11],[],[12,13],[0,1,2,3,4,5,6,7,8,9,10,11,12,13,14]]
def Xd8(ops:Array Oper):Bool:=(List.range 16).all fun i=>(Zc0.getD i []).all (fun d=>(Zl9 ops i).contains d)&&(Zl9 ops i).all fun d=>Nat.blt d i
def Ztp(z:Nat)(R T FR M:List (List PV))(k:Nat)(x4 x5:PV)(iv m:Int):Nat→PV
 |0=>.sl z R|1=>.int .i64 k|2=>.int .i64 k|4=>.sl 1 FR|5=>x4|6=>x5|7=>.int .i64 iv|8=>.sl 1 FR|9=>.int .i64 (FR.length:Int)|10=>.int .i64 m|11=>.sl z M|13=>.sl z T|_=>.any
def putQ(o3:Oper)(z B:Nat)(zs:List PV)(f:FuncId):List VOper:=[⟨some 40,.mv (.t 14),none⟩,⟨some 41,.mv (.t 16),none⟩,⟨some 42,.mv (.t 16),none⟩,⟨some 43,.other o3,none⟩,⟨some 44,.mv (.t 3),none⟩,⟨some 45,.mv (.t 4),none⟩,⟨some 46,.mv (.t 5),none⟩,⟨some 47,.mv (.t 15),none⟩,⟨some 48,.mv (.t 3),none⟩,⟨some 49,.len false (.t 48),none⟩,⟨some 50,.bin .mul (.t 47) (.t 49),none⟩,⟨some 51,.call f [.t 44,.t 45,.t 46,.t 50],none⟩,⟨some 52,.app z B zs false (.t 43) (.t 51),none⟩,⟨some 53,.mv (.t 17),none⟩,⟨some 54,.app z B zs false (.t 52) (.t 53),none⟩,⟨some 14,.mv (.t 54),none⟩]
def PutW(z t0:Nat)(X:List (List PV))(v:PV)(h:Heap):Prop:=(v=.sl z X∧h=⟨[],t0⟩)∨∃id t',v=.own id 0 X.length∧h=⟨[(id,.arr false z X)],t'⟩∧id<t'∧t0≤t'
structure PutJ (e0:Env) (z t0:Nat) (R T FR M:List (List PV)) (k:Nat) (x4 x5:PV) (iv m:Int) (p:Nat→Bool) (g:Gh) (a:Act) (e:Env) (h:Heap):Prop where
 keep:∀t,t<40→t≠14→e.get t=e0.get t
 in14:p 15=false→e.get 14= .sl z R
 vv:∀j,j<14→j≠3→j≠12→p j=true→e.get (40+j)=Ztp z R T FR M k x4 x5 iv m j
 v3:p 3=true→Xcs g z (a.tmps.getD 43 Go.undef) (R.take k)
 h12:p 12=false→h=⟨[],t0⟩
 v12:p 12=true→p 14=false→(M=[]∧Xcs g z (a.tmps.getD 52 Go.undef) (R.take k)∧h=⟨[],t0⟩)∨(e.get 52= .own t0 0 (k+M.length)∧h=⟨[(t0, .arr false z (R.take k++M))],t0+1⟩)
 v14:p 14=true→PutW z t0 (R.take k++(M++T)) (e.get 54) h
 v15:p 15=true→PutW z t0 (R.take k++(M++T)) (e.get 14) h
 o14:p 14=true→p 12=true
 c15:p 15=true→ ∀j,j<15→p j=true
 d12:p 12=true→p 3=true
theorem setP_f{p:Nat→Bool}{i j:Nat}(h:Zlj p i j=false):j≠i∧p j=false:=by
 unfold Zlj at h;split at h
 ·cases h
 ·exact⟨‹_›,h⟩
section
variable {e0:Env} {z t0:Nat} {R T FR M:List (List PV)} {k:Nat} {x4 x5:PV} {iv m:Int} {p:Nat→Bool} {g g':Gh} {a:Act} {e:Env} {h:Heap}
theorem PutJ.quiet(J:PutJ e0 z t0 R T FR M k x4 x5 iv m p g a e h){i:Nat}{v:Value}(hi:i<14)(h3:i≠3)(h12:i≠12)(hg:g.le g'):PutJ e0 z t0 R T FR M k x4 x5 iv m (Zlj p i) g' (a.put (some (40+i)) v) (e.put (some (40+i)) (Ztp z R T FR M k x4 x5 iv m i)) h:=by
 have hp:∀j,j≠i→Zlj p i j=p j:=fun j hj=>Zbg p hj;have ge:∀t,t≠40+i→(e.put (some (40+i)) (Ztp z R T FR M k x4 x5 iv m i)).get t=e.get t:=fun t ht=>by rw[Env.get_put,if_neg (Ne.symm ht)]
 refine⟨fun t h1 h2=>by rw[ge t (by omega)];exact J.keep t h1 h2,fun hh=>?_,fun j hj j3 j12 hpj=>?_,fun hh=>?_,fun hh=>?_,fun hh h2=>?_,fun hh=>?_,fun hh=>?_,fun hh=>?_,fun hh j hj=>?_,fun hh=>?_⟩
 ·rw[hp 15 (by omega)]at hh;rw[ge 14 (by omega)];exact J.in14 hh
 ·by_cases e1:j=i
  ·subst e1;rw[Env.get_put,if_pos rfl]
  ·rw[hp j e1]at hpj;rw[ge (40+j) (by omega)];exact J.vv j hj j3 j12 hpj
 ·rw[hp 3 (Ne.symm h3)]at hh;rw[Zfz (by omega)];exact(J.v3 hh).mono hg
 ·rw[hp 12 (Ne.symm h12)]at hh;exact J.h12 hh
 ·rw[hp 12 (Ne.symm h12)]at hh;rw[hp 14 (by omega)]at h2;rw[Zfz (by omega),ge 52 (by omega)];rcases J.v12 hh h2 with⟨q1,q2,q3⟩|q
  ·exact .inl ⟨q1,q2.mono hg,q3⟩
  ·exact .inr q
 ·rw[hp 14 (by omega)]at hh;rw[ge 54 (by omega)];exact J.v14 hh
 ·rw[hp 15 (by omega)]at hh;rw[ge 14 (by omega)];exact J.v15 hh
 ·rw[hp 14 (by omega)]at hh;rw[hp 12 (Ne.symm h12)];exact J.o14 hh
 ·rw[hp 15 (by omega)]at hh;by_cases e1:j=i
  ·subst e1;exact Zhf _ _
  ·rw[hp j e1];exact J.c15 hh j hj
 ·rw[hp 12 (Ne.symm h12)]at hh;rw[hp 3 (Ne.symm h3)];exact J.d12 hh
end
theorem put_AW{P:Program}{N:FK}{Q:Exit→Env→Heap→Prop}{e0:Env}{id z B t0 k:Nat}{ops:Array Oper}{o3:Oper}{zs:List PV}{f:FuncId}{t ty:TypeId}{i:TypeInfo}{R T FR M:List (List PV)}{x4 x5:PV}{iv m:Int}(lk:List Nat)
    (hmm:P.follows .mixedOrders=true)(hsz:ops.size=16)(hN:60≤N.n+1)(hcq:Zcr P N.n ops ops.toList=some (putQ o3 z B zs f))(hdep:Xd8 ops=true)
    (h3:∀o,ops[3]?=some o→o.op=.slice t (.tmp 40) none (some (.tmp 41)) (some (.tmp 42)))(h12:∀o,ops[12]?=some o→o.op=.call { callee:=.builtin .append,args:=#[.tmp 43,.tmp 51],argTypes:=#[t,t] })
    (h14:∀o,ops[14]?=some o→o.op=.call { callee:=.builtin .append,args:=#[.tmp 52,.tmp 53],argTypes:=#[t,t] })
    (ht:P.underlying t=some (.slice ty))(hi:P.info? ty=some i)(hiz:i.size=z)(hib:i.bytes=B)(hzo:zeroOf P ty=some zs)(hzl:zs.length=z)(hz:z≠0)(hB:B≤1000)
    (hR:∀x∈R,x.length=z)(hk:k≤R.length)(b1:R.length≤1000000)(b2:M.length≤1000000)(b3:T.length≤1000000)(hm:IntKind.i64.wrap (iv*(FR.length:Int))=m)(hcall:Zgy P f [.sl 1 FR,x4,x5,.int .i64 m] (.sl z M))
    (g14:e0.get 14=.sl z R)(g16:e0.get 16=.int .i64 k)(g17:e0.get 17=.sl z T)(g3:e0.get 3=.sl 1 FR)(g4:e0.get 4=x4)(g5:e0.get 5=x5)(g15:e0.get 15=.int .i64 iv)(hlk:∀x∈lk,x<40∧x≠14)
    (H:∀v h',PutW z t0 (R.take k++(M++T)) v h'→Q .normal ((e0.keep lk).put (some 14) v) h'):AW P N (.region id ops true) Q e0 ⟨[],t0⟩:=by
  have hd:∀j,j<16→∀d∈Zc0.getD j [],d∈Zl9 ops j:=fun j hj d hd'=>by
    have:=List.all_eq_true.1 hdep j (List.mem_range.2 hj);rw[Zx4]at this
    simpa using List.all_eq_true.1 this.1 d hd'
  have hlt:∀j,j<16→∀d∈Zl9 ops j,d<j:=fun j hj d hd'=>by
    have:=List.all_eq_true.1 hdep j (List.mem_range.2 hj);rw[Zx4]at this;have:=List.all_eq_true.1 this.2 d hd';exact Zym this
  have hsz4:Zc2 P ty=some z:=by unfold Zc2;rw[hi];simp[hiz]
  refine Xas lk hmm hcq (fun listed g a e h=>listed.size=16∧PutJ e0 z t0 R T FR M k x4 x5 iv m (fun j=>listed.getD j false) g a e h) ?_ ?_ ?_
  · intro g a _
    have hf:∀i,(Array.replicate ops.size false).getD i false=false:=by
      intro i;simp only[Zx6,Array.getElem?_replicate];split<;>rfl
    refine⟨by simp[hsz],⟨fun _ _ _=>rfl,fun _=>g14,fun j _ _ _ hh=>?_,fun hh=>?_,fun _=>rfl,fun hh=>?_,fun hh=>?_,fun hh=>?_,fun hh=>?_,fun hh=>?_,fun hh=>?_⟩⟩
    all_goals (exfalso;rw[hf]at hh;cases hh)
  · rintro listed g w a e h ⟨hs16,J⟩ r he has j hj o ho
    obtain⟨hj1,hj2,hj3⟩:=Zh2.1 hj;rw[hsz]at hj1;have hpj:listed.getD j false=false:=by
      have hlt:j<listed.size:=by omega
      simpa[hlt]using hj2
    have hset:(fun x=>(listed.setIfInBounds j true).getD x false)=Zlj (fun x=>listed.getD x false) j:=by
      funext x
      unfold Zlj;by_cases e1:x=j
      · subst e1
        rw[if_pos rfl];have hlt:x<listed.size:=by omega
        simp[hlt]
      · rw[if_neg e1]
        exact getD_set_ne false (Ne.symm e1)
    have hsz':(listed.setIfInBounds j true).size=16:=by rw[Array.size_setIfInBounds];exact hs16
    have hdp:∀d∈Zc0.getD j [],listed.getD d false=true:=fun d hd'=>hj3 d (hd j hj1 d hd');simp only[hset]
    replace hdp:∀d∈Zc0.getD j [],(fun x=>listed.getD x false) d=true:=hdp
    replace hpj:(fun x=>listed.getD x false) j=false:=hpj
    generalize(fun x=>listed.getD x false)=p at J hdp hpj⊢;obtain⟨vo,q1,q2,q3,q4,_,_⟩:=(Zb2 hcq).2 j o (by simpa using ho);have hog:vo.guard=none→o.guard=none:=fun hv=>by
      rw[hv]at q4;cases hg:o.guard with
      |none=>rfl
      | some jw=>
        obtain⟨j,want⟩:=jw;rw[hg]at q4;simp only[Zih]at q4;split at q4<;>simp at q4
    have n15:j<15→p 15=false:=fun hj=>by
      cases h15:p 15 with
      |false=>rfl
      |true=>have:=J.c15 h15 j hj;rw[hpj]at this;cases this
    have quiet:∀vop,vo=⟨some (40+j),vop,none⟩→j<14→j≠3→j≠12→Zau P e h vop (fun v h'=>v=Ztp z R T FR M k x4 x5 iv m j∧h'=h)→o.guard=none∧OpA P o g w a h (fun v g' pv h'=>(listed.setIfInBounds j true).size=16∧PutJ e0 z t0 R T FR M k x4 x5 iv m (Zlj p j) g' (a.put o.dst v) (e.put o.dst pv) h'):=by
      intro vop hv hj hj3 hj12 S;subst hv;refine⟨hog rfl,OpS.toA (Zb8 q2 S) r he ?_⟩;rintro v g' pv h' ⟨rfl,rfl⟩ _ hg;rw[←q3];exact⟨hsz',J.quiet hj hj3 hj12 hg⟩
    have hcs:j=0∨j=1∨j=2∨j=3∨j=4∨j=5∨j=6∨j=7∨j=8∨j=9∨j=10∨j=11∨j=12∨j=13∨j=14∨j=15:=by omega
    have kk:=fun t (h1:t<40) (h2:t≠14)=>J.keep t h1 h2;rcases hcs with rfl|rfl|rfl|rfl|rfl|rfl|rfl|rfl|rfl|rfl|rfl|rfl|rfl|rfl|rfl|rfl
    all_goals (simp only[putQ,Zyp,Zyo,Zx0]at q1)
    · refine quiet _ q1.symm (by omega) (by omega) (by omega) ?_
      simp only[Zau,pok,Zcq,VA.ev,J.in14 (n15 (by omega)),Ztp,and_self]
    · refine quiet _ q1.symm (by omega) (by omega) (by omega) ?_
      simp only[Zau,pok,Zcq,VA.ev,kk 16 (by omega) (by omega),g16,Ztp,and_self]
    · refine quiet _ q1.symm (by omega) (by omega) (by omega) ?_
      simp only[Zau,pok,Zcq,VA.ev,kk 16 (by omega) (by omega),g16,Ztp,and_self]
    ·
      have v0:=J.vv 0 (by omega) (by omega) (by omega) (hdp 0 (by simp[Zc0]));have v1:=J.vv 1 (by omega) (by omega) (by omega) (hdp 1 (by simp[Zc0]));have v2:=J.vv 2 (by omega) (by omega) (by omega) (hdp 2 (by simp[Zc0]));have hdst:o.dst=some 43:=by rw[←q3,←q1]
      refine⟨hog (by rw[←q1]),?_⟩;have r40:=he 40;have r41:=he 41;have r42:=he 42;rw[show(40:Nat)=40+0 from rfl,v0]at r40;rw[show(41:Nat)=40+1 from rfl,v1]at r41;rw[show(42:Nat)=40+2 from rfl,v2]at r42;obtain⟨v,hrun,hfull⟩:=Z3o (P:=P) (w:=w) (a:=a) (k:=k) (h3 o ho) ht hsz4 hz r40 r41.int_inv r42.int_inv hk;refine OpA.of_value ⟨v,.sl z (R.take k),g,w,h,hrun,⟨hsz',?_⟩,hfull.2,r,Evo.refl _ _ _⟩;rw[hdst];have n12:p 12=true→False:=fun h=>by have:=J.d12 h;rw[hpj]at this;cases this
      have n14:p 14=true→False:=fun h=>n12 (J.o14 h);have n15':=n15 (by omega);have ge:∀t,t≠43→(e.put (some 43) (.sl z (R.take k))).get t=e.get t:=fun t ht=>by rw[Env.get_put,if_neg (Ne.symm ht)]
      refine⟨fun t h1 h2=>by rw[ge t (by omega)];exact J.keep t h1 h2,fun _=>by rw[ge 14 (by omega)];exact J.in14 n15',fun j hj j3 j12 hpj=>?_,fun _=>?_,fun hh=>J.h12 (setP_f hh).2,fun hh _=>?_,fun hh=>?_,fun hh=>?_,fun hh=>?_,fun hh=>?_,fun hh=>?_⟩
      ·rw[ge (40+j) (by omega)];rw[Zbg p j3]at hpj;exact J.vv j hj j3 j12 hpj
      ·rw[Zmd (by rw[has];omega)];exact hfull
      ·exact(n12 (by rw[Zbg p (by omega)]at hh;exact hh)).elim
      ·exact(n14 (by rw[Zbg p (by omega)]at hh;exact hh)).elim
      ·rw[Zbg p (by omega),n15']at hh;cases hh
      ·exact(n14 (by rw[Zbg p (by omega)]at hh;exact hh)).elim
      ·rw[Zbg p (by omega),n15']at hh;cases hh
      ·exact Zhf _ _
    · refine quiet _ q1.symm (by omega) (by omega) (by omega) ?_
      simp only[Zau,pok,Zcq,VA.ev,kk 3 (by omega) (by omega),g3,Ztp,and_self]
    · refine quiet _ q1.symm (by omega) (by omega) (by omega) ?_
      simp only[Zau,pok,Zcq,VA.ev,kk 4 (by omega) (by omega),g4,Ztp,and_self]
    · refine quiet _ q1.symm (by omega) (by omega) (by omega) ?_
      simp only[Zau,pok,Zcq,VA.ev,kk 5 (by omega) (by omega),g5,Ztp,and_self]
    · refine quiet _ q1.symm (by omega) (by omega) (by omega) ?_
      simp only[Zau,pok,Zcq,VA.ev,kk 15 (by omega) (by omega),g15,Ztp,and_self]
    · refine quiet _ q1.symm (by omega) (by omega) (by omega) ?_
      simp only[Zau,pok,Zcq,VA.ev,kk 3 (by omega) (by omega),g3,Ztp,and_self]
    · refine quiet _ q1.symm (by omega) (by omega) (by omega) ?_
      have v8:=J.vv 8 (by omega) (by omega) (by omega) (hdp 8 (by simp[Zc0]));simp[Zau,pok,Zcq,VA.ev,v8,Ztp,Zis,Zmo]
    · refine quiet _ q1.symm (by omega) (by omega) (by omega) ?_
      have v7:=J.vv 7 (by omega) (by omega) (by omega) (hdp 7 (by simp[Zc0]));have v9:=J.vv 9 (by omega) (by omega) (by omega) (hdp 9 (by simp[Zc0]));simp only[Zau,pok,Zcq,VA.ev,v7,v9,Ztp];exact⟨rfl,by simp only[Zwt,Zmn,hm],trivial⟩
    · refine quiet _ q1.symm (by omega) (by omega) (by omega) ?_
      have v4:=J.vv 4 (by omega) (by omega) (by omega) (hdp 4 (by simp[Zc0]));have v5:=J.vv 5 (by omega) (by omega) (by omega) (hdp 5 (by simp[Zc0]));have v6:=J.vv 6 (by omega) (by omega) (by omega) (hdp 6 (by simp[Zc0]));have v10:=J.vv 10 (by omega) (by omega) (by omega) (hdp 10 (by simp[Zc0]));simp only[Zau,VA.ev,List.map_cons,List.map_nil,v4,v5,v6,v10,Ztp];exact Zag hcall ⟨rfl,rfl⟩
    ·
      have f3:=J.v3 (hdp 3 (by simp[Zc0]));have v11:=J.vv 11 (by omega) (by omega) (by omega) (hdp 11 (by simp[Zc0]));have hdst:o.dst=some 52:=by rw[←q3,←q1]
      refine⟨hog (by rw[←q1]),?_⟩;have r51:=he 51;rw[show(51:Nat)=40+11 from rfl,v11]at r51;have e1:(execOp a.eval o).run P w=((Builtin.append_ #[t,t] o.type #[a.tmps.getD 43 Go.undef,a.tmps.getD 51 Go.undef]).run P w).andThen fun v w'=>.ok (.value v) w':=by
        simp only[execOp,h12 o ho];simp[resolve,invoke,builtin,Act.eval]
      have hh0:=J.h12 hpj;have n14:p 14=true→False:=fun h=>by have:=J.o14 h;rw[hpj]at this;cases this
      have n15':=n15 (by omega);have hrl:=Zm1 (str:=false) (z:=z) r r51 ⟨rfl,rfl⟩;have fin:∀(v:Value) (pv:PV) (g':Gh) (h':Heap),g.le g'→((M=[]∧Xcs g' z v (R.take k)∧h'=⟨[],t0⟩)∨(pv=.own t0 0 (k+M.length)∧h'=⟨[(t0,.arr false z (R.take k++M))],t0+1⟩))→PutJ e0 z t0 R T FR M k x4 x5 iv m (Zlj p 12) g' (a.put (some 52) v) (e.put (some 52) pv) h':=by
        intro v pv g' h' hg hv;have ge:∀t,t≠52→(e.put (some 52) pv).get t=e.get t:=fun t ht=>by rw[Env.get_put,if_neg (Ne.symm ht)]
        refine⟨fun t h1 h2=>by rw[ge t (by omega)];exact J.keep t h1 h2,fun _=>by rw[ge 14 (by omega)];exact J.in14 n15',fun j hj j3 j12 hpj=>?_,fun hh=>?_,fun hh=>?_,fun hh _=>?_,fun hh=>?_,fun hh=>?_,fun hh=>?_,fun hh=>?_,fun hh=>?_⟩
        ·rw[ge (40+j) (by omega)];rw[Zbg p j12]at hpj;exact J.vv j hj j3 j12 hpj
        ·rw[Zfz (by omega)];exact f3.mono hg
        ·rw[Zhf]at hh;cases hh
        ·rw[Zmd (by rw[has];omega),Env.get_put,if_pos rfl];exact hv
        ·exact(n14 (by rw[Zbg p (by omega)]at hh;exact hh)).elim
        ·rw[Zbg p (by omega),n15']at hh;cases hh
        ·exact(n14 (by rw[Zbg p (by omega)]at hh;exact hh)).elim
        ·rw[Zbg p (by omega),n15']at hh;cases hh
        ·rw[Zbg p (by omega)];exact hdp 3 (by simp[Zc0])
      have hlk2:(R.take k).length=k:=by rw[Zyh];omega
      have ap:=Z1z (P:=P) (str:=false) (ty:=o.type) ht ht (by intro k hk;cases hk) hi hzo (by rw[hzl,hiz]) r (by rw[hiz];exact f3) (fun x hx=>by rw[hiz];exact hR x (List.mem_of_mem_take hx)) r51 (by rw[hiz];exact⟨rfl,rfl⟩) (by rw[hiz];exact hrl) (by rw[hlk2];show k+M.length≤_;omega) (by rw[hlk2,hib];exact Nat.le_trans (Nat.mul_le_mul (show k+M.length≤2000000 by omega) hB) (by decide));rw[hiz,hlk2]at ap;rcases ap with⟨hs0,hrun⟩|⟨v,w',g',hrun,k1,k2,k3⟩
      · refine OpA.of_value ⟨_,.sl z (R.take k),g,w,h,by rw[e1,hrun];rfl,⟨hsz',?_⟩,f3.2,r,Evo.refl _ _ _⟩
        rw[hdst];exact fin _ _ g h (Gh.le_refl _) (.inl ⟨hs0,f3,hh0⟩)
      · refine OpA.of_value ⟨v,_,g',w',_,by rw[e1,hrun];rfl,⟨hsz',?_⟩,k1,k2,k3⟩
        rw[hdst];exact fin _ _ g' _ k3.le (.inr (by rw[hh0];exact⟨rfl,rfl⟩))
    · refine quiet _ q1.symm (by omega) (by omega) (by omega) ?_
      simp only[Zau,pok,Zcq,VA.ev,kk 17 (by omega) (by omega),g17,Ztp,and_self]
    ·
      have p12:=hdp 12 (by simp[Zc0]);have v13:=J.vv 13 (by omega) (by omega) (by omega) (hdp 13 (by simp[Zc0]));have hdst:o.dst=some 54:=by rw[←q3,←q1]
      refine⟨hog (by rw[←q1]),?_⟩;have r53:=he 53;rw[show(53:Nat)=40+13 from rfl,v13]at r53;have n15':=n15 (by omega);have hlk2:(R.take k).length=k:=by rw[Zyh];omega
      have fin:∀(v:Value) (pv:PV) (g':Gh) (h':Heap),g.le g'→PutW z t0 (R.take k++(M++T)) pv h'→PutJ e0 z t0 R T FR M k x4 x5 iv m (Zlj p 14) g' (a.put (some 54) v) (e.put (some 54) pv) h':=by
        intro v pv g' h' hg hv;have ge:∀t,t≠54→(e.put (some 54) pv).get t=e.get t:=fun t ht=>by rw[Env.get_put,if_neg (Ne.symm ht)]
        refine⟨fun t h1 h2=>by rw[ge t (by omega)];exact J.keep t h1 h2,fun _=>by rw[ge 14 (by omega)];exact J.in14 n15',fun j hj j3 j12 hpj=>?_,fun hh=>?_,fun hh=>?_,fun hh h2=>?_,fun hh=>?_,fun hh=>?_,fun hh=>?_,fun hh=>?_,fun hh=>?_⟩
        ·rw[ge (40+j) (by omega)];rw[Zbg p (by omega)]at hpj;exact J.vv j hj j3 j12 hpj
        ·rw[Zbg p (by omega)]at hh;rw[Zfz (by omega)];exact(J.v3 hh).mono hg
        ·rw[Zbg p (by omega),p12]at hh;cases hh
        ·rw[Zhf]at h2;cases h2
        ·rw[Env.get_put,if_pos rfl];exact hv
        ·rw[Zbg p (by omega),n15']at hh;cases hh
        ·rw[Zbg p (by omega)];exact p12
        ·rw[Zbg p (by omega),n15']at hh;cases hh
        ·rw[Zbg p (by omega)];exact J.d12 p12
      rcases J.v12 p12 hpj with⟨hM,f52,hh0⟩|⟨o52,hh0⟩
      · have e1:(execOp a.eval o).run P w=((Builtin.append_ #[t,t] o.type #[a.tmps.getD 52 Go.undef,a.tmps.getD 53 Go.undef]).run P w).andThen fun v w'=> .ok (.value v) w':=by
          simp only[execOp,h14 o ho];simp[resolve,invoke,builtin,Act.eval]
        have hrl:=Zm1 (str:=false) (z:=z) r r53 ⟨rfl,rfl⟩;have ap:=Z1z (P:=P) (str:=false) (ty:=o.type) ht ht (by intro k hk;cases hk) hi hzo (by rw[hzl,hiz]) r (by rw[hiz];exact f52) (fun x hx=>by rw[hiz];exact hR x (List.mem_of_mem_take hx)) r53 (by rw[hiz];exact⟨rfl,rfl⟩) (by rw[hiz];exact hrl) (by rw[hlk2];show k+T.length≤_;omega) (by rw[hlk2,hib];exact Nat.le_trans (Nat.mul_le_mul (show k+T.length≤2000000 by omega) hB) (by decide));rw[hiz,hlk2]at ap;rcases ap with⟨hs0,hrun⟩|⟨v,w',g',hrun,k1,k2,k3⟩
        · have hX:R.take k++(M++T)=R.take k:=by rw[hM,show T=[]from hs0];simp
          refine OpA.of_value ⟨_,.sl z (R.take k),g,w,h,by rw[e1,hrun];rfl,⟨hsz',?_⟩,f52.2,r,Evo.refl _ _ _⟩;rw[hdst];exact fin _ _ g h (Gh.le_refl _) (.inl ⟨by rw[hX],hh0⟩)
        · have hX:R.take k++(M++T)=R.take k++T:=by rw[hM];simp
          refine OpA.of_value ⟨v,_,g',w',_,by rw[e1,hrun];rfl,⟨hsz',?_⟩,k1,k2,k3⟩;rw[hdst];refine fin _ _ g' _ k3.le (.inr ⟨t0,t0+1,?_,?_,by omega,by omega⟩)
          ·rw[hX,hh0,Zx5,hlk2];rfl
          ·rw[hX,hh0];rfl
      · rw[←q1]at q2
        refine OpS.toA (K:=fun v h'=>v=.own (t0+1) 0 (k+M.length+T.length)∧h'=⟨[(t0+1,.arr false z (R.take k++M++T))],t0+2⟩) (Zb8 q2 ?_) r he ?_
        · subst hh0
          have hor:Zbz (⟨[(t0,.arr false z (R.take k++M))],t0+1⟩:Heap) (.own t0 0 (k+M.length))=R.take k++M:=by
            simp only[Zbz,Heap.get,HL.get,if_true,List.drop_zero];rw[show k+M.length=(R.take k++M).length by rw[Zx5,hlk2],List.take_length]
          simp only[Zau,VA.ev,o52,show e.get 53=Ztp z R T FR M k x4 x5 iv m 13 from v13,Ztp,hor,Zax,Zx5,hlk2];refine⟨?_,⟨rfl,rfl⟩,by omega,Nat.le_trans (Nat.mul_le_mul (show k+M.length+T.length≤3000000 by omega) hB) (by decide),trivial,?_⟩
          · simp only[Zk4,Heap.get,HL.get,if_true,Zx5,hlk2]
            exact⟨trivial,trivial,by omega⟩
          ·simp[Zga,Zbp,Heap.del,HL.del,Heap.push]
        · rintro v g' pv h' ⟨rfl,rfl⟩ _ hg
          refine⟨hsz',?_⟩;rw[hdst];refine fin _ _ g' _ hg (.inr ⟨t0+1,t0+2,?_,?_,by omega,by omega⟩)
          ·simp only[Zx5,hlk2,Nat.add_assoc]
          ·rw[List.append_assoc]
    ·
      have p14:=hdp 14 (by simp[Zc0]);have hdst:o.dst=some 14:=by rw[←q3,←q1]
      refine⟨hog (by rw[←q1]),?_⟩;rw[←q1]at q2;refine OpS.toA (K:=fun v h'=>v=e.get 54∧h'=h) (Zb8 q2 ?_) r he ?_
      ·simp only[Zau,pok,Zcq,VA.ev,and_self]
      rintro v g' pv h' ⟨rfl,rfl⟩ _ hg;refine⟨hsz',?_⟩;rw[hdst];have ge:∀t,t≠14→(e.put (some 14) (e.get 54)).get t=e.get t:=fun t ht=>by rw[Env.get_put,if_neg (Ne.symm ht)]
      refine⟨fun t h1 h2=>by rw[ge t h2];exact J.keep t h1 h2,fun hh=>?_,fun j hj j3 j12 hpj=>?_,fun hh=>?_,fun hh=>?_,fun hh h2=>?_,fun hh=>?_,fun hh=>?_,fun hh=>?_,fun hh j hj=>?_,fun hh=>?_⟩
      ·rw[Zhf]at hh;cases hh
      ·rw[ge (40+j) (by omega)];rw[Zbg p (by omega)]at hpj;exact J.vv j hj j3 j12 hpj
      ·rw[Zbg p (by omega)]at hh;rw[Zfz (by omega)];exact(J.v3 hh).mono hg
      ·rw[Zbg p (by omega)]at hh;rw[J.o14 p14]at hh;cases hh
      ·rw[Zbg p (by omega),p14]at h2;cases h2
      ·rw[ge 54 (by omega)];exact J.v14 p14
      ·rw[Env.get_put,if_pos rfl];exact J.v14 p14
      ·rw[Zbg p (by omega)];exact J.o14 p14
      ·rw[Zbg p (by omega)];exact hdp j (by simp[Zc0];omega)
      ·rw[Zbg p (by omega)];exact J.d12 (J.o14 p14)
  · rintro listed g w a e h ⟨hs16,J⟩ hr r he
    have all:∀n j,j<n→j<16→listed.getD j false=true:=by
      intro n
      induction n with
      |zero=>intro j h;omega
      | succ n ih=>
        intro j h1 h2;cases hq:listed.getD j false with
        |true=>rfl
        | false=>
          exfalso
          have hm:j∈Region.ready .any ops listed:=Zh2.2 ⟨by omega,by
            have hlt:j<listed.size:=by omega
            simpa[hlt]using hq,fun d hd'=>ih d (by have:=hlt j h2 d hd';omega) (by have:=hlt j h2 d hd';omega)⟩
          rw[hr]at hm;cases hm
    have k15:=J.v15 (all 16 15 (by omega) (by omega));refine⟨(e0.keep lk).put (some 14) (e.get 14),H _ _ k15,fun x=>?_⟩;rw[Env.get_put];split
    ·rename_i hx;subst hx;exact he 14
    · have hk2:e0.keep lk=e.keep lk:=by
        exact(Zvd fun y hy=>J.keep y (hlk y hy).1 (hlk y hy).2).symm
      rw[hk2];exact he.keep lk x
end Go.VM
