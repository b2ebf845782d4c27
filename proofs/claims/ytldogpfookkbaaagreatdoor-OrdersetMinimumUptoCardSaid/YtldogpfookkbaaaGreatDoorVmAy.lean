import Derived.Test.YtldogpfookkbaaaGreatDoorVmZ
import Derived.RangeFuncRecord
set_option linter.all false
namespace Go.VM
open Go
section
variable {P:Program} {N:FK} {ops:Array Oper} {q:List VOper}
def unl(listed:Array Bool):Nat:=listed.toList.count false
theorem Zsn{listed:Array Bool}{i:Nat}(h:listed.getD i true=false):unl (listed.setIfInBounds i true)+1=unl listed:=by
 have hi:i<listed.size:=by
  rcases Nat.lt_or_ge i listed.size with h'|h'
  ·exact h'
  ·simp[Array.getElem?_eq_none h']at h
 have hg:listed.toList[i]'(by simpa using hi)=false:=by simpa[hi]using h
 unfold unl;rw[Array.toList_setIfInBounds,List.count_set (by simpa using hi),hg];have hp:0<listed.toList.count false:=List.count_pos_iff.2 (by rw[←hg];exact Zyl _);have e1:(true==false)=false:=rfl;have e2:(false==false)=true:=rfl;simp only[e1,e2,if_true,Zyu,if_false];omega
theorem Xcp{K:Env→Heap→Prop}(J:Array Bool→Env→Heap→Prop)(hlen:ops.size=q.length)
  (hstep:∀listed e h,J listed e h→∀i∈Region.ready .any ops listed,∀o,q[i]?=some o→o.guard=none∧Zau P e h o.op (fun v h'=>J (listed.setIfInBounds i true) (e.put o.dst v) h'))
  (hend:∀listed e h,J listed e h→Region.ready .any ops listed=[]→K e h):∀(n:Nat) (listed:Array Bool) (e:Env) (h:Heap),unl listed≤n→J listed e h→Zg1 P ops q (fun _=>h) (fun _ _ _=>True) (List.range ops.size) K n listed e h
 | 0,listed,e,h,hn,H=>by
  have h0:Region.ready .any ops listed=[]:=by
   rw[List.eq_nil_iff_forall_not_mem];intro i hi;have:=Zsn (mem_ready.1 hi).1;omega
  exact⟨h0,hend _ _ _ H h0⟩
 |n+1,listed,e,h,hn,H=>by
  refine⟨fun h0=>hend _ _ _ H h0,fun i hi o ho=>?_⟩;have hlt:i<ops.size:=by rw[hlen];exact(List.getElem?_eq_some_iff.1 ho).1
  have hu:=Zsn (mem_ready.1 hi).1;have s:=hstep _ _ _ H i hi o ho;refine(Zcg (List.mem_range.2 hlt)).2 ⟨s.1,s.2.mono fun v h' k=>⟨trivial,?_⟩⟩;have:=Xcp J hlen hstep hend n _ (e.put o.dst v) h' (by omega) k;exact AAny_hq this
where
 AAny_hq {K:Env→Heap→Prop} {f g:Nat→Heap}:∀{n:Nat} {listed:Array Bool} {e:Env} {h:Heap},Zg1 P ops q f (fun _ _ _=>True) (List.range ops.size) K n listed e h→Zg1 P ops q g (fun _ _ _=>True) (List.range ops.size) K n listed e h:=by
  intro n
  induction n with
  |zero=>exact fun h=>h
  | succ n ih=>
   intro listed e h H;refine⟨H.1,fun i hi o ho=>?_⟩;have s:=H.2 i hi o ho;have hlt:i<ops.size:=by
    obtain⟨_,o,ho,_⟩:=mem_ready.1 hi;exact(Array.getElem?_eq_some_iff.1 ho).1
   have s':=(Zcg (List.mem_range.2 hlt)).1 s;exact(Zcg (List.mem_range.2 hlt)).2 ⟨s'.1,s'.2.mono fun v h' k=>⟨trivial,ih k.2⟩⟩
theorem Xao{Q:Exit→Env→Heap→Prop}{e:Env}{h:Heap}{id:Nat}{ops:Array Oper}{q:List VOper}(l:List Nat)(h3:Zcr P N.n ops ops.toList=some q)(hm:P.follows .mixedOrders=true)
  (J:Array Bool→Env→Heap→Prop)(hJ:J (Array.replicate ops.size false) e h)
  (hstep:∀listed e h,J listed e h→∀i∈Region.ready .any ops listed,∀o,q[i]?=some o→o.guard=none∧Zau P e h o.op (fun v h'=>J (listed.setIfInBounds i true) (e.put o.dst v) h'))
  (hend:∀listed e h,J listed e h→Region.ready .any ops listed=[]→Q .normal (Env.keep l e) h):VW P N (.other (.region id ops true)) Q e h:=by
 intro c hc;have hc':c=.region id ops true:=by
  cases c
  case region id' ops' draw'=>
   obtain⟨p,h3',h'|h'|h'⟩:=Zb7 hc
   ·obtain⟨_,h'⟩:=h';cases h'
   ·obtain⟨_,_,h'|h'⟩:=h'
    ·obtain⟨_,h'⟩:=h';cases h'
    ·cases h'
   ·simp only[Zb1]at hc;rw[h3']at hc;simp only at hc;split at hc
    ·split at hc
     ·split at hc<;>simp at hc
     ·simpa using hc
    ·simp at hc
  all_goals
   simp only[Zb1,Option.map_eq_some_iff]at hc
   first
   |(simp at hc;done)
   |(split at hc<;>simp at hc;done)
   |(simpa using hc)
 subst hc';obtain⟨hlen,_⟩:=Zb2 h3;rw[Array.length_toList]at hlen;intro g w a r he hd hs;refine wpIn_region_any hm ?_;have hu:unl (Array.replicate ops.size false)≤ops.size:=by
  unfold unl;refine Nat.le_trans (List.count_le_length) ?_;simp
 have hany:=Xcp (P:=P) (K:=fun e' h'=>Q .normal (Env.keep l e') h') J hlen hstep hend ops.size _ e h hu hJ;refine Zfq (N:=N) h3 (fun _ _=>True) ?_ (fun _ _ _ _ _ _=>trivial) (fun _ _ _ _ _ _ _ _=>trivial) (Q:=fun x a' w'=>∃g' e' h',Q x e' h'∧Rel g' w' h'∧Zas g' a' e'∧N.dok x a'.defers h'∧a'.tmps.size=N.n∧Evo g w h g' w' h') (g0:=g) (w0:=w) (h0:=h)
  (fun g' w' h' a' e' k1 k2 k3 k4 k5 k6=>⟨g',_,h',k1,k2,k3.keep l,k4,k5,k6⟩) _ _ e h hany trivial g _ a (r.drew _) he hd hs (Evo.drew _ _ _ _)
 intro listed h' i vo _ hi hiE _
 exfalso
 obtain⟨_,o,ho,_⟩:=mem_ready.1 hi;exact hiE (List.mem_range.2 (Array.getElem?_eq_some_iff.1 ho).1)
end
end Go.VM
namespace Go.VM.Ap
open Go Go.VM
def Zl9(ops:Array Oper)(i:Nat):List Nat:=match ops[i]? with
  |some o=>(o.after.toList.filter (Region.binds .any)).map (·.on)
  |none=>[]
theorem Zh2{ops:Array Oper}{listed:Array Bool}{i:Nat}:i∈Region.ready .any ops listed↔i<ops.size∧listed.getD i true=false∧∀x∈Zl9 ops i,listed.getD x false=true:=by
 rw[mem_ready];unfold Zl9;constructor
 ·rintro⟨h1,o,ho,h2⟩;refine⟨(Array.getElem?_eq_some_iff.1 ho).1,h1,?_⟩;rw[ho];intro x hx;obtain⟨y,hy,rfl⟩:=List.mem_map.1 hx;obtain⟨h3,h4⟩:=List.mem_filter.1 hy;exact h2 y (by simpa using h3) h4
 ·rintro⟨h0,h1,h2⟩;refine⟨h1,ops[i],Array.getElem?_eq_getElem h0,?_⟩;rw[Array.getElem?_eq_getElem h0]at h2;intro x hx hb;exact h2 _ (List.mem_map.2 ⟨x,List.mem_filter.2 ⟨by simpa using hx,hb⟩,rfl⟩)
def Has(h:Heap)(c:Nat)(x:AB):Prop:=h.get c=some x∧c<h.top
theorem Has.push{h:Heap}{c:Nat}{x:AB}(y:AB)(H:Has h c x):Has (h.push y) c x:=⟨by rw[Heap.get_push,if_neg (by have:=H.2;omega)];exact H.1,Nat.lt_succ_of_lt H.2⟩
theorem Has.new(h:Heap)(y:AB):Has (h.push y) h.top y:=⟨by rw[Heap.get_push,if_pos rfl],Nat.lt_succ_self _⟩
theorem Has.set{h:Heap}{c d:Nat}{x y:AB}(H:Has h c x)(hcd:d≠c):Has (h.set d y) c x:=⟨by rw[Heap.get_set,if_neg hcd];exact H.1,H.2⟩
theorem Has.wrote{h:Heap}{c:Nat}{x y:AB}(H:Has h c x):Has (h.set c y) c y:=⟨by rw[Heap.get_set,if_pos rfl,H.1];rfl,H.2⟩
theorem Has.del{h:Heap}{c d:Nat}{x:AB}(H:Has h c x)(hcd:d≠c):Has (h.del d) c x:=⟨by rw[Heap.get_del,if_neg hcd];exact H.1,H.2⟩
def Zjb(v:PV):AB:=.arr false 1 [[v]]
def Zlj(p:Nat→Bool)(i:Nat):Nat→Bool:=fun j=>if j=i then true else p j
theorem Zhf(p:Nat→Bool)(i:Nat):Zlj p i i=true:=if_pos rfl
theorem Zbg(p:Nat→Bool){i j:Nat}(h:j≠i):Zlj p i j=p j:=if_neg h
theorem OpS_zs{P:Program}{o:Oper}{e:Env}{h:Heap}{K:PV→Heap→Prop}{t ty:TypeId}{V:Value}{z:Nat}{zs:List PV}(ho:o.op=.buildSlice t 1 #[(0,.const V)])(hu:P.underlying t=some (.slice ty))(hs:Zc2 P ty=some z)(hz:zeroOf P ty=some zs)
  (hV:∀g,Rep g V (.agg zs))(hzl:zs.length=z)(hz0:z≠0)(hz1:z≤1000)(H:K (.own h.top 0 1) (h.push (.arr false z [zs]))):OpS P o e h K:=by
 refine OpS.of_value fun g w a r he=>?_;have he':Zas g ({ a with tmps:=#[V] }:Act) [(0,.agg zs)]:=by
  intro j
  match j with
  |0=>exact hV g
  |j+1=>exact .any _
 obtain⟨out,hrun,o2,hrows,hz',_⟩:=Zk8 (P:=P) (o:={ o with op:=.buildSlice t 1 #[(0,.tmp 0)] }) (e:=[(0,.agg zs)]) (ps:=[(0,.t 0)]) rfl hu hs hz rfl (by omega) hzl hz0 ⟨by simp[VA.ev,Env.get,PV.fits,hzl],Nat.one_pos,trivial⟩ w he';have e1:(execOp a.eval o).run P w=(execOp ({ a with tmps:=#[V] }:Act).eval { o with op:=.buildSlice t 1 #[(0,.tmp 0)] }).run P w:=by
  simp[execOp,ho,Act.eval]
 have hE:Zb6 [(0,.agg zs)] (List.replicate 1 zs) [(0,.t 0)]=[zs]:=rfl;rw[hE]at hrows hz';obtain⟨g',f2,f3,f4,f5⟩:=Znn r out ty z [zs] hz' hrows;exact⟨_,_,g',_,_,e1.trans hrun,H,.own h.top 0 1 1 w.heap.size 0 out.size z ⟨w.heap.size,0,none⟩ f3 (by simp) (Nat.le_refl _) (by rw[o2];omega),f4,f5⟩
def Z3l(ip ia ix:Nat)(h:Heap)(at0:PV)(rows:List (List PV)):Prop:=
 (at0=.nilsl∧rows=[])∨∃io,at0=.own io 0 rows.length∧Has h io (.arr false 8 rows)∧io≠ip∧io≠ia∧io≠ix
theorem Z3l.push{ip ia ix:Nat}{h:Heap}{at0:PV}{rows:List (List PV)}(x:AB)(H:Z3l ip ia ix h at0 rows):Z3l ip ia ix (h.push x) at0 rows:=by
 rcases H with H|⟨io,h1,h2,h3⟩
 ·exact .inl H
 ·exact .inr ⟨io,h1,h2.push _,h3⟩
def Fr(h0 h:Heap)(ia:Nat)(at0:PV):Prop:=∀c y,c≠ia→Zga at0≠some c→Has h0 c y→Has h c y
structure ApJ (h0:Heap) (ip ia ix:Nat) (pv at0:PV) (zs x:List PV) (rows:List (List PV)) (p:Nat→Bool) (e:Env) (h:Heap) (b d:Nat) (va:PV) (y:List PV):Prop where
 e2:e.get 2= .loc ia 0 0
 e3:e.get 3= .loc ix 0 0
 e9:p 0=true→e.get 9=at0
 e10:p 1=true→e.get 10= .agg x
 e11:p 2=true→e.get 11=PV.int .i64 (rows.length:Int)
 e12:p 3=true→e.get 12= .own b 0 1
 e13:p 4=true→e.get 13= .own d 0 (rows.length+1)
 e14:p 5=true→e.get 14= .loc d rows.length 0
 hp:Has h ip (Zjb pv)
 hx:Has h ix (.arr false 8 [x])
 ha:Has h ia (Zjb va)
 ho:p 4=false→Z3l ip ia ix h at0 rows
 hb:p 3=true→p 4=false→Has h b (.arr false 8 [zs])
 hd:p 4=true→Has h d (.arr false 8 (rows++[y]))
 va0:p 7=false→va=at0
 va1:p 7=true→va= .own d 0 (rows.length+1)
 y0:y.length=8
 y1:p 6=true→y=x
 p54:p 5=true→p 4=true
 p64:p 6=true→p 4=true
 p74:p 7=true→p 4=true
 dn:p 4=true→d≠ip∧d≠ia∧d≠ix
 q4:p 4=true→p 0=true∧p 1=true∧p 2=true∧p 3=true
 tp:h.top=h0.top+(bif p 3 then 1 else 0)+(bif p 4 then 1 else 0)
 dd:p 4=true→d=h0.top+1
 fr:Fr h0 h ia at0
 pa:ip≠ia
 ax:ia≠ix
def qAp(o3:Oper)(B:Nat)(zs:List PV):List VOper:=[⟨(some 9),(.load false 1 (.t 2)),none⟩,⟨(some 10),(.load true 8 (.t 3)),none⟩,⟨(some 11),(.len false (.t 9)),none⟩,⟨(some 12),(.other o3),none⟩,⟨(some 13),(.app 8 B zs false (.t 9) (.t 12)),none⟩,⟨(some 14),(.iaddr 8 (.t 13) (.t 11)),none⟩,⟨none,(.store 8 (.t 14) (.t 10)),none⟩,⟨none,(.store 1 (.t 2) (.t 13)),none⟩]
section
variable {P:Program} {N:FK} {Q:Exit→Env→Heap→Prop} {e:Env} {h:Heap} {id:Nat} {ops:Array Oper} {o3:Oper}
theorem VW_ap{B:Nat}{zs x:List PV}(lk:List Nat)(hx3:ops[3]?=some o3)(h3:Zcr P N.n ops ops.toList=some (qAp o3 B zs))(hm:P.follows .mixedOrders=true)(hsz:ops.size=8)
  (hdeps:(List.range 8).map (Zl9 ops)=[[],[],[0],[],[0,3,0,1,2,3],[4,2,0,1,2,3,4],[5,1,4,0,1,2,3,4],[4,4,0,1,2,3,4]])
  {t ty:TypeId}{V:Value}(ho3:o3.op=.buildSlice t 1 #[(0,.const V)])(hu:P.underlying t=some (.slice ty))(hsz3:Zc2 P ty=some 8)(hzo:zeroOf P ty=some zs)(hV:∀g,Rep g V (.agg zs))
  (hz:zs.length=8)(hxl:x.length=8)(hB:B≤1000){ip ia ix:Nat}{pv at0:PV}{rows:List (List PV)}(hn:rows.length≤1000000)
  (he2:e.get 2=.loc ia 0 0)(he3:e.get 3=.loc ix 0 0)(hp:Has h ip (Zjb pv))(hx:Has h ix (.arr false 8 [x]))(ha:Has h ia (Zjb at0))(ho:Z3l ip ia ix h at0 rows)(hpa:ip≠ia)(hax:ia≠ix)
  (H:∀(e':Env) (h':Heap) (d:Nat),h'.top=h.top+2→d=h.top+1→Fr h h' ia at0→Has h' ip (Zjb pv)→Has h' ia (Zjb (.own d 0 (rows.length+1)))→Has h' d (.arr false 8 (rows++[x]))→d≠ip→d≠ia→Q .normal (Env.keep lk e') h'):VW P N (.other (.region id ops true)) Q e h:=by
 have hdep:∀i,i<8→Zl9 ops i=[[],[],[0],[],[0,3,0,1,2,3],[4,2,0,1,2,3,4],[5,1,4,0,1,2,3,4],[4,4,0,1,2,3,4]].getD i []:=by
  intro i hi;rw[←hdeps,Zx1,List.getElem?_map,List.getElem?_range hi];rfl
 generalize hH0:h=h0 at H;refine Xao lk h3 hm (fun listed e h=>listed.size=8∧∃b d va y,ApJ h0 ip ia ix pv at0 zs x rows (fun i=>listed.getD i false) e h b d va y) ?_ ?_ ?_
 ·refine⟨by simp[hsz],0,0,at0,x,?_⟩;have hf:∀i,(Array.replicate ops.size false).getD i false=false:=by
   intro i;simp only[Zx6,Array.getElem?_replicate];split<;>rfl
  subst hH0;have tp0:h.top=h.top+(bif (Array.replicate ops.size false).getD 3 false then 1 else 0)+(bif (Array.replicate ops.size false).getD 4 false then 1 else 0):=by rw[hf,hf];rfl
  have fr0:Fr h h ia at0:=fun _ _ _ _ H=>H;constructor<;>first|exact tp0|exact fr0|exact he2|exact he3|exact hp|exact hx|exact ha|exact hpa|exact hax|exact hxl|(intro _;exact ho)|(intro _;rfl)|(intro h;rw[hf]at h;cases h)|(intro h;simp only[hf]at h;cases h)
 ·rintro listed e h ⟨hs12,b,d,va,y,J⟩ i hi o ho;obtain⟨hi1,hi2,hi3⟩:=Zh2.1 hi;rw[hsz]at hi1;rw[hdep i hi1]at hi3;have hpi:listed.getD i false=false:=by
   have hlt:i<listed.size:=by omega
   simpa[hlt]using hi2
  have hset:(fun j=>(listed.setIfInBounds i true).getD j false)=Zlj (fun j=>listed.getD j false) i:=by
   funext j
   unfold Zlj;by_cases e:j=i
   ·subst e;rw[if_pos rfl];have hlt:j<listed.size:=by omega
    simp[hlt]
   ·rw[if_neg e];exact getD_set_ne false (Ne.symm e)
  have hsz':(listed.setIfInBounds i true).size=8:=by rw[Array.size_setIfInBounds];exact hs12
  rw[hset];generalize hp:(fun j=>listed.getD j false)=p at J;have hpp:∀j,p j=listed.getD j false:=fun j=>by rw[←hp]
  rw[←hpp]at hpi
  replace hi3:∀x,x∈[[],[],[0],[],[0,3,0,1,2,3],[4,2,0,1,2,3,4],[5,1,4,0,1,2,3,4],[4,4,0,1,2,3,4]].getD i []→p x=true:=fun x hx=>by rw[hpp];exact hi3 x hx
  clear hpp hp hset hi2;have hcs:i=0∨i=1∨i=2∨i=3∨i=4∨i=5∨i=6∨i=7:=by omega
  rcases hcs with rfl|rfl|rfl|rfl|rfl|rfl|rfl|rfl
  ·simp only[qAp,Zyp,Zyo,Zx0]at ho;subst ho;refine⟨rfl,?_⟩;have n4:p 4=false:=by
    cases h7:p 4 with
    |false=>rfl
    |true=>have:=(J.q4 h7).1;rw[hpi]at this;cases this
   have p7:p 7=false:=by
    cases h7:p 7 with
    |false=>rfl
    |true=>have:=J.p74 h7;rw[n4]at this;cases this
   have h2:=J.ha.1;simp only[Zau,pok,Zcq,VA.ev,J.e2,Zfl,Zba,h2,Zjb];exact⟨⟨Nat.one_pos,Nat.le_refl _,fun h=>h⟩,hsz',b,d,va,y,{ J with e9:=fun _=>J.va0 p7,q4:=fun h=>⟨rfl,(J.q4 h).2⟩ }⟩
  ·simp only[qAp,Zyp,Zyo,Zx0]at ho;subst ho;refine⟨rfl,?_⟩;have h2:=J.hx.1;simp only[Zau,pok,Zcq,VA.ev,J.e3,Zfl,Zba,h2];refine⟨⟨Nat.one_pos,?_,?_⟩,hsz',b,d,va,y,{ J with e10:=fun _=>?_,q4:=fun h=>⟨(J.q4 h).1,rfl,(J.q4 h).2.2⟩ }⟩
   ·show 8≤x.length;omega
   ·intro h;cases h
   ·show PV.agg (List.take 8 x)=.agg x;rw[←hxl,List.take_length]
  ·simp only[qAp,Zyp,Zyo,Zx0]at ho;subst ho;refine⟨rfl,?_⟩;have n4:p 4=false:=by
    cases h7:p 4 with
    |false=>rfl
    |true=>have:=(J.q4 h7).2.2.1;rw[hpi]at this;cases this
   have h0:=J.ho n4;simp only[Zau,pok,Zcq,VA.ev,J.e9 (hi3 0 (by simp))];refine⟨?_,hsz',b,d,va,y,{ J with e11:=fun _=>?_,q4:=fun h=>⟨(J.q4 h).1,(J.q4 h).2.1,rfl,(J.q4 h).2.2.2⟩ }⟩
   ·rcases h0 with⟨rfl,_⟩|⟨io,rfl,_⟩<;>simp[Zis]
   ·rcases h0 with⟨rfl,rfl⟩|⟨io,rfl,_⟩<;>rfl
  ·simp only[qAp,Zyp,Zyo,Zx0]at ho;subst ho;refine⟨rfl,?_⟩;have n4:p 4=false:=by
    cases h7:p 4 with
    |false=>rfl
    |true=>have:=(J.q4 h7).2.2.2;rw[hpi]at this;cases this
   simp only[Zau];refine OpS_zs ho3 hu hsz3 hzo hV hz (by decide) (by decide) ⟨hsz',h.top,d,va,y,{ J with e12:=fun _=>rfl,tp:=(by have:=J.tp;rw[hpi]at this;show h.top+1=_;rw[this];simp[Zlj];omega),fr:=fun c y h1 h2 h3=>(J.fr c y h1 h2 h3).push _,hp:=J.hp.push _,hx:=J.hx.push _,ha:=J.ha.push _,ho:=fun hh=>(J.ho hh).push _,hb:=fun _ _=>Has.new _ _,hd:=fun hh=>(J.hd hh).push _,q4:=fun h=>⟨(J.q4 h).1,(J.q4 h).2.1,(J.q4 h).2.2.1,rfl⟩ }⟩
  ·simp only[qAp,Zyp,Zyo,Zx0]at ho;subst ho;refine⟨rfl,?_⟩;have d0:=hi3 0 (by simp);have d1:=hi3 1 (by simp);have d2:=hi3 2 (by simp);have d3:=hi3 3 (by simp);have h0:=J.ho hpi;have h1:=J.hb d3 hpi;have n5:p 5=true→False:=fun h=>by have:=J.p54 h;rw[hpi]at this;cases this
   have n6:p 6=true→False:=fun h=>by have:=J.p64 h;rw[hpi]at this;cases this
   have n7:p 7=true→False:=fun h=>by have:=J.p74 h;rw[hpi]at this;cases this
   have hS:Zax h (.own b 0 1)=[zs]:=by simp only[Zax,h1.1];rfl
   have hSo:Zf9 h false 8 (.own b 0 1):=by simp only[Zf9,h1.1];exact⟨trivial,trivial,Nat.le_refl _⟩
   have hO:Zbz h at0=rows∧Zk4 h 8 at0:=by
    rcases h0 with⟨rfl,rfl⟩|⟨io,rfl,h5,_⟩
    ·exact⟨rfl,trivial⟩
    ·refine⟨?_,?_⟩
     ·simp only[Zbz,h5.1,List.drop_zero,List.take_length]
     ·simp only[Zk4,h5.1,Nat.zero_add,Nat.le_refl,and_self]
   have hk:∀c y,c=ip∨c=ia∨c=ix→Has h c y→Has (Zbp h (Zga at0)) c y:=fun c y hc HH=>by
    rcases h0 with⟨rfl,_⟩|⟨io,rfl,h5,h6,h7,h8⟩
    ·exact HH
    ·exact HH.del (by rcases hc with rfl|rfl|rfl<;>assumption)
   have hk2:∀c y,Zga at0≠some c→Has h c y→Has (Zbp h (Zga at0)) c y:=fun c y hc HH=>by
    rcases h0 with⟨rfl,_⟩|⟨io,rfl,h5,h6,h7,h8⟩
    ·exact HH
    ·exact HH.del (fun e=>hc (by rw[←e];rfl))
   have ht:(Zbp h (Zga at0)).top=h.top:=Zk3 _ _;simp only[Zau,VA.ev,J.e9 d0,J.e12 d3,hS,hO.1,Zyd,Zyn,Nat.zero_add];have hN:=Has.new (Zbp h (Zga at0)) (.arr false 8 (rows++[zs]));rw[ht]at hN;refine⟨hO.2,hSo,by omega,?_,hsz',b,h.top,va,zs,{ J with e13:=fun _=>rfl,tp:=(by have:=J.tp;rw[hpi,d3]at this;show(Zbp h (Zga at0)).top+1=_;rw[ht,this];simp[Zlj,d3]),dd:=fun _=>(by have:=J.tp;rw[hpi,d3]at this;simpa using this),fr:=fun c y h1 h2 h3=>(hk2 c y h2 (J.fr c y h1 h2 h3)).push _,e14:=fun h=>(n5 h).elim,hp:=(hk _ _ (.inl rfl) J.hp).push _,hx:=(hk _ _ (.inr (.inr rfl)) J.hx).push _,ha:=(hk _ _ (.inr (.inl rfl)) J.ha).push _,ho:=fun h=>(by cases h),hb:=fun _ h=>(by cases h),hd:=fun _=>hN,va1:=fun h=>(n7 h).elim,y0:=hz,y1:=fun h=>(n6 h).elim,p54:=fun _=>rfl,p64:=fun _=>rfl,p74:=fun _=>rfl,dn:=fun _=>⟨?_,?_,?_⟩,q4:=fun _=>⟨d0,d1,d2,d3⟩ }⟩
   ·exact Nat.le_trans (Nat.mul_le_mul (Nat.add_le_add_right hn 1) hB) (by decide)
   ·have:=J.hp.2;omega
   ·have:=J.ha.2;omega
   ·have:=J.hx.2;omega
  ·simp only[qAp,Zyp,Zyo,Zx0]at ho;subst ho;refine⟨rfl,?_⟩;have d4:=hi3 4 (by simp);have d2:=hi3 2 (by simp);have h1:=(J.hd d4).1;simp only[Zau,pok,Zcq,VA.ev,J.e13 d4,J.e11 d2];refine⟨⟨trivial,?_,?_,?_⟩,hsz',b,d,va,y,{ J with e14:=fun _=>?_,p54:=fun _=>d4 }⟩
   ·simp[numOf]
   ·simp[numOf,Zmo];omega
   ·simp only[h1]
   ·show PV.loc d (0+(rows.length:Int).toNat) 0=_;rw[Nat.zero_add,Zyk]
  ·simp only[qAp,Zyp,Zyo,Zx0]at ho;subst ho;refine⟨rfl,?_⟩;have d4:=hi3 4 (by simp);have d5:=hi3 5 (by simp);have d1:=hi3 1 (by simp);have h1:=J.hd d4;have h2:=h1.1;obtain⟨n1,n2,n3⟩:=J.dn d4;have hrow:(rows++[y]).set rows.length (overlay (PV.row (rows++[y]) rows.length) 0 x)=rows++[x]:=by
    have e1:PV.row (rows++[y]) rows.length=y:=by simp[PV.row,Zx1]
    have e2:overlay y 0 x=x:=by
     unfold overlay;rw[List.take_zero,List.nil_append,Nat.zero_add,hxl,←J.y0,List.drop_length,Zyj]
    rw[e1,e2];simp
   simp only[Zau,VA.ev,J.e14 d5,J.e10 d1,Zfe,Zec,h2,PV.cells,hrow];refine⟨⟨by simp[PV.fits,hxl],trivial,by simp,Nat.le_refl _⟩,hsz',b,d,va,x,{ J with hp:=J.hp.set n1,hx:=J.hx.set n3,ha:=J.ha.set n2,ho:=fun h=>?_,hb:=fun _ h=>?_,fr:=fun c y h1 h2 h3=>(J.fr c y h1 h2 h3).set (by have:=h3.2;have:=J.dd d4;omega),hd:=fun _=>h1.wrote,y0:=hxl,y1:=fun _=>rfl,p64:=fun _=>d4 }⟩
   ·exact absurd (show p 4=false from h) (by rw[d4];simp)
   ·exact absurd (show p 4=false from h) (by rw[d4];simp)
  ·simp only[qAp,Zyp,Zyo,Zx0]at ho;subst ho;refine⟨rfl,?_⟩;have d4:=hi3 4 (by simp);have h1:=J.ha;have h2:=h1.1;obtain⟨n1,n2,n3⟩:=J.dn d4;simp only[Zau,VA.ev,J.e2,J.e13 d4,Zfe,Zec,h2,Zjb];refine⟨⟨rfl,trivial,Nat.one_pos,Nat.le_refl _⟩,hsz',b,d,.own d 0 (rows.length+1),y,{ J with hp:=J.hp.set (Ne.symm J.pa),hx:=J.hx.set J.ax,fr:=fun c y h1 h2 h3=>(J.fr c y h1 h2 h3).set (Ne.symm h1),ha:=h1.wrote,ho:=fun h=>?_,hb:=fun _ h=>?_,hd:=fun hh=>(J.hd hh).set (Ne.symm n2),va0:=fun h=>(by cases h),va1:=fun _=>rfl,p74:=fun _=>d4 }⟩
   ·exact absurd (show p 4=false from h) (by rw[d4];simp)
   ·exact absurd (show p 4=false from h) (by rw[d4];simp)
 ·rintro listed e h ⟨hs12,b,d,va,y,J⟩ hr;have nr:∀i,i<8→(∀x∈[[],[],[0],[],[0,3,0,1,2,3],[4,2,0,1,2,3,4],[5,1,4,0,1,2,3,4],[4,4,0,1,2,3,4]].getD i [],listed.getD x false=true)→listed.getD i false=true:=by
   intro i hi hx;cases hq:listed.getD i false with
   |true=>rfl
   | false=>
    exfalso
    have hm:i∈Region.ready .any ops listed:=Zh2.2 ⟨by omega,by
     have hlt:i<listed.size:=by omega
     simpa[hlt]using hq,by rw[hdep i hi];exact hx⟩
    rw[hr]at hm;cases hm
  have q0:=nr 0 (by omega) (by simp);have q1:=nr 1 (by omega) (by simp);have q2:=nr 2 (by omega) (by simpa using q0);have q3:=nr 3 (by omega) (by simp);have hl:∀(l:List Nat),(∀x∈l,x=0∨x=1∨x=2∨x=3)→∀x∈l,listed.getD x false=true:=fun l h x hx=>by
   rcases h x hx with rfl|rfl|rfl|rfl<;>assumption
  have q4:=nr 4 (by omega) (hl _ (by simp));have q5:=nr 5 (by omega) (fun x hx=>by simp at hx;rcases hx with rfl|rfl|rfl|rfl|rfl|rfl|rfl<;>assumption);have q6:=nr 6 (by omega) (fun x hx=>by simp at hx;rcases hx with rfl|rfl|rfl|rfl|rfl|rfl|rfl|rfl<;>assumption);have q7:=nr 7 (by omega) (fun x hx=>by simp at hx;rcases hx with rfl|rfl|rfl|rfl|rfl|rfl|rfl<;>assumption);have hv:=J.va1 q7;have hy:=J.y1 q6;subst hv hy;exact H e h d (by have:=J.tp;rw[q3,q4]at this;exact this) (J.dd q4) J.fr J.hp J.ha (J.hd q4) (J.dn q4).1 (J.dn q4).2.1
end
end Go.VM.Ap
namespace Go.VM
open Go
section
variable {P:Program} {N:FK} {ops:Array Oper} {q:List VOper} {hqf:Nat→Heap} {Z:Nat→Heap→Heap→Prop} {E:List Nat}
end
section
variable {P:Program} {N:FK} {ops:Array Oper} {q:List VOper} {hqf:Nat→Heap} {Z:Nat→Heap→Heap→Prop} {E:List Nat}
inductive Bh (ops:Array Oper) (listed:Array Bool) (i:Nat):Nat→Prop
 |edge {j:Nat} {o:Oper} {x:Edge} (ho:ops[j]?=some o) (hx:x∈o.after) (hb:Region.binds .any x=true) (he:x.on=i):Bh ops listed i j
 |step {j:Nat} {o:Oper} {x:Edge} (ho:ops[j]?=some o) (hx:x∈o.after) (hb:Region.binds .any x=true) (hu:listed.getD x.on true=false) (h:Bh ops listed i x.on):Bh ops listed i j
theorem Zh3{listed:Array Bool}{i:Nat}:∀{f j:Nat},Zaz ops listed f i j=true→Bh ops listed i j
 |0,j,h=>by cases h
 | f+1,j,h=>by
  simp only[Zaz]at h;split at h
  ·rename_i o ho;rw[Array.any_eq_true']at h;obtain⟨x,hx,hxx⟩:=h;simp only[Zx4,Bool.or_eq_true,beq_iff_eq,Bool.not_eq_true']at hxx;rcases hxx.2 with h1|⟨h1,h2⟩
   ·exact .edge ho hx hxx.1 h1
   ·exact .step ho hx hxx.1 h1 (Zh3 h2)
  ·cases h
theorem Zso{listed:Array Bool}{i j:Nat}(hj:j∈Region.ready .any ops listed)(hi:listed.getD i true=false):¬Bh ops listed i j:=by
 intro h;obtain⟨_,goj,hgoj,hall⟩:=mem_ready.1 hj;have key:∀(o:Oper) (x:Edge),ops[j]?=some o→x∈o.after→Region.binds .any x=true→listed.getD x.on true=true:=by
  intro o x ho hx hb;rw[hgoj]at ho;simp only[Zx0]at ho;subst ho;have h1:=hall x hx hb;rcases Nat.lt_or_ge x.on listed.size with h'|h'
  ·simp[h']at h1;simp[h',h1]
  ·simp[Array.getElem?_eq_none h']at h1
 cases h with
 |edge ho hx hb he=>
  have:=key _ _ ho hx hb;rw[he,hi]at this;cases this
 |step ho hx hb hu _=>
  have:=key _ _ ho hx hb;rw[hu]at this;cases this
theorem Z6z{listed:Array Bool}{i j:Nat}(hj:¬Bh ops listed i j){k:Nat}(h:Bh ops listed i k):Bh ops (listed.setIfInBounds j true) i k:=by
 induction h with
 |edge ho hx hb he=>exact .edge ho hx hb he
 |step ho hx hb hu h ih=>
  rename_i x;have hne:j≠x.on:=by rintro rfl;exact hj h
  exact .step ho hx hb (by rw[getD_set_ne true hne];exact hu) ih
theorem Xap{listed listed':Array Bool}{k0 k1:Nat}(hs:∀x,listed'.getD x true=false→listed.getD x true=false)(hu:listed.getD k1 true=false)(h0:Bh ops listed k0 k1){j:Nat}(h:Bh ops listed' k1 j):Bh ops listed k0 j:=by
 induction h with
 |edge ho hx hb he=>exact .step ho hx hb (by rw[he];exact hu) (by rw[he];exact h0)
 |step ho hx hb hu' _ ih=>exact .step ho hx hb (hs _ hu') ih
theorem Zg1.firstB{K:Env→Heap→Prop}(hK:Inv K)(hc:∀o∈q,o.op.closed=true)(hlen:ops.size=q.length){i:Nat}{oi:VOper}(hi:q[i]?=some oi):
  ∀ (fuel:Nat) (listed:Array Bool) (e:Env) (h:Heap),
   (∀(j:Nat) (oj:VOper) (goj:Oper),q[j]?=some oj→ops[j]?=some goj→j≠i→listed.getD j true=false→¬Bh ops listed i j→
    oi.apart oj=true∧¬(i∈E∧j∈E)∧(i∈E→oi.op.simple=true∧(oj.op.det||oi.op.sure)=true))→
   i∈Region.ready .any ops listed→Zc5 P hqf Z E i oi e h (Zg1 P ops q hqf Z E K fuel (listed.setIfInBounds i true))→Zg1 P ops q hqf Z E K (fuel+1) listed e h:=by
 intro fuel
 induction fuel with
 | zero=>
  intro listed e h hfree hr H;refine⟨fun h0=>(by rw[h0]at hr;cases hr),fun j hj o ho=>?_⟩;by_cases hji:j=i
  ·subst hji;rw[hi]at ho;simp only[Zx0]at ho;subst ho;exact H
  ·exfalso
   have hnr:Region.ready .any ops (listed.setIfInBounds i true)≠[]:=by
    intro h0;have:=ready_mono hj hji;rw[h0]at this;cases this
   obtain⟨hjun,goj,hgoj,hall⟩:=mem_ready.1 hj;obtain⟨f1,f2,f3⟩:=hfree j o goj ho hgoj hji hjun (Zso hj (mem_ready.1 hr).1)
   apply hnr
   by_cases hiE:i∈E
   ·exact Zau.out (K:=fun _ _=>True) (f3 hiE).1 (((Zcg hiE).1 H).2.mono fun v h' k=>⟨k.2.1,trivial⟩)
   ·obtain⟨c,_,v,_,k⟩:=(Zca hiE).1 H;exact k.1
 | succ fuel ih=>
  intro listed e h hfree hr H;refine⟨fun h0=>(by rw[h0]at hr;cases hr),fun j hj oj hoj=>?_⟩;by_cases hji:j=i
  ·subst hji;rw[hi]at hoj;simp only[Zx0]at hoj;subst hoj;exact H
  ·obtain⟨hjun,goj,hgoj,hall⟩:=mem_ready.1 hj;have hbr:=Zso hj (mem_ready.1 hr).1;obtain⟨f1,f2,f3⟩:=hfree j oj goj hoj hgoj hji hjun hbr;have H2:Zc5 P hqf Z E i oi e h (fun e1 h1=>Zc5 P hqf Z E j oj e1 h1 (Zg1 P ops q hqf Z E K fuel ((listed.setIfInBounds i true).setIfInBounds j true))):=
    H.mono fun e1 h1 k=>k.2 j (ready_mono hj hji) oj hoj
   have H3:=Zc5.swap (Zg1.inv hK hc fuel _) f1 (hc oi (List.mem_of_getElem? hi)) (hc oj (List.mem_of_getElem? hoj)) f2 f3 H2;have hfree':∀(k:Nat) (ok:VOper) (gok:Oper),q[k]?=some ok→ops[k]?=some gok→k≠i→(listed.setIfInBounds j true).getD k true=false→ ¬Bh ops (listed.setIfInBounds j true) i k→
     oi.apart ok=true∧¬(i∈E∧k∈E)∧(i∈E→oi.op.simple=true∧(ok.op.det||oi.op.sure)=true):=fun k ok gok hk hgk hki hun hno=>by
    refine hfree k ok gok hk hgk hki ?_ (fun hb=>hno (Z6z hbr hb));by_cases hjk:j=k
    ·subst hjk;exact hjun
    ·rw[getD_set_ne true hjk]at hun;exact hun
   refine Zc5.mono (fun e1 h1 k=>?_) H3;refine ih (listed.setIfInBounds j true) e1 h1 hfree' (ready_mono hr (Ne.symm hji)) ?_;rw[Array.setIfInBounds_comm _ _ hji];exact k
theorem Zg1.firstS{K:Env→Heap→Prop}(hK:Inv K)(hc:∀o∈q,o.op.closed=true){i:Nat}{oi:VOper}(hi:q[i]?=some oi)(hiE:i∈E)(hgu:oi.guard=none){v0:PV}{h0:Heap}:
  ∀(fuel:Nat) (listed:Array Bool) (e:Env) (h:Heap),
   (∀(j:Nat) (oj:VOper) (goj:Oper),q[j]?=some oj→ops[j]?=some goj→j≠i→listed.getD j true=false→¬Bh ops listed i j→oi.apart oj=true∧j∉E)→
   i∈Region.ready .any ops listed→(∀K':PV→Heap→Prop,K' v0 h0→Zau P e h oi.op K')→Z i h h0→Zg1 P ops q hqf Z E K fuel (listed.setIfInBounds i true) (e.put oi.dst v0) h0→Zg1 P ops q hqf Z E K (fuel+1) listed e h:=by
 intro fuel
 induction fuel with
 | zero=>
  intro listed e h hfree hr back hz H;refine⟨fun h0=>(by rw[h0]at hr;cases hr),fun j hj o ho=>?_⟩;by_cases hji:j=i
  ·subst hji;rw[hi]at ho;simp only[Zx0]at ho;subst ho;exact(Zcg hiE).2 ⟨hgu,back _ ⟨hz,H⟩⟩
  ·exfalso
   have:=ready_mono hj hji;rw[H.1]at this;cases this
 | succ fuel ih=>
  intro listed e h hfree hr back hz H;refine⟨fun h0=>(by rw[h0]at hr;cases hr),fun j hj oj hoj=>?_⟩;by_cases hji:j=i
  ·subst hji;rw[hi]at hoj;simp only[Zx0]at hoj;subst hoj;exact(Zcg hiE).2 ⟨hgu,back _ ⟨hz,H⟩⟩
  ·obtain⟨hjun,goj,hgoj,hall⟩:=mem_ready.1 hj;have hbr:=Zso hj (mem_ready.1 hr).1;obtain⟨f1,f2⟩:=hfree j oj goj hoj hgoj hji hjun hbr;have ci:=hc oi (List.mem_of_getElem? hi);have cj:=hc oj (List.mem_of_getElem? hoj);obtain⟨a1,a2,a3⟩:=apart_spec f1;have gi:∀v,Agree oi.op.vas (e.put oj.dst v) e∧∀c,gOf oi (e.put oj.dst v) c↔gOf oi e c:=fun v=>Zjn a2;have gj:∀v,Agree oj.op.vas (e.put oi.dst v) e∧∀c,gOf oj (e.put oi.dst v) c↔gOf oj e c:=fun v=>Zjn a1;obtain⟨c,c1,v',c2,c3⟩:=(Zca f2).1 (H.2 j (ready_mono hj hji) oj hoj);refine(Zca f2).2 ⟨c,((gj v0).2 c).1 c1,v',fun hh=>by have:=c2 hh;rw[Zcf cj (gj v0).1]at this;exact this,?_⟩;have hfree':∀(k:Nat) (ok:VOper) (gok:Oper),q[k]?=some ok→ops[k]?=some gok→k≠i→(listed.setIfInBounds j true).getD k true=false→¬Bh ops (listed.setIfInBounds j true) i k→oi.apart ok=true∧k∉E:=fun k ok gok hk hgk hki hun hno=>by
    refine hfree k ok gok hk hgk hki ?_ (fun hb=>hno (Z6z hbr hb));by_cases hjk:j=k
    ·subst hjk;exact hjun
    ·rw[getD_set_ne true hjk]at hun;exact hun
   refine ih (listed.setIfInBounds j true) _ h hfree' (ready_mono hr (Ne.symm hji)) (fun K' k=>by rw[Zeu ci (gi _).1];exact back K' k) hz ?_;rw[Array.setIfInBounds_comm _ _ hji];exact Zg1.inv hK hc fuel _ _ _ _ (Zjo e _ _ a3) c3
def Zlk(P:Program)(hqf:Nat→Heap)(Z:Nat→Heap→Heap→Prop)(cs:List Nat):Nat→List VOper→(Env→Heap→Prop)→Env→Heap→Prop
 |_,[],K,e,h=>K e h
 | k,o::r,K,e,h=>match cs.contains k with
  |true=>∃v0 h0,(∀K':PV→Heap→Prop,K' v0 h0→Zau P e h o.op K')∧Z k h h0∧Zlk P hqf Z cs (k+1) r K (e.put o.dst v0) h0
  | false=>match o.op.simple,o.guard with
   |true,none=>Zau P e h o.op (fun v h'=>Z k h h'∧Zlk P hqf Z cs (k+1) r K (e.put o.dst v) h')
   |true,some _=>False
   |false,none=>QW P (hqf k) e o.op true (fun v=>Zlk P hqf Z cs (k+1) r K (e.put o.dst v) h)
   |false,some (d,want)=>(match guardOf want (e.get d)with
    |some b=>QW P (hqf k) e o.op b (fun v=>Zlk P hqf Z cs (k+1) r K (e.put o.dst v) h)
    |none=>False)
def Xe7(q:List VOper)(cs:List Nat)(k:Nat):Bool:=cs.contains k||Z22 q k
def Z1v(ord:Nat→Nat→Bool)(q:List VOper)(late:List Bool):List Nat→Bool
 |a::b::r=>(match q[a]?,q[b]? with|some x,some y=>(!x.apart y||(x.op.simple&&y.op.simple)||(late.getD a false&&y.op.writes)||ord a b)&&decide (a<b)|_,_=>false)&&Z1v ord q late (b::r)
 |_=>true
def Zqz(ord:Nat→Nat→Bool)(q:List VOper)(late:List Bool)(cs:List Nat):Bool:=cs.all (fun c=>match q[c]? with|some x=>x.guard.isNone && !x.op.simple|none=>false)&&Z1v ord q late ((List.range q.length).filter (Xe7 q cs))
def Lst(n:Nat):Nat→Array Bool
 |0=>Array.replicate n false
 |k+1=>(Lst n k).setIfInBounds k true
theorem Zm8(n:Nat):∀k,(Lst n k).size=n
 |0=>by simp[Lst]
 |k+1=>by simp[Lst,Zm8 n k]
theorem Zhg(n:Nat):∀(k j:Nat),j<n→(Lst n k).getD j true=decide (j<k)
 |0,j,hj=>by simp[Lst,Array.getD,hj]
 |k+1,j,hj=>by
  have ih:=Zhg n k j hj;by_cases e:k=j
  ·subst e;have hs:=Zm8 n k;simp[Lst,Array.getD,hs,hj]
  ·show((Lst n k).setIfInBounds k true).getD j true=_;rw[getD_set_ne true e,ih];exact decide_eq_decide.2 (by omega)
theorem Xcq{n k j:Nat}(h:(Lst n k).getD j true=false):k≤j∧j<n:=by
 rcases Nat.lt_or_ge j n with hj|hj
 ·rw[Zhg n k j hj]at h;have h:=oF h;exact⟨by omega,hj⟩
 ·have:=Zm8 n k;simp[Array.getD,this,Nat.not_lt.2 hj]at h
theorem Zuw:∀(n k:Nat),Zej ops q n k (Lst ops.size k)=true→∀i,i<n→(Region.ready .any ops (Lst ops.size (k+i))).contains (k+i)=true∧Zpn ops q (Lst ops.size (k+i)) (k+i)=true
 |0,_,_,i,hi=>absurd hi (Nat.not_lt_zero _)
 | n+1,k,h,i,hi=>by
  simp only[Zej,Zx4]at h;obtain⟨⟨⟨h1,h2⟩,_⟩,h4⟩:=h;cases i with
  |zero=>exact⟨h1,h2⟩
  |succ i=>
   have:=Zuw n (k+1) h4 i (by omega);rw[show k+(i+1)=k+1+i by omega];exact this
theorem Zux:∀(n k:Nat),Zej ops q n k (Lst ops.size k)=true→(Region.ready .any ops (Lst ops.size (k+n))).isEmpty=true
 |0,_,h=>h
 |n+1,k,h=>by
  simp only[Zej,Zx4]at h;have:=Zux n (k+1) h.2;rw[show k+(n+1)=k+1+n by omega];exact this
theorem Zll{listed:Array Bool}{k j:Nat}{x y:VOper}(hf:Zpn ops q listed k=true)(hj:j<ops.size)(hjk:j≠k)(hun:listed.getD j true=false)(hx:q[k]?=some x)(hy:q[j]?=some y):
  Bh ops listed k j∨(x.apart y=true∧(x.op.simple=false∨y.op.simple=false)∧(x.op.simple=false∨y.op.det=true)):=by
 simp only[Zpn,List.all_eq_true,List.mem_range]at hf;have hfj:=hf j hj;rw[hx,hy,hun]at hfj;simp only[Bool.or_eq_true,beq_iff_eq,Zx4,Bool.not_eq_true',Bool.and_eq_false_iff,Zyu,or_false]at hfj;rcases hfj with(hfj|hfj)|hfj
 ·exact absurd hfj hjk
 ·exact .inl (Zh3 hfj)
 ·exact .inr ⟨hfj.1.1,hfj.1.2,hfj.2⟩
theorem Bh_up(hR:∀k,k<ops.size→(Region.ready .any ops (Lst ops.size k)).contains k=true){a j:Nat}(hj:j<ops.size)(h:Bh ops (Lst ops.size 0) a j):a<j∧Bh ops (Lst ops.size a) a j:=by
 have key:∀(j:Nat),j<ops.size→∀(o:Oper) (x:Edge),ops[j]?=some o→x∈o.after→Region.binds .any x=true→x.on<j:=by
  intro j hj o x ho hx hb;have hr:=hR j hj;have hr':j∈Region.ready .any ops (Lst ops.size j):=by simpa using hr
  obtain⟨_,goj,hgoj,hall⟩:=mem_ready.1 hr';rw[ho]at hgoj;simp only[Zx0]at hgoj;subst hgoj;have h1:=hall x hx hb;have hsz:=Zm8 ops.size j;have h2:x.on<ops.size:=by
   rcases Nat.lt_or_ge x.on ops.size with h'|h'
   ·exact h'
   ·simp[Array.getD,hsz,Nat.not_lt.2 h']at h1
  have h3:=Zhg ops.size j x.on h2;have h4:(Lst ops.size j).getD x.on true=(Lst ops.size j).getD x.on false:=by simp[Array.getD,hsz,h2]
  rw[h4,h1]at h3
  simpa using h3.symm
 induction h with
 |edge ho hx hb he=>
  have:=key _ hj _ _ ho hx hb;exact⟨by omega,.edge ho hx hb he⟩
 |step ho hx hb hu _ ih=>
  have h1:=key _ hj _ _ ho hx hb;obtain⟨i1,i2⟩:=ih (by omega);exact⟨by omega,.step ho hx hb (by rw[Zhg _ _ _ (by omega)];exact Vf) i2⟩
theorem Zq0(hF:∀k,k<ops.size→Zpn ops q (Lst ops.size k) k=true)(hR:∀k,k<ops.size→(Region.ready .any ops (Lst ops.size k)).contains k=true)(late:List Bool)(hlate:∀i,late.getD i false=true→∀j,Za2 q j=true→Zaz ops (Array.replicate ops.size false) ops.size i j=true)(ord:Nat→Nat→Bool)(hord:∀a b,ord a b=true→Zaz ops (Array.replicate ops.size false) ops.size a b=true):∀L:List Nat,Z1v ord q late L=true→(∀x∈L,x<ops.size)→L.Pairwise fun a b=>Bh ops (Lst ops.size a) a b∧a<b
 | [],_,_=>.nil
 | [a],_,_=>List.pairwise_singleton _ _
 | a::b::r,h,hl=>by
  simp only[Z1v,Zx4]at h;obtain⟨h1,h2⟩:=h;have ih:=Zq0 hF hR late hlate ord hord (b::r) h2 fun x hx=>hl x (Zx7 _ hx);have ha:=hl a (by simp);have hb:=hl b (by simp);have hab:Bh ops (Lst ops.size a) a b∧a<b:=by
   split at h1
   ·rename_i x y hx hy;simp only[Zx4,Bool.or_eq_true,Bool.not_eq_true',Zx3]at h1;refine⟨?_,h1.2⟩;rcases h1.1 with((h4|h4)|h4)|h4
    ·rcases Zll (hF a ha) hb (by omega) (by rw[Zhg _ _ _ hb];exact Vf) hx hy with h3|h3
     ·exact h3
     ·rw[h4]at h3;cases h3.1
    ·rcases Zll (hF a ha) hb (by omega) (by rw[Zhg _ _ _ hb];exact Vf) hx hy with h3|h3
     ·exact h3
     ·rcases h3.2.1 with h5|h5
      ·rw[h4.1]at h5;cases h5
      ·rw[h4.2]at h5;cases h5
    ·have hwb:Za2 q b=true:=by unfold Za2;rw[hy];exact h4.2
     exact(Bh_up hR hb (Zh3 (hlate a h4.1 b hwb))).2
    ·exact(Bh_up hR hb (Zh3 (hord a b h4))).2
   ·cases h1
  refine List.pairwise_cons.2 ⟨fun y hy=>?_,ih⟩;rcases List.mem_cons.1 hy with rfl|hy
  ·exact hab
  ·have hby:=(List.pairwise_cons.1 ih).1 y hy;exact⟨Xap (fun x hx=>by have:=Xcq hx;rw[Zhg _ _ _ this.2];exact Vf) (by rw[Zhg _ _ _ hb];exact Vf) hab.1 hby.1,by omega⟩
theorem Z3m{cs:List Nat}{late:List Bool}{ord:Nat→Nat→Bool}(hord:∀a b,ord a b=true→Zaz ops (Array.replicate ops.size false) ops.size a b=true)(hck:Zqz ord q late cs=true)(hlate:∀i,late.getD i false=true→∀j,Za2 q j=true→Zaz ops (Array.replicate ops.size false) ops.size i j=true){K:Env→Heap→Prop}(hK:Inv K)(hlen:ops.size=q.length)(hB:Zej ops q q.length 0 (Lst ops.size 0)=true)(hc:∀o∈q,o.op.closed=true):∀(l:List VOper) (k:Nat) (e:Env) (h:Heap),(∀j,l[j]?=q[k+j]?)→k+l.length=q.length→
  Zlk P hqf Z cs k l K e h→Zg1 P ops q hqf Z (cs++Zbv q) K l.length (Lst ops.size k) e h:=by
 have hall:=Zuw q.length 0 hB;simp only[Nat.zero_add]at hall;have hF:∀k,k<ops.size→Zpn ops q (Lst ops.size k) k=true:=fun k hk=>(hall k (by omega)).2;unfold Zqz at hck;rw[Zx4]at hck;obtain⟨hcs,hch⟩:=hck;have hpair:=Zq0 hF (fun k hk=>(hall k (by omega)).1) late hlate ord hord _ hch (fun x hx=>by have:=(List.mem_filter.1 hx).1;rw[List.mem_range]at this;omega);have hE:∀k,k∈cs++Zbv q↔k<q.length∧Xe7 q cs k=true:=by
  intro k;unfold Xe7;rw[List.mem_append,Bool.or_eq_true,Zbv,List.mem_filter,List.mem_range,List.contains_iff_mem];constructor
  ·rintro(h1|h1)
   ·refine⟨?_,.inl h1⟩;have:=List.all_eq_true.1 hcs k h1;split at this
    ·rename_i x hx;exact(List.getElem?_eq_some_iff.1 hx).1
    ·cases this
   ·exact⟨h1.1,.inr h1.2⟩
  ·rintro⟨h1,h2|h2⟩
   ·exact .inl h2
   ·exact .inr ⟨h1,h2⟩
 have hBh:∀a b,a∈cs++Zbv q→b∈cs++Zbv q→a<b→Bh ops (Lst ops.size a) a b:=by
  intro a b ha hb hab;have ma:a∈(List.range q.length).filter (Xe7 q cs):=List.mem_filter.2 ⟨List.mem_range.2 ((hE a).1 ha).1,((hE a).1 ha).2⟩;have mb:b∈(List.range q.length).filter (Xe7 q cs):=List.mem_filter.2 ⟨List.mem_range.2 ((hE b).1 hb).1,((hE b).1 hb).2⟩;obtain⟨i,hi,rfl⟩:=List.mem_iff_getElem.1 ma;obtain⟨j,hj,rfl⟩:=List.mem_iff_getElem.1 mb;rcases Nat.lt_trichotomy i j with h1|h1|h1
  ·exact(List.pairwise_iff_getElem.1 hpair i j hi hj h1).1
  ·subst h1;omega
  ·have:=(List.pairwise_iff_getElem.1 hpair j i hj hi h1).2;omega
 intro l
 induction l with
 |nil=>
  intro k e h hl hk H;have:=Zux q.length 0 hB;rw[Nat.zero_add]at this;simp only[Zyn,Nat.add_zero]at hk;refine⟨?_,H⟩;rw[hk];simpa using this
 | cons o l ih=>
  intro k e h hl hk H;have h0:q[k]?=some o:=by simpa using(hl 0).symm
  have hkl:k<q.length:=(List.getElem?_eq_some_iff.1 h0).1;have hl':∀j,l[j]?=q[(k+1)+j]?:=fun j=>by have:=hl (j+1);simpa[Nat.add_assoc,Nat.add_comm 1 j]using this
  obtain⟨hr,hf⟩:=hall k hkl;have hr':k∈Region.ready .any ops (Lst ops.size k):=by simpa using hr
  have ih':∀e' h',Zlk P hqf Z cs (k+1) l K e' h'→Zg1 P ops q hqf Z (cs++Zbv q) K l.length ((Lst ops.size k).setIfInBounds k true) e' h':=
   fun e' h' H'=>ih (k+1) e' h' hl' (by simp only[Zyd]at hk;omega) H'
  have pair:∀(j:Nat) (oj:VOper) (goj:Oper),q[j]?=some oj→ops[j]?=some goj→j≠k→(Lst ops.size k).getD j true=false→ ¬Bh ops (Lst ops.size k) k j→
    o.apart oj=true∧(o.op.simple=false∨oj.op.det=true)∧¬(k∈cs++Zbv q∧j∈cs++Zbv q):=by
   intro j oj goj hj hgj hjk hun hno;have hu:=Xcq hun;rcases Zll hf hu.2 hjk hun h0 hj with h1|h1
   ·exact absurd h1 hno
   ·exact⟨h1.1,h1.2.2,fun⟨x1,x2⟩=>hno (hBh k j x1 x2 (by omega))⟩
  have hsim:∀k',cs.contains k'=false→q[k']?=some o→(k'∈cs++Zbv q↔o.op.simple=true):=by
   intro k' hk' hq';rw[hE];unfold Xe7;rw[hk',Bool.false_or,Z22,hq'];exact⟨fun h=>h.2,fun h=>⟨(List.getElem?_eq_some_iff.1 hq').1,h⟩⟩
  simp only[Zlk]at H;split at H
  ·rename_i hkc;obtain⟨v0,h1,back,hz,H'⟩:=H;have hm:k∈cs:=by simpa using hkc
   have hg:=List.all_eq_true.1 hcs k hm;rw[h0]at hg;simp only[Zx4,Option.isNone_iff_eq_none]at hg;have hkE:k∈cs++Zbv q:=List.mem_append.2 (.inl hm);exact Zg1.firstS hK hc h0 hkE hg.1 l.length (Lst ops.size k) e h (fun j oj goj hj hgj hjk hun hno=>⟨(pair j oj goj hj hgj hjk hun hno).1,fun hjE=>(pair j oj goj hj hgj hjk hun hno).2.2 ⟨hkE,hjE⟩⟩) hr' back hz (ih' _ _ H')
  ·rename_i hkc;have hs1:=hsim k hkc h0;refine Zg1.firstB hK hc hlen h0 l.length (Lst ops.size k) e h (fun j oj goj hj hgj hjk hun hno=>?_) hr' ?_
   ·obtain⟨p1,p2,p3⟩:=pair j oj goj hj hgj hjk hun hno;refine⟨p1,p3,fun hkE=>?_⟩;have s1:=hs1.1 hkE;refine⟨s1,?_⟩;rcases p2 with p2|p2
    ·rw[s1]at p2;cases p2
    ·rw[p2];rfl
   ·have hq2:∀b,gOf o e b→QW P (hqf k) e o.op b (fun v=>Zlk P hqf Z cs (k+1) l K (e.put o.dst v) h)→o.op.simple=false→Zc5 P hqf Z (cs++Zbv q) k o e h (Zg1 P ops q hqf Z (cs++Zbv q) K l.length ((Lst ops.size k).setIfInBounds k true)):=by
     intro b hg hQ hs;have hnE:k∉cs++Zbv q:=fun hh=>by rw[hs1.1 hh]at hs;cases hs
     refine(Zca hnE).2 ⟨b,hg,?_⟩;unfold QW at hQ;split at hQ
     ·rename_i hd;exact⟨_,fun hh=>Znt hd (hQ.1 hh),ih' _ _ hQ.2⟩
     ·obtain⟨v,v1,v2⟩:=hQ;exact⟨v,v1,ih' _ _ v2⟩
    split at H
    ·rename_i hs hg;exact(Zcg (hs1.2 hs)).2 ⟨hg,H.mono fun v h' kk=>⟨kk.1,ih' _ _ kk.2⟩⟩
    ·exact H.elim
    ·rename_i hs hg;exact hq2 true (by simp[gOf,hg]) H hs
    ·rename_i hs hg;split at H
     ·rename_i b hgc;exact hq2 b (by simp[gOf,hg,hgc]) H hs
     ·exact H.elim
def Zd9(P:Program)(big small:Heap)(late:List Bool)(cs:List Nat):Nat→List VOper→(Env→Heap→Prop)→Env→Heap→Prop
 |_,[],K,e,h=>K e h
 | k,o::r,K,e,h=>match cs.contains k with
  |true=>∃v0 h0,(∀K':PV→Heap→Prop,K' v0 h0→Zau P e h o.op K')∧small.le h0∧big.le h0∧Zd9 P big small late cs (k+1) r K (e.put o.dst v0) h0
  | false=>match o.op.simple,o.guard with
   |true,none=>Zau P e h o.op (fun v h'=>small.le h'∧(o.op.writes=false→big.le h')∧Zd9 P big small late cs (k+1) r K (e.put o.dst v) h')
   |true,some _=>False
   |false,none=>QW P (if late.getD k false=true then big else small) e o.op true (fun v=>Zd9 P big small late cs (k+1) r K (e.put o.dst v) h)
   |false,some (d,want)=>(match guardOf want (e.get d)with
    |some b=>QW P (if late.getD k false=true then big else small) e o.op b (fun v=>Zd9 P big small late cs (k+1) r K (e.put o.dst v) h)
    |none=>False)
theorem Zoh{s h:Heap}(hl:s.le h):Shp s h:=fun id fz z es hg=>⟨fz,es,Heap.le_get hl _ _ hg⟩
theorem QW.monoX{e:Env}{hq:Heap}{op:VOp}{c:Bool}{K K':PV→Prop}(hk:∀v,K v→K' v)(H:QW P hq e op c K):QW P hq e op c K':=by
 unfold QW at*;split
 ·rename_i hd;rw[hd]at H;exact⟨H.1,hk _ H.2⟩
 ·rename_i hd;rw[hd]at H;obtain⟨v,h1,h2⟩:=H;exact⟨v,h1,hk _ h2⟩
theorem Zd9.toX{big small:Heap}{late:List Bool}{cs:List Nat}{K:Env→Heap→Prop}:∀(l:List VOper) (k:Nat) (e:Env) (h:Heap),(∀j,l[j]?=q[k+j]?)→Zd9 P big small late cs k l K e h→Zlk P (hq3 q late big small small) (Xe6 q big small small) cs k l K e h
 | [],_,_,_,_,H=>H
 | o::r,k,e,h,hl,H=>by
  have h0:q[k]?=some o:=by simpa using(hl 0).symm
  have hl':∀j,r[j]?=q[(k+1)+j]?:=fun j=>by have:=hl (j+1);simpa[Nat.add_assoc,Nat.add_comm 1 j]using this
  have ih:=fun e h=>Zd9.toX (big:=big) (small:=small) (late:=late) (cs:=cs) (K:=K) r (k+1) e h hl';have hh:hq3 q late big small small k=if late.getD k false=true then big else small:=by
   unfold hq3;split
   ·rfl
   ·simp only[ite_self]
  cases hc:cs.contains k with
  |true=>
   simp only[Zd9,hc]at H;simp only[Zlk,hc];obtain⟨v0,h1,back,z1,z2,H⟩:=H;exact⟨v0,h1,back,⟨z1,fun _ _=>z2,fun _=>Zoh z1⟩,ih _ _ H⟩
  | false=>
   cases hs:o.op.simple with
   | true=>
    cases hg:o.guard with
    |none=>
     simp only[Zd9,hc,hs,hg]at H;simp only[Zlk,hc,hs,hg];refine H.mono fun v h' ⟨z1,z2,k'⟩=>⟨⟨z1,fun hw _=>z2 ?_,fun _=>Zoh z1⟩,ih _ _ k'⟩;unfold Za2 at hw;rw[h0]at hw;exact hw
    |some dw=>simp only[Zd9,hc,hs,hg]at H
   | false=>
    cases hg:o.guard with
    |none=>
     simp only[Zd9,hc,hs,hg]at H;simp only[Zlk,hc,hs,hg,hh];exact QW.monoX (fun v k'=>ih _ _ k') H
    | some dw=>
     obtain⟨d,want⟩:=dw;simp only[Zd9,hc,hs,hg]at H;simp only[Zlk,hc,hs,hg,hh];cases hgc:guardOf want (e.get d)with
     |none=>rw[hgc]at H;exact H.elim
     |some c=>
      rw[hgc]at H;exact QW.monoX (fun v k'=>ih _ _ k') H
theorem Zfy{big small:Heap}{late:List Bool}{cs:List Nat}{k:Nat}{K:Env→Heap→Prop}{e:Env}{h:Heap}:Zd9 P big small late cs k [] K e h=K e h:=rfl
theorem Zh4{big small:Heap}{late:List Bool}{cs:List Nat}{k:Nat}{dst:Option Nat}{op:VOp}{gd:Option (Nat×Bool)}{r:List VOper}{K:Env→Heap→Prop}{e:Env}{h:Heap}(hk:cs.contains k=true):Zd9 P big small late cs k (⟨dst,op,gd⟩::r) K e h=∃v0 h0,(∀K':PV→Heap→Prop,K' v0 h0→Zau P e h op K')∧small.le h0∧big.le h0∧Zd9 P big small late cs (k+1) r K (e.put dst v0) h0:=by
 simp only[Zd9,hk]
theorem Zlm{big small:Heap}{late:List Bool}{cs:List Nat}{k:Nat}{dst:Option Nat}{op:VOp}{r:List VOper}{K:Env→Heap→Prop}{e:Env}{h:Heap}(hk:cs.contains k=false):Zd9 P big small late cs k (⟨dst,op,none⟩::r) K e h=(match op.simple with
  |true=>Zau P e h op (fun v h'=>small.le h'∧(op.writes=false→big.le h')∧Zd9 P big small late cs (k+1) r K (e.put dst v) h')
  |false=>QW P (if late.getD k false=true then big else small) e op true (fun v=>Zd9 P big small late cs (k+1) r K (e.put dst v) h)):=by
 cases hs:op.simple<;>simp only[Zd9,hk,hs]
theorem Zma{ops:Array Oper}{late:List Bool}(hlen:ops.size=q.length)(h6:late=Zr7 ops q):∀i,late.getD i false=true→∀j,Za2 q j=true→Zaz ops (Array.replicate ops.size false) ops.size i j=true:=by
 intro i hi j hj;rw[h6]at hi;have hjl:j<ops.size:=by
  unfold Za2 at hj;split at hj
  ·rename_i o ho;have:=(List.getElem?_eq_some_iff.1 ho).1;omega
  ·cases hj
 simp only[Zr7,Zx1,List.getElem?_map]at hi;cases hr:(List.range ops.size)[i]? with
 |none=>rw[hr]at hi;simp at hi
 | some k=>
  rw[hr]at hi;have hk:k=i:=by
   obtain⟨_,h9⟩:=List.getElem?_eq_some_iff.1 hr
   simpa using h9.symm
  subst hk;simp only[Zys,Option.getD_some,Z97,List.all_eq_true,List.mem_range]at hi;have:=hi j hjl
  simpa[hj]using this
theorem Z1w{Q:Exit→Env→Heap→Prop}{e:Env}{h:Heap}{late:List Bool}{id:Nat}{ops:Array Oper}(ord:Nat→Nat→Bool)(hord:∀a b,ord a b=true→Zaz ops (Array.replicate ops.size false) ops.size a b=true)
  (hlate:∀i,late.getD i false=true→∀j,Za2 q j=true→Zaz ops (Array.replicate ops.size false) ops.size i j=true)(hmm:P.follows .mixedOrders=true)(h3:Zcr P N.n ops ops.toList=some q)(hB:Zej ops q ops.size 0 (Array.replicate ops.size false)=true)
  (cs:List Nat)(l:List Nat)(big small:Heap)(hck:Zqz ord q late cs=true)(hl:big.le h)(hls:small.le h)
  (HY:Zd9 P big small late cs 0 q (fun e' h'=>Q .normal (Env.keep l e') h') e h):AW P N (.region id ops true) Q e h:=by
 obtain⟨mid,hmid⟩:∃mid,mid=small:=⟨_,rfl⟩;have hm:Shp mid h:=by rw[hmid];exact Zoh hls
 have H:=Zd9.toX (q:=q) q 0 e h (fun j=>by simp) HY;rw[show Xe6 q big small small=Xe6 q big mid small by rw[hmid],show hq3 q late big small small=hq3 q late big mid small by rw[hmid]]at H;have hm0:=hm;obtain⟨hlen,_⟩:=Zb2 h3;rw[Array.length_toList]at hlen;have hcl:∀o∈q,o.op.closed=true:=by
  cases q with
  |nil=>intro o ho;cases ho
  |cons x xs=>
   rw[hlen]at hB;simp only[Zyd,Zej,Zx4]at hB;exact fun o ho=>List.all_eq_true.1 hB.1.2 o ho
 intro g w a r he hd hs;refine wpIn_region_any hmm ?_;have hany:=Z3m (P:=P) (q:=q) (ops:=ops) (hqf:=hq3 q late big mid small) (Z:=Xe6 q big mid small) hord hck hlate (K:=fun e' h'=>Q .normal (Env.keep l e') h') (fun e1 e2 h1 hee hk=>by have hk':Q .normal (Env.keep l e1) h1:=hk;rw[Zjp hee l]at hk';exact hk') hlen (by rw[←hlen];exact hB) hcl q 0 e h (fun j=>by simp) (by simp) H;rw[show Lst ops.size 0=Array.replicate ops.size false from rfl]at hany;rw[←hlen]at hany;have hset:∀(listed:Array Bool) (i j:Nat),(listed.setIfInBounds i true).getD j true=false→listed.getD j true=false∧i≠j:=by
  intro listed i j hj;by_cases hij:i=j
  ·subst hij;rcases Nat.lt_or_ge i listed.size with h'|h'
   ·simp[Array.getD,h']at hj
   ·simp[Array.getD,Nat.not_lt.2 h']at hj
  ·rw[getD_set_ne true hij]at hj;exact⟨hj,hij⟩
 have hdown:∀(listed:Array Bool) (i:Nat),i∈Region.ready .any ops listed→(∀(j:Nat) (o:Oper),listed[j]?=some true→ops[j]?=some o→ ∀x∈o.after,Region.binds .any x=true→listed[x.on]?=some true)→
   ∀(j:Nat) (o:Oper),(listed.setIfInBounds i true)[j]?=some true→ops[j]?=some o→∀x∈o.after,Region.binds .any x=true→(listed.setIfInBounds i true)[x.on]?=some true:=by
  intro listed i hi i2 j o hj ho x hx hb;have keep:∀(k:Nat),listed[k]?=some true→(listed.setIfInBounds i true)[k]?=some true:=by
   intro k hk;rw[Array.getElem?_setIfInBounds];split
   ·rename_i hik;subst hik;have:=(Array.getElem?_eq_some_iff.1 hk).1;simp[this]
   ·exact hk
  by_cases hij:i=j
  ·subst hij;obtain⟨_,o',ho',hall⟩:=mem_ready.1 hi;rw[ho]at ho';simp only[Zx0]at ho';subst ho';refine keep _ ?_;have h8:=hall x hx hb;rcases Nat.lt_or_ge x.on listed.size with h7|h7
   ·simp[Array.getD,h7]at h8;simp[h7,h8]
   ·simp[Array.getD,Nat.not_lt.2 h7]at h8
  ·rw[Array.getElem?_setIfInBounds_ne hij]at hj;exact keep _ (i2 j o hj ho x hx hb)
 refine Zfq (N:=N) h3 (fun listed h=>(small.le h∧listed.size=ops.size)∧(∀(j:Nat) (o:Oper),listed[j]?=some true→ops[j]?=some o→∀x∈o.after,Region.binds .any x=true→listed[x.on]?=some true)∧((∀j,Za2 q j=true→listed.getD j true=false)→big.le h)∧Shp mid h) ?_ ?_ ?_ (Q:=fun x a' w'=>∃g' e' h',Q x e' h'∧Rel g' w' h'∧Zas g' a' e'∧N.dok x a'.defers h'∧a'.tmps.size=N.n∧Evo g w h g' w' h') (g0:=g) (w0:=w) (h0:=h)
  (fun g' w' h' a' e' k1 k2 k3 k4 k5 k6=>⟨g',_,h',k1,k2,k3.keep l,k4,k5,k6⟩) _ _ e h hany ⟨⟨hls,by simp⟩,fun j o hj=>by(simp[Array.getElem?_replicate]at hj),fun _=>hl,hm0⟩ g _ a (r.drew _) he hd hs (Evo.drew _ _ _ _)
 ·rintro listed h' i vo ⟨⟨i1,i0⟩,i2,i3,i4⟩ hi _ hvo;simp only[hq3,hvo];split
  ·rename_i hli;refine .inl (i3 fun j hj=>?_);have hb:=hlate i hli j hj;have hi0:=(mem_ready.1 hi).1;have hjl':j<ops.size:=by
    unfold Za2 at hj;split at hj
    ·rename_i o ho;have:=(List.getElem?_eq_some_iff.1 ho).1;omega
    ·cases hj
   cases hjl:listed.getD j true with
   |false=>rfl
   | true=>
    exfalso
    have hjs:listed[j]?=some true:=by
     have h7:j<listed.size:=by omega
     simp[Array.getD,h7]at hjl;simp[h7,hjl]
    have:=Zek i2 ops.size j hb hjs;rcases Nat.lt_or_ge i listed.size with h7|h7
    ·simp[Array.getD,h7]at hi0;simp[h7,hi0]at this
    ·simp[Array.getElem?_eq_none h7]at this
  ·split
   ·rename_i hia;exact .inr ⟨hia,i4⟩
   ·exact .inl i1
 ·rintro listed h' i ⟨⟨i1,i0⟩,i2,i3,i4⟩ hi _;exact⟨⟨i1,by simpa using i0⟩,hdown listed i hi i2,(fun hw=>i3 fun j hj=>(hset listed i j (hw j hj)).1),i4⟩
 ·rintro listed h' i h'' ⟨⟨i1,i0⟩,i2,i3,i4⟩ hi _ ⟨z1,z2,z3⟩;refine⟨⟨z1,by simpa using i0⟩,hdown listed i hi i2,(fun hw=>?_),z3 i4⟩;refine z2 ?_ (i3 fun j hj=>(hset listed i j (hw j hj)).1);cases hwi:Za2 q i with
  |false=>rfl
  |true=>exact absurd rfl (hset listed i i (hw i hwi)).2
theorem Zoi{Q:Exit→Env→Heap→Prop}{e:Env}{h:Heap}{late:List Bool}(cs:List Nat)(l:List Nat)(big small:Heap)(hck:Zqz (fun _ _=>false) q late cs=true)(hl:big.le h)(hls:small.le h)
  (HY:Zd9 P big small late cs 0 q (fun e' h'=>Q .normal (Env.keep l e') h') e h):VW P N (.draw2 q late) Q e h:=by
 intro c hc;cases c
 case region id ops draw=>
  obtain⟨p,h3,h'|h'|h'⟩:=Zb7 hc
  ·obtain⟨_,h'⟩:=h';cases h'
  ·obtain⟨hd,hB,h'|h'⟩:=h'
   ·obtain⟨_,h'⟩:=h';cases h'
   ·simp only[VC.draw2.injEq]at h';obtain⟨h5,h6⟩:=h';subst h5;subst hd;simp only[Zx4]at hB;obtain⟨hmm,hB⟩:=hB;have hlen:ops.size=q.length:=by
     have:=(Zb2 h3).1
     rwa [Array.length_toList]at this
    exact Z1w (fun _ _=>false) (fun _ _ h=>by cases h) (Zma hlen h6) hmm h3 hB cs l big small hck hl hls HY
  ·obtain⟨c,h'⟩:=h';cases h'
 all_goals
  simp only[Zb1,Option.map_eq_some_iff]at hc
  first
  |(simp at hc;done)
  |(split at hc<;>simp at hc)
theorem Xaq{Q:Exit→Env→Heap→Prop}{e:Env}{h:Heap}{id:Nat}{ops:Array Oper}(hmm:P.follows .mixedOrders=true)(h3:Zcr P N.n ops ops.toList=some q)(hB:Zej ops q ops.size 0 (Array.replicate ops.size false)=true)
  (cs:List Nat)(l:List Nat)(big small:Heap)(hck:Zqz (Zaz ops (Array.replicate ops.size false) ops.size) q (Zr7 ops q) cs=true)(hl:big.le h)(hls:small.le h)
  (HY:Zd9 P big small (Zr7 ops q) cs 0 q (fun e' h'=>Q .normal (Env.keep l e') h') e h):AW P N (.region id ops true) Q e h:=
 Z1w (Zaz ops (Array.replicate ops.size false) ops.size) (fun _ _ h=>h) (Zma (by have:=(Zb2 h3).1;rwa [Array.length_toList]at this) rfl) hmm h3 hB cs l big small hck hl hls HY
end
theorem Zam.own0{P:Program}{f:FuncId}{args:List PV}{h:Heap}{K:PV→Heap→Prop}(z:Nat)(H:Zam P f args h (fun p h'=>(p=.nilsl∧∃h0:Heap,h0.le h'∧K (.own h0.top 0 0) (h0.push (.arr false z [])))∨K p h')):Zam P f args h K:=by
 refine⟨H.1,fun g w vals r ha=>(H.2 g w vals r ha).mono ?_⟩;rintro x w' ⟨v,p,g',h',rfl,hk,rep,r',ev⟩;rcases hk with⟨rfl,h0,hl,hk⟩|hk
 ·obtain⟨r1,r2⟩:=(r'.weaken hl).none none z w' rfl rfl rfl rfl;refine⟨v,_,g',_,rfl,hk,?_,r1,(ev.weakenR hl).trans r2⟩;cases rep;exact .ownE _ _ _
 ·exact⟨v,p,g',h',rfl,hk,rep,r',ev⟩
variable {P:Program}
def AY(P:Program)(l:Nat)(args:List PV)(h:Heap)(K:PV→Heap→Prop):Prop:=
 ∀ g w (vals:Array Value),Rel g w h→Zm0 g vals args→
  ∃fn tmps assign body,(Instr.yield l vals).run P w=.ok (.round l fn tmps assign body) w∧
   RoundIn (fw none) 8 P l fn tmps assign body w (fun x w'=>∃v p g' h',x=.returned v∧K p h'∧Rep g' v p∧Rel g' w' h'∧Evo g w h g' w' h')
theorem AY.mono{l:Nat}{args:List PV}{h:Heap}{K K':PV→Heap→Prop}(H:AY P l args h K)(hk:∀p h',K p h'→K' p h'):AY P l args h K':=by
 intro g w vals r ha;obtain⟨fn,tmps,asg,body,h1,h2⟩:=H g w vals r ha;exact⟨fn,tmps,asg,body,h1,h2.mono fun x w' ⟨v,p,g',h',k1,k2,k⟩=>⟨v,p,g',h',k1,hk _ _ k2,k⟩⟩
theorem Z60{o:Oper}{e:Env}{h:Heap}{K:PV→Heap→Prop}{x:Operand}{va:VA}{as:Array Operand}{ats:Array TypeId}{vas:List VA}{l:Nat}(ho:o.op=.call { callee:=.value x,args:=as,argTypes:=ats })(hx:cA x=some va)(hv:va.ev e=.fn (.yield l) [] [])(has:cAs as.toList=some vas)
    (H:AY P l (vas.map (·.ev e)) h K):OpS P o e h K:=by
  intro g w a next Q r he hn
  have hf:=Zat he hx;rw[hv]at hf;obtain⟨fs,cs,hval,a1,a2⟩:=hf.fn_inv;have hfs:fs=#[]:=Array.size_eq_zero_iff.1 (by simpa using a1.1);have hcs:cs=#[]:=Array.size_eq_zero_iff.1 (by simpa using a2.1);subst hfs hcs;have ha:=Zr6 he has;obtain⟨fn,tmps,asg,body,hrun,hR⟩:=H g w _ r ha;have hr2:(execOp a.eval o).run P w=.ok (.round l fn tmps asg body) w:=by
    simp[execOp,ho,resolve,hval,Deferred.ofValue,invoke,Sem.run_bind,Result.andThen,hrun]
  rw[hr2];refine⟨fun k=>by simp[fw]at k,hR.mono ?_⟩;rintro x w' ⟨v,p,g',h',rfl,h1,h2,h3,h4⟩;exact hn v p g' w' h' h1 h2 h3 h4
def Z61:List Nat→List PV→Env→Env
 |p::ps,v::vs,e=>Z61 ps vs ((p,v)::e)
 |_,_,e=>e
theorem Zuy{g:Gh}:∀(ps:List Nat) (vals:List Value) (args:List PV) (tm:Array Value) (e:Env),(∀t,Rep g (tm.getD t Go.undef) (e.get t))→vals.length=args.length→(∀j,j<args.length→Rep g (vals.getD j Go.undef) (PV.nth args j))→ps.length=args.length→(∀p∈ps,p<tm.size)→
  (∀t,Rep g (((ps.zip vals).foldl (fun t (p,v)=>t.setIfInBounds p v) tm).getD t Go.undef) ((Z61 ps args e).get t))∧((ps.zip vals).foldl (fun t (p,v)=>t.setIfInBounds p v) tm).size=tm.size
 | [],vals,args,tm,e,he,hl,hr,hp,hb=>by
  cases args with
  |nil=>exact⟨by simpa[Z61]using he,by simp⟩
  |cons _ _=>simp at hp
 | p::ps,vals,args,tm,e,he,hl,hr,hp,hb=>by
  cases args with
  |nil=>simp at hp
  | cons x args=>
   cases vals with
   |nil=>simp at hl
   | cons v vals=>
    have hpl:=hb p List.mem_cons_self;obtain⟨h1,h2⟩:=Zuy ps vals args (tm.setIfInBounds p v) ((p,x)::e) (fun t=>by
     simp only[Env.get];by_cases e1:p=t
     ·subst e1;rw[if_pos rfl];have:=hr 0 (by simp)
      simpa[Zx6,hpl,PV.nth]using this
     ·rw[if_neg e1]
      simpa[Zx6,Array.getElem?_setIfInBounds_ne e1]using he t) (by simpa using hl) (fun j hj=>by simpa[PV.nth]using hr (j+1) (by simpa using hj)) (by simpa using hp) (fun q hq=>by rw[Array.size_setIfInBounds];exact hb q (Zx7 _ hq))
    refine⟨fun t=>?_,?_⟩
    ·simpa[Z61]using h1 t
    ·simpa using h2
abbrev lpR(l:Nat)(st:LoopState)(pe:Option Code)(ps:Array Tmp)(asg body:Code)(D n:Nat)(e:Env):AB:=.loopR l st pe ps asg body D n e
def roundQ(lid l:Nat)(ps:Array Tmp)(asg body:Code)(D n:Nat)(e0:Env)(K:PV→Heap→Prop):Exit→Env→Heap→Prop
 | .normal,_,h=>h.get lid=some (lpR l .busy none ps asg body D n e0)∧K (.bool true) (h.set lid (lpR l .ready none ps asg body D n e0))
 | .ret,_,h=>h.get lid=some (lpR l .busy none ps asg body D n e0)∧K (.bool false) (h.set lid (lpR l .done (some .ret) ps asg body D n e0))
 | .exit id,_,h=>h.get lid=some (lpR l .busy none ps asg body D n e0)∧K (.bool false) (h.set lid (lpR l .done (some (.exit id)) ps asg body D n e0))
 |_,_,_=>False
theorem Zsp{g:Gh}{w:World}{h:Heap}(r:Rel g w h){lid l:Nat}{st:LoopState}{pe:Option Code}{ps:Array Tmp}{asg body:Code}{D n:Nat}{e0:Env}(hg:h.get lid=some (lpR l st pe ps asg body D n e0)):
  ∃n2 z fn tmps,g.β lid=some (l,0,n2,z)∧l<w.heap.size∧w.heap[l]?=some (.loop { state:=st,pending:=pe,fn,tmps,params:=ps,assign:=asg,body,defers:=D })∧tmps.size=n∧∀t,Rep g (tmps.getD t Go.undef) (e0.get t):=by
 rcases r.blk lid _ hg with⟨_,fz,z,hh⟩|⟨b,o,n',z,hb,hlt,_,h0,h1,fn,tmps,h2,h3,h4⟩
 ·cases hh
 ·subst h0 h1;exact⟨n',z,fn,tmps,hb,hlt,h2,h3,h4⟩
theorem Zsq{g:Gh}{w:World}{h:Heap}(r:Rel g w h){lid l:Nat}{st:LoopState}{pe:Option Code}{ps:Array Tmp}{asg body:Code}{D n:Nat}{e0:Env}(hg:h.get lid=some (lpR l st pe ps asg body D n e0)){n2 z:Nat}{fn:FuncId}{tmps:Array Value}(hb:g.β lid=some (l,0,n2,z))(hlt:l<w.heap.size)(hn:tmps.size=n)(ht:∀t,Rep g (tmps.getD t Go.undef) (e0.get t))(st':LoopState)(pe':Option Code):
  Rel g (w.putObj l (.loop { state:=st',pending:=pe',fn,tmps,params:=ps,assign:=asg,body,defers:=D })) (h.set lid (lpR l st' pe' ps asg body D n e0))∧Evo g w h g (w.putObj l (.loop { state:=st',pending:=pe',fn,tmps,params:=ps,assign:=asg,body,defers:=D })) (h.set lid (lpR l st' pe' ps asg body D n e0)):=
 r.set hg rfl hb _ (fun k _ hk=>World.putObj_heap_other hk) (by simp) rfl rfl rfl rfl ⟨rfl,rfl,fn,tmps,World.putObj_heap_same hlt,hn,ht⟩
theorem Z1x{lid l:Nat}{ps:Array Tmp}{asg body:Code}{D n:Nat}{e0:Env}{args:List PV}{h:Heap}{K:PV→Heap→Prop}(hg:h.get lid=some (lpR l .ready none ps asg body D n e0))(hps:ps.size=args.length)(hpb:∀p∈ps.toList,p<n)
  (H:AW P ⟨n,some l,[],fun _ _=>False⟩ asg (fun x e' h'=>x=.normal∧h'.get lid=some (lpR l .ready none ps asg body D n e0)∧AW P ⟨n,some l,[],fun _ _=>False⟩ body (roundQ lid l ps asg body D n e0 K) e' (h'.set lid (lpR l .busy none ps asg body D n e0))) (Z61 ps.toList args e0) h):
  AY P l args h K:=by
 intro g w vals r ha;obtain⟨n2,z,fn,tmps,hb,hlt,hw,hsz,hrep⟩:=Zsp r hg;have hvl:vals.toList.length=args.length:=by rw[Array.length_toList];exact ha.1
 have hy:=run_yield (P:=P) (args:=vals) hw (by rw[hps];exact ha.1);obtain⟨k1,k2⟩:=Zuy ps.toList vals.toList args tmps e0 hrep hvl (fun j hj=>by
  have:=ha.2 j hj
  simpa[Zx6]using this) (by rw[Array.length_toList];exact hps) (fun p hp=>by rw[hsz];exact hpb p hp)
 have hfold:(ps.zip vals).foldl (fun t (p,v)=>t.setIfInBounds p v) tmps=(ps.toList.zip vals.toList).foldl (fun t (p,v)=>t.setIfInBounds p v) tmps:=by
  rw[←Array.foldl_toList,Array.toList_zip]
 refine⟨fn,_,asg,body,hy,roundIn_of_wpIn trivial ?_⟩;show asg.wpIn (fw (some l)) 8 P _ _ w;have key:=H g w { tmps:=(ps.zip vals).foldl (fun t (p,v)=>t.setIfInBounds p v) tmps,defers:=[] } r (fun t=>by rw[hfold];exact k1 t) rfl (by rw[hfold];exact k2.trans hsz);have up:∀{c:Code} {Q:Exit→Act→World→Prop} {a:Act} {w:World},c.wpIn (fw (some l)) 9 P Q a w→c.wpIn (fw (some l)) 8 P Q a w:=fun{c Q a w} hh b k cs hro hb _=>hh b k cs hro hb (Xdd _);refine up (wpIn_mono key ?_);rintro x a1 w1 ⟨g1,e1,h1,⟨rfl,j1,j2⟩,j3,j4,j5,j6,j7⟩;obtain⟨n3,z3,fn3,tm3,hb3,hlt3,hw3,hsz3,hrep3⟩:=Zsp j3 j1;refine⟨_,run_beginRound hw3 rfl,?_⟩;obtain⟨R1,E1⟩:=Zsq j3 j1 (fn:=fn3) hb3 hlt3 hsz3 hrep3 .busy none;refine up (wpIn_mono (j2 g1 _ a1 R1 j4 j5 j6) ?_);rintro x a2 w2 ⟨g2,e2,h2,m1,m2,m3,m4,m5,m6⟩;have ev:=(j7.trans E1).trans m6;have fin:∀(jump:Option Code),h2.get lid=some (lpR l .busy none ps asg body D n e0)→K (.bool jump.isNone) (h2.set lid (lpR l (if jump.isNone then .ready else .done) jump ps asg body D n e0))→
   ∃v w',(Instr.endRound l jump).run P w2=.ok v w'∧∃v' p g' h',Ending.returned v=.returned v'∧K p h'∧Rep g' v' p∧Rel g' w' h'∧Evo g w h g' w' h':=by
  intro jump q1 q2;obtain⟨n4,z4,fn4,tm4,hb4,hlt4,hw4,hsz4,hrep4⟩:=Zsp m2 q1;obtain⟨R2,E2⟩:=Zsq m2 q1 (fn:=fn4) hb4 hlt4 hsz4 hrep4 (if jump.isNone then .ready else .done) jump;exact⟨_,_,run_endRound jump hw4,_,_,g2,_,rfl,q2,.bool _,R2,ev.trans E2⟩
 cases x with
 |normal=>exact fin none m1.1 m1.2
 |ret=>exact fin (some .ret) m1.1 m1.2
 |exit id=>exact fin (some (.exit id)) m1.1 m1.2
 |goto t=>exact m1.elim
 |panic c=>exact m1.elim
 |outgrown=>exact m1.elim
theorem Zoj:∀{l:List (Nat×AB)} {k:Nat},HL.get l k=none→∀x∈l,x.1≠k
 | (i,v)::r,k,h,x,hx=>by
  rw[HL.get]at h;split at h
  ·cases h
  ·rename_i hne;rcases List.mem_cons.1 hx with rfl|hx
   ·exact hne
   ·exact Zoj h x hx
theorem Z62{h0 h:Heap}{k:Nat}{x:AB}(hl:h0.le h)(hn:h0.get k=none):h0.le (h.set k x):=by
 refine⟨hl.1,?_⟩;have h1:=Zoj hn;have h2:=hl.2;clear hn;obtain⟨l,t⟩:=h0;simp only at h1 h2⊢
 induction l with
 |nil=>trivial
 |cons y r ih=>
  obtain⟨i,v⟩:=y;have hne:i≠k:=h1 (i,v) List.mem_cons_self;refine⟨?_,ih ⟨hl.1,h2.2⟩ (fun z hz=>h1 z (Zx7 _ hz)) h2.2⟩;rw[Heap.get_set,if_neg (Ne.symm hne)];exact h2.1
theorem Z3n{n:Nat}{gx:Operand}{ps:Array Tmp}{asg body:Code}{va:VA}{gf:FuncId}{cap:List PV}{e:Env}{h:Heap}{C:Exit→Act→World→Prop}{g:Gh}{w:World}{a:Act}(r:Rel g w h)(he:Zas g a e)(hs:a.tmps.size=n)(hg:cA gx=some va)(hv:va.ev e=.fn (.func gf) [] cap)
  (H:∀l D,Zam P gf (.fn (.yield l) [] []::cap) ((h.push (.dfr D true)).push (lpR l .ready none ps asg body D n e)) (fun _ h'=>
   ∃st pe h0,st≠.busy∧h'.get (h.top+1)=some (lpR l st pe ps asg body D n e)∧h0.le h'∧h0.get (h.top+1)=none∧match(pe:Option Code)with
    |none=>∀g3 w5,Rel g3 w5 h0→Zas g3 a e→Evo g w h g3 w5 h0→C .normal { tmps:=a.tmps,defers:={ target:=.collected D,args:=#[] }::a.defers } w5
    |some .ret=>∀g3 w5,Rel g3 w5 h0→Zas g3 a e→Evo g w h g3 w5 h0→C .ret { tmps:=a.tmps,defers:={ target:=.collected D,args:=#[] }::a.defers } w5
    |some _=>False)):
  (Code.rangeFunc gx ps asg body).wpIn (fw none) 9 P C a w:=by
 refine wpIn_rangeFunc ?_;intro fn _;have hf:=Zat he hg;rw[hv]at hf;obtain⟨fs,cs,hval,a1,a2⟩:=hf.fn_inv;have hfs:fs=#[]:=Array.size_eq_zero_iff.1 (by simpa using a1.1);subst hfs;obtain⟨g1,le1,_,hb1,R1,E1⟩:=r.put none w.heap.size 0 0 0 (.dfr w.heap.size true) (w.alloc (.deferred (some []))) (.inl (Nat.le_refl _)) (fun k hk _=>RowKit.Below.heap_alloc w _ k hk) (by simp) (by simp) rfl rfl rfl rfl (fun g' _=>⟨rfl,rfl,World.alloc_heap_new w _⟩);have hsz1:(w.alloc (.deferred (some []))).heap.size=w.heap.size+1:=by simp
 obtain⟨g2,le2,_,hb2,R2,E2⟩:=R1.put none (w.heap.size+1) 0 0 0 (lpR (w.heap.size+1) .ready none ps asg body w.heap.size n e) ((w.alloc (.deferred (some []))).alloc (.loop { state:=.ready,pending:=none,fn,tmps:=a.tmps,params:=ps,assign:=asg,body,defers:=w.heap.size })) (.inl (by omega))
  (fun k hk _=>RowKit.Below.heap_alloc _ _ k hk) (by simp) (by simp) rfl rfl rfl rfl (fun g' hl=>⟨rfl,rfl,fn,a.tmps,by have:=World.alloc_heap_new (w.alloc (.deferred (some []))) (.loop { state:=.ready,pending:=none,fn,tmps:=a.tmps,params:=ps,assign:=asg,body,defers:=w.heap.size });rwa [hsz1]at this,hs,fun t=>((he t).mono le1).mono hl⟩)
 have HC:=H (w.heap.size+1) w.heap.size;obtain⟨W2,hW2⟩:∃W2,(w.alloc (.deferred (some []))).alloc (.loop { state:=.ready,pending:=none,fn,tmps:=a.tmps,params:=ps,assign:=asg,body,defers:=w.heap.size })=W2:=⟨_,rfl⟩;have hent:(Instr.enterLoop fn a.tmps ps asg body none).run P w=.ok (w.heap.size+1,[{ target:=.collected w.heap.size,args:=#[] }]) W2:=by rw[←hW2];exact run_enterLoop_outer _ _ _ _ _
 rw[hW2]at R2 E2;refine⟨w.heap.size+1,_,W2,{ target:=.fn (.func gf) cs,args:=#[.func (.yield (w.heap.size+1)) #[] #[]] },W2,gf,#[.func (.yield (w.heap.size+1)) #[] #[]]++cs,W2,hent,?_,fun _ _=>trivial,?_,fun k=>by simp[fw]at k,?_⟩
 ·have heq:a.eval gx=.func (.func gf) #[] cs:=hval;simp only[resolve,heq];simp[go_sem]
 ·simp only[invoke];exact Zjj HC.1 _ _
 ·have hargs:Zm0 g2 (#[.func (.yield (w.heap.size+1)) #[] #[]]++cs) (.fn (.yield (w.heap.size+1)) [] []::cap):=by
   have hA:Zm0 g2 #[Value.func (.yield (w.heap.size+1)) #[] #[]] [.fn (.yield (w.heap.size+1)) [] []]:=⟨rfl,fun j hj=>by
    obtain rfl:j=0:=by simp at hj;omega
    exact .fn _ _ _ _ _ rfl rfl (fun j hj=>by simp at hj) (fun j hj=>by simp at hj)⟩
   exact hA.append ⟨a2.1,fun j hj=>((a2.2 j hj).mono le1).mono le2⟩
  refine Zk6.2 ((HC.2 g2 _ _ R2 hargs).mono ?_);rintro x w3 ⟨v,p,g3,h3,rfl,⟨st,pe,h0,hst,hg3,hle0,hno,hpe⟩,_,R3,E3⟩;obtain⟨n3,z3,fn3,tm3,hb3,hlt3,hw3,hsz3,hrep3⟩:=Zsp R3 hg3;refine⟨pe,_,run_endLoop hw3 hst,?_⟩;obtain⟨R4,E4⟩:=Zsq R3 hg3 (fn:=fn3) hb3 hlt3 hsz3 hrep3 .exhausted pe;have hle4:=Z62 (x:=lpR (w.heap.size+1) .exhausted pe ps asg body w.heap.size n e) hle0 hno;have R5:=R4.weaken hle4;have E5:=((((E1.trans E2).trans E3).trans E4).weakenR hle4);have he5:Zas g3 a e:=he.mono E5.le;cases pe with
  |none=>exact hpe g3 _ R5 he5 E5
  |some c=>
   cases c with
   |ret=>exact wpIn_ret (hpe g3 _ R5 he5 E5)
   |_=>exact hpe.elim
theorem Z63{N:FK}(hro:N.ro=none){x y:Code}{id:Nat}{gx:Operand}{ps:Array Tmp}{asg body:Code}{e:Env}{h:Heap}{Q:Exit→Env→Heap→Prop}
  (H:AW P N x (fun ex e h=>ex=.normal∧∃va gf cap,cA gx=some va∧va.ev e=.fn (.func gf) [] cap∧∀l D,Zam P gf (.fn (.yield l) [] []::cap) ((h.push (.dfr D true)).push (lpR l .ready none ps asg body D N.n e)) (fun _ h'=>
   ∃st pe h0,st≠.busy∧h'.get (h.top+1)=some (lpR l st pe ps asg body D N.n e)∧h0.le h'∧h0.get (h.top+1)=none∧match(pe:Option Code)with
    |none=>AW P { N with D:={ target:=.collected D,args:=#[] }::N.D } y (fun x e2 h2=>Q x e2 h2∧x=.ret∧N.X ({ target:=.collected D,args:=#[] }::N.D) h2) e h0
    |some .ret=>Q .ret e h0∧N.X ({ target:=.collected D,args:=#[] }::N.D) h0
    |some _=>False)) e h):
  AW P N (.seq (.seq x (.block id (.rangeFunc gx ps asg body))) y) Q e h:=by
 intro g w a r he hd hs
 apply wpIn_seq
 apply wpIn_seq
 refine wpIn_mono (H g w a r he hd hs) ?_;rintro ex a1 w1 ⟨g1,e1,h1,⟨rfl,va,gf,cap,hg,hv,HC⟩,r1,he1,hd1,hs1,ev1⟩;have hd1':a1.defers=N.D:=hd1;show(Code.block id _).wpIn _ _ _ _ _ _
 apply wpIn_block
 have hrn:fw N.ro=fw none:=by rw[hro]
 rw[hrn];refine Z3n r1 he1 hs1 hg hv fun l D=>(HC l D).mono ?_;rintro p h' ⟨st,pe,h0,q1,q2,q3,q4,q5⟩;refine⟨st,pe,h0,q1,q2,q3,q4,?_⟩;cases pe with
 |none=>
  intro g3 w5 R3 E3 V3;have:=q5 g3 w5 { tmps:=a1.tmps,defers:={ target:=.collected D,args:=#[] }::a1.defers } R3 E3 (by rw[hd1']) hs1;rw[show({ N with D:={ target:=.collected D,args:=#[] }::N.D }:FK).ro=N.ro from rfl,hro]at this;show y.wpIn _ _ _ _ _ _;refine wpIn_mono this ?_;rintro x a6 w6 ⟨g6,e6,h6,⟨k1,rfl,k2⟩,k3,k4,k5,k6,k7⟩;refine⟨g6,e6,h6,k1,k3,k4,.inr ?_,k6,(ev1.trans V3).trans k7⟩;rcases k5 with k5|k5
  ·rw[k5];exact k2
  ·exact k5
 | some c=>
  cases c with
  |ret=>
   intro g3 w5 R3 E3 V3;exact⟨g3,e1,h0,q5.1,R3,E3,.inr (by show N.X ({ target:=.collected D,args:=#[] }::a1.defers) h0;rw[hd1'];exact q5.2),hs1,ev1.trans V3⟩
  |_=>exact q5.elim
theorem Zuz{N:FK}(hro:N.ro=none){x y:VC}{id:Nat}{rf:Code}{gx:Operand}{ps:Array Tmp}{asg body:Code}{e:Env}{h:Heap}{Q:Exit→Env→Heap→Prop}(hrf:rf=.rangeFunc gx ps asg body)
  (H:VW P N x (fun ex e h=>ex=.normal∧∃va gf cap,cA gx=some va∧va.ev e=.fn (.func gf) [] cap∧∀l D,Zam P gf (.fn (.yield l) [] []::cap) ((h.push (.dfr D true)).push (lpR l .ready none ps asg body D N.n e)) (fun _ h'=>
   ∃st pe h0,st≠.busy∧h'.get (h.top+1)=some (lpR l st pe ps asg body D N.n e)∧h0.le h'∧h0.get (h.top+1)=none∧match(pe:Option Code)with
    |none=>VW P { N with D:={ target:=.collected D,args:=#[] }::N.D } y (fun x e2 h2=>Q x e2 h2∧x=.ret∧N.X ({ target:=.collected D,args:=#[] }::N.D) h2) e h0
    |some .ret=>Q .ret e h0∧N.X ({ target:=.collected D,args:=#[] }::N.D) h0
    |some _=>False)) e h):
  VW P N (.seq (.seq x (.block id (.other rf))) y) Q e h:=by
 subst hrf;intro c hc;obtain⟨x',y',rfl,hx,hy⟩:∃x' y',c=.seq (.seq x' (.block id (.rangeFunc gx ps asg body))) y'∧Zb1 P N.n x'=some x∧Zb1 P N.n y'=some y:=by
  have sq:∀{c:Code} {p q:VC},Zb1 P N.n c=some (.seq p q)→∃p' q',c=.seq p' q'∧Zb1 P N.n p'=some p∧Zb1 P N.n q'=some q:=by
   intro c p q hc;cases c<;>simp only[Zb1,Option.map_eq_some_iff]at hc
   case seq a b=>
    split at hc
    ·rename_i h1 h2;simp only[Zx0,VC.seq.injEq]at hc;obtain⟨rfl,rfl⟩:=hc;exact⟨a,b,rfl,h1,h2⟩
    ·cases hc
   case cond=>split at hc<;>simp at hc
   case region=>(repeat' (split at hc))<;>simp at hc
   all_goals simp at hc
  obtain⟨p,q,rfl,h1,h2⟩:=sq hc;obtain⟨p1,q1,rfl,h3,h4⟩:=sq h1;obtain⟨b,rfl,h5⟩:∃b,q1=.block id b∧Zb1 P N.n b=some (.other (.rangeFunc gx ps asg body)):=by
   cases q1<;>simp only[Zb1,Option.map_eq_some_iff]at h4
   case block id' a=>
    obtain⟨z,k1,k2⟩:=h4;simp only[VC.block.injEq]at k2;obtain⟨rfl,rfl⟩:=k2;exact⟨a,rfl,k1⟩
   case seq=>split at h4<;>simp at h4
   case cond=>split at h4<;>simp at h4
   case region=>(repeat' (split at h4))<;>simp at h4
   all_goals simp at h4
  have hb:b=.rangeFunc gx ps asg body:=by
   cases b<;>simp only[Zb1,Option.map_eq_some_iff]at h5
   case seq=>split at h5<;>simp at h5
   case cond=>split at h5<;>simp at h5
   case region=>(repeat' (split at h5))<;>simp at h5
   case rangeFunc=>simpa using h5
   all_goals simp at h5
  subst hb;exact⟨p1,q,rfl,h3,h2⟩
 refine Z63 hro ((H x' hx).mono ?_);rintro ex e1 h1 ⟨rfl,va,gf,cap,k1,k2,k3⟩;refine⟨rfl,va,gf,cap,k1,k2,fun l D=>(k3 l D).mono ?_⟩;rintro p h' ⟨st,pe,h0,q1,q2,q3,q4,q5⟩;refine⟨st,pe,h0,q1,q2,q3,q4,?_⟩;cases pe with
 |none=>exact q5 y' hy
 |some c=>cases c with
  |ret=>exact q5
  |_=>exact q5.elim
def Zu0:Code→Option Code
 | .rangeFunc f ps a b=>some (.rangeFunc f ps a b)
 | .seq a b=>match Zu0 a with
  |some c=>some c
  |none=>Zu0 b
 | .cond _ a b=>match Zu0 a with
  |some c=>some c
  |none=>Zu0 b
 | .block _ c=>Zu0 c
 | .loop c=>Zu0 c
 | .scope c=>Zu0 c
 |_=>none
def Zzg(f:Func):Code:=match f.body with
 |some c=>(Zu0 c).getD .skip
 |none=>.skip
def Zzh:Code→Code
 | .rangeFunc _ _ a _=>a
 |c=>c
def Zok:Code→Code
 | .rangeFunc _ _ _ b=>b
 |c=>c
def markX(d:List Deferred)(h:Heap):Prop:=∃id D,h.get id=some (.dfr D true)∧d=[{ target:=.collected D,args:=#[] }]
def FK.mark(n:Nat):FK:=⟨n,none,[],markX⟩
theorem Z1y{g:Gh}{vals:Array Value}{args:List PV}(ha:Zm0 g vals args)(n:Nat):Zas g { tmps:=vals++Array.replicate (n-vals.size) Go.undef,defers:=[] } (Zed 0 args):=by
 intro t;rw[Zk9];by_cases h1:0≤t∧t<0+args.length
 ·rw[if_pos h1];have hlt:t<vals.size:=by rw[ha.1];omega
  have e1:(vals++Array.replicate (n-vals.size) Go.undef).getD t Go.undef=vals.getD t Go.undef:=by
   simp[Zx6,Array.getElem?_append_left hlt]
  show Rep g ((vals++Array.replicate (n-vals.size) Go.undef).getD t Go.undef) _;rw[e1];exact ha.2 t (by omega)
 ·rw[if_neg h1];exact .any _
theorem Zu1{h:Heap}{id D:Nat}{o o':Bool}(hg:h.get id=some (.dfr D o))(p:PV):Zba (h.set id (.dfr D o')) p=Zba h p:=by
 cases p with
 |loc i k q=>
  simp only[Zba];by_cases e:id=i
  ·subst e;rw[Heap.get_set,if_pos rfl,hg];rfl
  ·rw[Heap.get_set,if_neg e]
 |_=>rfl
theorem Xdx{h:Heap}{id D:Nat}{o o':Bool}(hg:h.get id=some (.dfr D o)){p:PV}(ho:Zfl h p):Zfl (h.set id (.dfr D o')) p:=by
 cases p with
 |loc i k q=>
  simp only[Zfl]at ho⊢;by_cases e:id=i
  ·subst e;rw[hg]at ho;exact ho.elim
  ·rw[Heap.get_set,if_neg e];exact ho
 |_=>exact ho
theorem Zzi{e:Env}{h:Heap}{id D:Nat}{o o':Bool}(hg:h.get id=some (.dfr D o)):∀{ts:List RS},Zia e h ts→Zia e (h.set id (.dfr D o')) ts
 | [],_=>trivial
 | .t _::r,H=>⟨trivial,Zzi hg H.2⟩
 | .c n g s::r,H=>⟨⟨Xdx hg H.1.1,by rw[Zu1 hg];exact H.1.2.1,H.1.2.2⟩,Zzi hg H.2⟩
theorem Xcr{e:Env}{h:Heap}{id D:Nat}{o o':Bool}(hg:h.get id=some (.dfr D o)):∀x:RS,x.ev e (h.set id (.dfr D o'))=x.ev e h
 | .t _=>rfl
 | .c n g s=>by unfold RS.ev;simp only[];rw[Zu1 hg]
theorem resV_d{e:Env}{h:Heap}{id D:Nat}{o o':Bool}(hg:h.get id=some (.dfr D o))(ts:List RS):Ztn e (h.set id (.dfr D o')) ts=Ztn e h ts:=by
 have hm:∀ts:List RS,ts.map (RS.ev e (h.set id (.dfr D o')))=ts.map (RS.ev e h):=fun ts=>List.map_congr_left fun x _=>Xcr hg x;unfold Ztn;split
 ·exact Xcr hg _
 ·rw[hm]
def Z64(K:PV→Heap→Prop)(p:PV)(h:Heap):Prop:=∃h0:Heap,h0.le h∧(∀id D o,h.get id=some (.dfr D o)→h0.get id=none)∧K p h0
theorem Zol{f:FuncId}{fn:Func}{c:Code}{vc:VC}{ts:List RS}{args:List PV}{h:Heap}{K:PV→Heap→Prop}(hf:P.funcs[f]?=some fn)(hok:Ztr P f=true)(hb:fn.body=some c)(hr:Z5h P fn.results.toList=some ts)
  (hn:args.length≤fn.ntmps)(hc:Zb1 P fn.ntmps c=some vc)(H:VW P (FK.mark fn.ntmps) vc (Z5g ts (Z64 K)) (Zed 0 args) h):Zam P f args h K:=by
 refine⟨hok,fun g w vals r ha=>?_⟩;refine(Zk6 (ro:=none) (n:=9)).1 (callsIn_of_wp_marks hf hb trivial ?_ rfl);refine wpIn_mono (H c hc g w _ r (Z1y ha _) rfl (by simp[ha.1,FK.mark];omega)) fun x a' w' ⟨g',e',h',k1,k2,k3,k4,k5,k6⟩=>?_;have fin:∀d,a'.defers=d→(d=[]∨markX d h')→Zia e' h' ts∧Z64 K (Ztn e' h' ts) h'→LeavesInM (fw none) 9 P fn a'.tmps (fun x w'=>∃v p g' h',x=.returned v∧K p h'∧Rep g' v p∧Rel g' w' h'∧Evo g w h g' w' h') d .returning w':=by
  rintro d hd hk ⟨ho,h0,hl,hm,hK⟩;have key:∀w2 h2,Rel g' w2 h2→Evo g w h g' w2 h2→Zia e' h2 ts→Ztn e' h2 ts=Ztn e' h' ts→h0.le h2→∃v,(results fn a'.tmps).run P w2=.ok v w2∧∃v' p g' h',Ending.returned v=.returned v'∧K p h'∧Rep g' v' p∧Rel g' w2 h'∧Evo g w h g' w2 h':=by
   intro w2 h2 q1 q2 q3 q4 q5;obtain⟨v,hv,hrep⟩:=Ziu (P:=P) (w:=w2) hr q1 k3 q3;exact⟨v,hv,v,_,g',h0,rfl,hK,by rw[←q4];exact hrep,q1.weaken q5,q2.weakenR q5⟩
  rcases hk with rfl|⟨id,D,hg,rfl⟩
  ·exact key w' h' k2 k6 ho rfl hl
  ·refine⟨by simp,.inl ?_⟩;rcases k2.blk id _ hg with⟨_,fz,z,hh⟩|⟨b,o,n',z,hb',hlt,_,q1,q2,q3⟩
   ·cases hh
   ·subst q1 q2;have q3':w'.heap[b]?=some (.deferred (some [])):=q3;obtain⟨R2,E2⟩:=k2.set (ab:=.dfr b false) hg rfl hb' (w'.putObj b (.deferred none)) (fun k _ hk=>World.putObj_heap_other hk) (by simp) rfl rfl rfl rfl ⟨rfl,rfl,World.putObj_heap_same hlt⟩;refine⟨b,_,rfl,run_takeDeferred q3',?_⟩;refine key _ _ R2 (k6.trans E2) ?_ ?_ (Z62 hl (hm _ _ _ hg))
    ·exact Zzi hg ho
    ·exact resV_d hg ts
 cases x with
 |normal=>exact fin _ rfl (.inl k4) k1
 |ret=>exact fin _ rfl k4 k1
 |exit id=>exact k1.elim
 |goto l=>exact k1.elim
 |panic ch=>exact k1.elim
 |outgrown=>exact k1.elim
section
variable {P:Program} {N:FK} {Q:Exit→Env→Heap→Prop} {e:Env} {h:Heap}
theorem AW_of{c:Code}{vc:VC}(hc:Zb1 P N.n c=some vc)(H:VW P N vc Q e h):AW P N c Q e h:=H c hc
theorem Xdy{x y:Code}{vx:VC}(hx:Zb1 P N.n x=some vx)(H:VW P N vx (Zg4 (AW P N y Q) Q) e h):AW P N (.seq x y) Q e h:=Z55 (H x hx)
def vcR:VC→VC|.seq _ b=>b|c=>c
def vcL:VC→VC|.seq a _=>a|c=>c
def vcQ:VC→List VOper|.draw2 q _=>q|.region q _=>q|_=>[]
def vcT:VC→List Bool|.draw2 _ l=>l|_=>[]
theorem Xar{id:Nat}{ops:Array Oper}{q:List VOper}{late:List Bool}(hmm:P.follows .mixedOrders=true)(h3:Zcr P N.n ops ops.toList=some q)(hB:Zej ops q ops.size 0 (Array.replicate ops.size false)=true)(hlt:Zr7 ops q=late)
  (cs:List Nat)(l:List Nat)(big small:Heap)(hck:Zqz (Zaz ops (Array.replicate ops.size false) ops.size) q late cs=true)(hl:big.le h)(hls:small.le h)
  (HY:Zd9 P big small late cs 0 q (fun e' h'=>Q .normal (Env.keep l e') h') e h):AW P N (.region id ops true) Q e h:=by
 subst hlt;exact Xaq hmm h3 hB cs l big small hck hl hls HY
theorem Z65{f:FuncId}{fn:Func}{c:Code}{ts:List RS}{args:List PV}{K:PV→Heap→Prop}(hf:P.funcs[f]?=some fn)(hok:Ztr P f=true)(hb:fn.body=some c)(hr:Z5h P fn.results.toList=some ts)
  (hn:args.length≤fn.ntmps)(H:AW P (FK.std fn.ntmps) c (Z5g ts K) (Zed 0 args) h):Zam P f args h K:=by
 refine⟨hok,fun g w vals r ha=>?_⟩;refine calls_of_wp hf hb ?_;have he:=Z1y ha fn.ntmps;refine wp_mono (Z5w.1 (H g w _ r he rfl (by simp[ha.1,FK.std];omega))) fun x a' w' ⟨g',e',h',k1,k2,k3,k4,k5,k6⟩=>?_;have fin:a'.defers=[]→Zia e' h' ts∧K (Ztn e' h' ts) h'→bodyPost P fn (fun x w'=>∃v p g' h',x=.returned v∧K p h'∧Rep g' v p∧Rel g' w' h'∧Evo g w h g' w' h') .ret a' w':=by
  rintro kd ⟨ho,hk⟩;obtain⟨v,hv,hrep⟩:=Ziu (P:=P) (w:=w') hr k2 k3 ho;exact⟨kd,v,hv,v,_,g',h',rfl,hk,hrep,k2,k6⟩
 cases x with
 |normal=>exact fin k4 k1
 |ret=>exact fin (k4.elim (fun h=>h) (fun h=>h.elim)) k1
 |exit id=>exact k1.elim
 |goto l=>exact k1.elim
 |panic ch=>exact k1.elim
 |outgrown=>exact k1.elim
end
section
variable {P:Program} {N:FK} {ops:Array Oper}
def OpA(P:Program)(o:Oper)(g:Gh)(w:World)(a:Act)(h:Heap)(K:Value→Gh→PV→Heap→Prop):Prop:=
 ∀(next:Act→World→Prop) (Q:Exit→Act→World→Prop),(∀v pv g' w' h',K v g' pv h'→Rep g' v pv→Rel g' w' h'→Evo g w h g' w' h'→next (a.put o.dst v) w')→o.uponIn (fw none) 9 P a next Q ((execOp a.eval o).run P w)
theorem OpS.toA{o:Oper}{e:Env}{h:Heap}{K:PV→Heap→Prop}{K':Value→Gh→PV→Heap→Prop}{g:Gh}{w:World}{a:Act}(H:OpS P o e h K)(r:Rel g w h)(he:Zas g a e)
  (hk:∀v g' pv h',K pv h'→Rep g' v pv→g.le g'→K' v g' pv h'):OpA P o g w a h K':=fun next Q hn=>
 H g w a next Q r he fun v pv g' w' h' k1 k2 k3 k4=>hn v pv g' w' h' (hk _ _ _ _ k1 k2 k4.le) k2 k3 k4
theorem OpA.of_value{o:Oper}{g:Gh}{w:World}{a:Act}{h:Heap}{K:Value→Gh→PV→Heap→Prop}(H:∃v p g' w' h',(execOp a.eval o).run P w=.ok (.value v) w'∧K v g' p h'∧Rep g' v p∧Rel g' w' h'∧Evo g w h g' w' h'):OpA P o g w a h K:=by
 intro next Q hn
 obtain⟨v,p,g',w',h',e1,e2,e3,e4,e5⟩:=H;rw[e1];exact hn v p g' w' h' e2 e3 e4 e5
theorem any_J{q:List VOper}{Q:Exit→Act→World→Prop}{g0:Gh}{w0:World}{h0:Heap}(hcq:Zcr P N.n ops ops.toList=some q)(J:Array Bool→Gh→Act→Env→Heap→Prop)
  (hstep:∀listed g w a e h,J listed g a e h→Rel g w h→Zas g a e→a.tmps.size=N.n→∀i∈Region.ready .any ops listed,∀o,ops[i]?=some o→o.guard=none∧OpA P o g w a h (fun v g' pv h'=>J (listed.setIfInBounds i true) g' (a.put o.dst v) (e.put o.dst pv) h'))
  (hQ:∀listed g w a e h,J listed g a e h→Region.ready .any ops listed=[]→Rel g w h→Zas g a e→a.defers=N.D→a.tmps.size=N.n→Evo g0 w0 h0 g w h→Q .normal a w):
  ∀(n:Nat) (listed:Array Bool) (g:Gh) (w:World) (a:Act) (e:Env) (h:Heap),unl listed≤n→J listed g a e h→Rel g w h→Zas g a e→a.defers=N.D→a.tmps.size=N.n→Evo g0 w0 h0 g w h→wpAnyIn (fw N.ro) 9 P .any ops Q n listed a w
 | 0,listed,g,w,a,e,h,hu,j,r,he,hd,hs,hev=>by
  have hr:Region.ready .any ops listed=[]:=by
   rw[List.eq_nil_iff_forall_not_mem];intro i hi;have:=Zsn (mem_ready.1 hi).1;omega
  exact⟨hr,hQ listed g w a e h j hr r he hd hs hev⟩
 |n+1,listed,g,w,a,e,h,hu,j,r,he,hd,hs,hev=>by
  refine⟨fun hr=>hQ listed g w a e h j hr r he hd hs hev,fun i hi=>?_⟩;obtain⟨hl,o,ho,_⟩:=mem_ready.1 hi;obtain⟨vo,h1,h2,h3,h4,hnd,h5⟩:=(Zb2 hcq).2 i o (by simpa using ho);obtain⟨hg,H⟩:=hstep listed g w a e h j r he hs i hi o ho;have hu':=Zsn hl;unfold wpOpIn;rw[ho];simp only[Region.wanted,hg,if_true];refine Z53 hnd (H _ Q ?_);intro v pv g' w' h' k1 k2 k3 k4;exact any_J hcq J hstep hQ n _ g' w' _ _ h' (by omega) k1 k3 ((he.mono k4.le).put k2 (fun t ht=>by rw[hs];exact h5 t ht)) (by rw[(Ze8 a o.dst v).2];exact hd) (by rw[(Ze8 a o.dst v).1];exact hs) (hev.trans k4)
theorem Xas{q:List VOper}{Q:Exit→Env→Heap→Prop}{e:Env}{h:Heap}{id:Nat}(l:List Nat)(hmm:P.follows .mixedOrders=true)(hcq:Zcr P N.n ops ops.toList=some q)(J:Array Bool→Gh→Act→Env→Heap→Prop)
  (hJ:∀g a,Zas g a e→J (Array.replicate ops.size false) g a e h)
  (hstep:∀listed g w a e h,J listed g a e h→Rel g w h→Zas g a e→a.tmps.size=N.n→∀i∈Region.ready .any ops listed,∀o,ops[i]?=some o→o.guard=none∧OpA P o g w a h (fun v g' pv h'=>J (listed.setIfInBounds i true) g' (a.put o.dst v) (e.put o.dst pv) h'))
  (hend:∀listed g w a e h,J listed g a e h→Region.ready .any ops listed=[]→Rel g w h→Zas g a e→∃e',Q .normal e' h∧Zas g a e'):AW P N (.region id ops true) Q e h:=by
 intro g w a r he hd hs;refine wpIn_region_any hmm ?_;have hu:unl (Array.replicate ops.size false)≤ops.size:=by
  unfold unl;refine Nat.le_trans (List.count_le_length) ?_;simp
 refine any_J (N:=N) hcq J hstep (g0:=g) (w0:=w) (h0:=h) ?_ ops.size _ g _ a e h hu (hJ g a he) (r.drew _) he hd hs (Evo.drew _ _ _ _);intro listed g' w' a' e' h' j hr r' he' hd' hs' ev;obtain⟨e2,k1,k2⟩:=hend listed g' w' a' e' h' j hr r' he';exact⟨g',e2,h',k1,r',k2,hd',hs',ev⟩
end
def Xcs(g:Gh)(z:Nat)(v:Value)(R:List (List PV)):Prop:=(∃ao,v=.slice ao R.length R.length)∧Rep g v (.sl z R)
theorem Xcs.mono{g g':Gh}(hg:g.le g'){z:Nat}{v:Value}{R:List (List PV)}(H:Xcs g z v R):Xcs g' z v R:=⟨H.1,H.2.mono hg⟩
section
variable {P:Program} {g:Gh} {w:World} {h:Heap}
theorem Z3o{o:Oper}{a:Act}{t ty:TypeId}{z k:Nat}{x hi mx:Operand}{R:List (List PV)}(ho:o.op=.slice t x none (some hi) (some mx))(hu:P.underlying t=some (.slice ty))(hs:Zc2 P ty=some z)(hz:z≠0)
  (hx:Rep g (a.eval x) (.sl z R))(hhi:a.eval hi=.int .i64 k)(hmx:a.eval mx=.int .i64 k)(hk:k≤R.length):
  ∃v,(execOp a.eval o).run P w=.ok (.value v) w∧Xcs g z v (R.take k):=by
 have hsl:∃ao cap,a.eval x=.slice ao R.length cap∧R.length≤cap∧∀j,j≤R.length→Rep g (.slice ao j j) (.sl z (R.take j)):=by
  generalize a.eval x=vx at hx;cases hx with
  | slE ao cap z=>exact⟨ao,cap,rfl,Zyw _,fun j hj=>by
    have:j=0:=by simpa using hj
    subst this;exact .slE _ _ _⟩
  |sl b o len cap z ad es vs ha hl hc hzz hm hr=>
   subst hl;refine⟨_,_,rfl,hc,fun j hj=>?_⟩;have hrow:∀i,i<j→PV.row (R.take j) i=PV.row R i:=fun i hi=>by simp[PV.row,Zx1,List.getElem?_take,hi]
   exact .sl b o j j z _ _ vs ha (by simp;omega) (Nat.le_refl _) (fun i hi=>by rw[hrow i hi];exact hzz i (by omega)) (fun i jj hi hj2=>hm i jj (by omega) hj2) (fun i jj hi hj2=>by rw[hrow i hi];exact hr i jj (by omega) hj2)
 obtain⟨ao,cap,hv,hc,hrep⟩:=hsl;have hb:∀(y:Nat) c,k≤y→(Instr.sliceBound (.int .i64 k) y c).run P w=.ok k w:=by
  intro y c hy;simp[Instr.sliceBound,asIntOf,hy]
 refine⟨.slice ao k k,?_,⟨ao,by rw[Zyh,Nat.min_eq_left hk]⟩,hrep k hk⟩;have h1:=hb cap .slice3Acap (by omega);have h2:=hb k .slice3B (Nat.le_refl _);have hrun:(execOp a.eval o).run P w=.ok (.value (.slice (if k=0 then ao else ao) k k)) w:=by
  by_cases hk0:k=0
  ·simp[execOp,ho,Instr.sliceAt,Instr.slice,run_underlying hu,hv,Instr.sliceBounds,hhi,hmx,h1,h2,Zeb hs];simp[hk0]
  ·simp[execOp,ho,Instr.sliceAt,Instr.slice,run_underlying hu,hv,Instr.sliceBounds,hhi,hmx,h1,h2,Zeb hs,hk0];cases ao<;>simp[Addr.add]
 rw[hrun,ite_self]
theorem Zu2{t u ty e:TypeId}{i:TypeInfo}{d:TypeDesc}(ht:P.underlying t=some (.slice e))(hu:P.underlying u=some d)(hd:∀k,d≠.int k)(hi:P.info? e=some i)
  {ao:Option Addr}{L:Nat}{x:Value}(hx:(Builtin.lenOf x).run P w=.ok 0 w)(hn:(Builtin.firstCells i.size 0 x).run P w=.ok #[] w):
  (Builtin.append_ #[t,u] ty #[.slice ao L L,x]).run P w=.ok (.slice ao L L) w:=by
 have hz:(match d with|.int _=>true|_=>false)=false:=by cases d<;>first|rfl|exact absurd rfl (hd _)
 cases ao<;>simp[Builtin.append_,run_underlying ht,run_underlying hu,sizeOf,typeInfo,hi,hx,hn,hz,storeCells]
theorem Z1z{t u ty e:TypeId}{i:TypeInfo}{d:TypeDesc}{zr:List PV}{str:Bool}{R:List (List PV)}{q:PV}{vp vq:Value}(ht:P.underlying t=some (.slice e))(hu:P.underlying u=some d)(hd:∀k,d≠.int k)(hi:P.info? e=some i)(hzo:zeroOf P e=some zr)(hzl:zr.length=i.size)
  (r:Rel g w h)(hp:Xcs g i.size vp R)(hR:∀x∈R,x.length=i.size)(hq:Rep g vq q)(hoq:Zf9 h str i.size q)
  (hrows:∀x∈Zax h q,x.length=i.size)(h63:R.length+(Zax h q).length≤4611686018427387904)(hfit:(R.length+(Zax h q).length)*i.bytes≤140737488355328):
  (Zax h q=[]∧(Builtin.append_ #[t,u] ty #[vp,vq]).run P w=.ok vp w)∨
  ∃v w' g',(Builtin.append_ #[t,u] ty #[vp,vq]).run P w=.ok v w'∧Rep g' v (.own h.top 0 (R.length+(Zax h q).length))∧Rel g' w' (h.push (.arr false i.size (R++Zax h q)))∧Evo g w h g' w' (h.push (.arr false i.size (R++Zax h q))):=by
 obtain⟨hx,hnews⟩:=Zr2 (P:=P) r hq hoq;obtain⟨_,holds⟩:=Zr2 (P:=P) (str:=false) (z:=i.size) r hp.2 ⟨rfl,rfl⟩;obtain⟨j,zv,hj,hzv,hcs⟩:=Zes hzo;rw[hi]at hj;simp only[Zx0]at hj;subst hj;obtain⟨zs,_⟩:=Zdt (g:=g) hcs;obtain⟨⟨ao,rfl⟩,_⟩:=hp;generalize Zax h q=src at*;have holds':∀w':World,w'.heap=w.heap→∃cs:List Value,(Builtin.firstCells i.size R.length (.slice ao R.length R.length)).run P w'=.ok cs.toArray w'∧RowsIn g cs i.size R:=holds;by_cases h0:src.length=0
 ·obtain rfl:src=[]:=by simpa using h0
  refine .inl ⟨rfl,?_⟩;obtain⟨cs,hcs1,hcs2⟩:=hnews w rfl;have hcs0:cs=[]:=by have:=hcs2.1;simpa using this
  subst hcs0;exact Zu2 ht hu hd hi hx hcs1
 ·refine .inr ?_;obtain⟨cs,hcs1,hcs2⟩:=hnews w.drew rfl;obtain⟨os,hos1,hos2⟩:=holds' w.drew rfl;obtain⟨cap',hcap,hrun⟩:=Zg3 (ty:=ty) (ao:=ao) (L:=R.length) (C:=R.length) ht hu hd hi hzv hx hcs1 hos1 (by omega) h63 hfit;have hboth:=Zji hos2 hcs2;have hrl2:∀k,k<(R++src).length→(PV.row (R++src) k).length=i.size:=fun k hk=>by
   have:PV.row (R++src) k∈R++src:=by simp only[PV.row,Zx1,Zye hk,Option.getD_some];exact Zyl hk
   rcases List.mem_append.1 this with h|h
   ·exact hR _ h
   ·exact hrows _ h
  have hsize:(os++cs++(Builtin.zeroCells zv.cells (cap'-(R.length+src.length))).toList).toArray.size=cap'*i.size:=by
   simp only[List.size_toArray,Zx5,Array.length_toList,size_zeroCells,hcs2.1,hos2.1,zs,hzl];rw[←Nat.add_mul,←Nat.add_mul];congr 1;omega
  obtain⟨g',f2,_,f3,f4,f5⟩:=r.put none w.heap.size 0 (cap'*i.size) i.size (.arr false i.size (R++src)) (w.drew.alloc (.cells (os++cs++(Builtin.zeroCells zv.cells (cap'-(R.length+src.length))).toList).toArray e))
   (.inl (Nat.le_refl _)) (fun k hk _=>Z5t _ _ hk) (by rw[Zk5];omega) (by rw[Zk5];omega) rfl rfl rfl rfl (fun g' hg'=>by
    refine⟨rfl,hrl2,by simp only[Zx5,Nat.zero_add];exact Nat.mul_le_mul_right _ hcap,_,e,Z5u _ _,hsize,fun x y hx' hy=>?_⟩;have hk:=Za7 hx' hy;obtain⟨c1,c2⟩:=hboth.2 x y hx' hy;have e1:(os++cs++(Builtin.zeroCells zv.cells (cap'-(R.length+src.length))).toList).toArray.getD (0+x*i.size+y) Go.undef=(os++cs).getD (x*i.size+y) Go.undef:=by
     have:x*i.size+y<(os++cs).length:=by rw[hboth.1];exact hk
     rw[Nat.zero_add,Zx6,List.getElem?_toArray,List.getElem?_append_left this,Zx1]
    rw[e1];exact⟨c1,c2.mono hg',fun hh=>by cases hh⟩)
  refine⟨_,_,g',hrun,?_,f4,f5⟩;exact .own h.top 0 (R.length+src.length) cap' w.heap.size 0 (cap'*i.size) i.size ⟨w.heap.size,0,none⟩ f3 (by simp) hcap (by simp)
end
end Go.VM
