import Derived.Test.YtldogpfookkbaaaGreatDoorVm1
import Derived.Laws.BytesArg
set_option linter.all false
namespace Go.VM
open Go
section
variable {P:Program} {g:Gh} {w:World} {h:Heap} {a:Act} {e:Env}
theorem Z2z{c x y:PV}{vc vx vy:Value}(hc:Rep g vc c)(hx:Rep g vx x)(hy:Rep g vy y)(hok:isBool c):
  ∃b,vc=.bool b∧Rep g (if b then vx else vy) (Zpl c x y):=by
 cases c<;>simp only[isBool]at hok
 rename_i b;refine⟨b,hc.bool_inv,?_⟩;cases b
 ·exact hy
 ·exact hx
theorem Z94{op:UnOp}{p:PV}{v:Value}(hv:Rep g v p)(hok:Z5f op p):∃u,(Op.unary op v).run P w=.ok u w∧Rep g u (unV op p):=by
 cases p<;>simp only[Z5f]at hok
 case int k n=>
  obtain rfl:=hv.int_inv;cases op<;>simp only at hok
  exact⟨_,rfl,.int _ _⟩
 case bool b=>
  obtain rfl:=hv.bool_inv;cases op<;>simp only at hok
  exact⟨_,rfl,.bool _⟩
theorem Zty{t:TypeId}{ty:TypeId}{p:PV}{v:Value}{st:Bool}(hv:Rep g v p)(hok:Zis st p)(hu:(P.underlying t=some .string∧st=true)∨(∃e,P.underlying t=some (.slice e))∧st=false):
  (Builtin.len_ #[t] ty #[v]).run P w=.ok (.int .i64 (Zmo p)) w:=by
 rcases hu with⟨hu,rfl⟩|⟨⟨e,hu⟩,rfl⟩
 ·cases p<;>simp[Zis]at hok
  obtain⟨s,rfl,rfl⟩:=hv.str_inv;have hsz:s.size=s.data.toList.length:=by rw[Array.length_toList];rfl
  simp only[Builtin.len_,Zmo,←hsz];simp[run_underlying hu,goInt]
 ·cases p<;>simp[Zis]at hok
  case nilsl=>cases hv;simp[Builtin.len_,Zmo,run_underlying hu,goInt]
  case sl z es=>
   cases hv with
   |slE ao cap=>simp[Builtin.len_,Zmo,run_underlying hu,goInt]
   |sl b o len cap z a' es vs ha hl hc hz hm hr=>subst hl;simp[Builtin.len_,Zmo,run_underlying hu,goInt]
  case own id off len=>cases hv<;>simp[Builtin.len_,Zmo,run_underlying hu,goInt]
theorem Z5o{i:Nat}{p:PV}{v:Value}(hv:Rep g v p)(hok:Zrx i p):∃u,(Instr.extract v i).run P w=.ok u w∧Rep g u (Xci i p):=by
 cases p<;>simp only[Zrx]at hok
 rename_i l;obtain⟨vs,rfl,hs,hr⟩:=hv.tup_inv;have hi:i<vs.size:=by omega
 refine⟨vs.getD i Go.undef,?_,hr i hok⟩;simp[Instr.extract,Array.getElem?_eq_getElem hi,Array.getD,hi]
theorem Z04{mx:Bool}{x y:PV}{vx vy:Value}(hx:Rep g vx x)(hy:Rep g vy y)(h1:isInt x)(h2:isInt y):
  ∃u,(if mx then Builtin.max_ #[] 0 #[vx,vy]else Builtin.min_ #[] 0 #[vx,vy]).run P w=.ok u w∧Rep g u (mmV mx x y):=by
 cases x<;>simp only[isInt]at h1
 cases y<;>simp only[isInt]at h2
 obtain rfl:=hx.int_inv;obtain rfl:=hy.int_inv;cases mx
 ·refine⟨_,?_,.int _ _⟩;simp[Builtin.min_,Builtin.min2,mmV]
 ·refine⟨_,?_,.int _ _⟩;simp[Builtin.max_,Builtin.max2,mmV]
theorem Xc9{X:Sem Value}{x:Value}(hx:X.run P w=.ok x w):((do pure (.value (←X)):Sem Next)).run P w=.ok (.value x) w:=by simp[hx]
theorem Znj{t:TypeId}:∀{ps:List (Nat×Operand)} {qs:List (Nat×Nat×VA)},Zp8 P t ps=some qs→ps.length=qs.length∧
  ∀(i:Nat) (p:Nat×Operand) (q:Nat×Nat×VA),ps[i]?=some p→qs[i]?=some q→cA p.2=some q.2.2∧
   ((∃fs f,P.underlying t=some (.struct fs)∧fs[p.1]?=some f∧f.offset=q.1∧Zc2 P f.type=some q.2.1)∨(∃n ty s,P.underlying t=some (.array n ty)∧Zc2 P ty=some s∧q.1=p.1*s∧q.2.1=s))
 | [],qs,h=>by simp only[Zp8,Zx0]at h;subst h;exact⟨rfl,fun i p q hp=>by simp at hp⟩
 | (i,x)::r,qs,h=>by
  simp only[Zp8]at h;split at h
  ·rename_i o s va q h1 h2 h3;simp only[Zx0]at h;subst h;obtain⟨ih1,ih2⟩:=Znj h3;refine⟨by simp[ih1],fun j p q' hp hq=>?_⟩;cases j with
   |succ j=>exact ih2 j p q' (by simpa using hp) (by simpa using hq)
   | zero=>
    simp only[Zyp,Zx0]at hp hq;subst hp hq;refine⟨h2,?_⟩;split at h1
    ·rename_i fs hu;split at h1
     ·rename_i f hf;simp only[Option.map_eq_some_iff,Prod.mk.injEq]at h1;obtain⟨s',hs,rfl,rfl⟩:=h1;exact .inl ⟨fs,f,hu,hf,rfl,hs⟩
     ·cases h1
    ·rename_i n ty hu;simp only[Option.map_eq_some_iff,Prod.mk.injEq]at h1;obtain⟨s',hs,rfl,rfl⟩:=h1;exact .inr ⟨n,ty,s',hu,hs,rfl,rfl⟩
    ·cases h1
  ·cases h
theorem Zes{t:TypeId}{zr:List PV}(h:zeroOf P t=some zr):∃i v,P.info? t=some i∧i.zero=some v∧Zws v.cells.toList=some zr:=by
 unfold zeroOf at h;split at h
 ·rename_i i hi;split at h
  ·rename_i v hv;exact⟨i,v,hi,hv,h⟩
  ·cases h
 ·cases h
theorem Ze6{t:TypeId}{i:TypeInfo}{v:Value}(hi:P.info? t=some i)(hv:i.zero=some v):(zeroValue t).run P w=.ok v w:=by
 simp[zeroValue,run_typeInfo w hi,hv]
theorem Zdt{zr:List PV}{v:Value}(h:Zws v.cells.toList=some zr):v.cells.size=zr.length∧∀j,j<zr.length→(v.cells.getD j Go.undef).oneCell'=true∧Rep g (v.cells.getD j Go.undef) (PV.nth zr j):=by
 have hl:=Zmy h;rw[Array.length_toList]at hl;refine⟨hl,fun j hj=>?_⟩;have h1:=Zry h j hj;have h2:=Zmz (g:=g) h j hj;have e1:v.cells.toList.getD j Go.undef=v.cells.getD j Go.undef:=by simp[Zx6]
 rw[e1]at h1 h2;exact⟨h1,h2⟩
theorem Znk:∀(l:List Field),(∀f∈l,∃s,Zc2 P f.type=some s)→(l.mapM fun f=>do pure (f.offset,←sizeOf f.type):Sem (List (Nat×Nat))).run P w=.ok (l.map fun f=>(f.offset,(Zc2 P f.type).getD 0)) w
 | [],_=>by simp
 |f::r,h=>by
  obtain⟨s,hs⟩:=h f (by simp);have ih:=Znk r (fun f hf=>h f (by simp[hf]));simp only[List.mapM_cons,Sem.run_bind,Zeb hs,Result.andThen_ok,Sem.run_pure,ih,List.map_cons,hs,Option.getD_some]
theorem Zw0{t:TypeId}{parts:Array (Nat×Operand)}{zr:List PV}{ps:List (Nat×Nat×VA)}(he:Zas g a e)(hz:zeroOf P t=some zr)(hps:Zp8 P t parts.toList=some ps)(hfo:Zrv P t=true)
  (hok:Ze5 e zr.length ps):∃v,(Instr.build t (parts.map fun(i,x)=>(i,a.eval x))).run P w=.ok v w∧Rep g v (.agg (Zgx e zr ps)):=by
 obtain⟨i,v,hi,hv,hcs⟩:=Zes hz;obtain⟨hl,hsp⟩:=Znj hps;obtain⟨z1,z2⟩:=Zdt (g:=g) hcs;have fin:∀place:Nat→Option (Nat×Nat),(∀(i:Nat) (p:Nat×Operand) (q:Nat×Nat×VA),parts.toList[i]?=some p→ps[i]?=some q→place p.1=some (q.1,q.2.1)∧cA p.2=some q.2.2)→
   ∃out,Instr.fill place v.cells (parts.map fun(i,x)=>(i,a.eval x)).toList=some out∧Rep g (.agg out) (.agg (Zgx e zr ps)):=by
  intro place hp;obtain⟨out,o1,o2,o3,o4⟩:=Zk1 he place parts.toList ps v.cells zr hl hp z1 z2 hok;refine⟨out,by rw[Array.toList_map];exact o1,.agg _ _ (by omega) (fun j hj=>(o4 j (by omega)).1) (fun j hj=>(o4 j (by omega)).2)⟩
 unfold Zrv at hfo;split at hfo
 ·rename_i fs hu;have hall:∀f∈fs.toList,∃s,Zc2 P f.type=some s:=fun f hf=>Option.isSome_iff_exists.1 (List.all_eq_true.1 hfo f hf);have hm:=Znk (P:=P) (w:=w) fs.toList hall;have hma:(fs.mapM fun f=>do pure (f.offset,←sizeOf f.type):Sem (Array (Nat×Nat))).run P w=.ok (fs.toList.map fun f=>(f.offset,(Zc2 P f.type).getD 0)).toArray w:=by
   rw[Array.mapM_eq_mapM_toList,Sem.run_map,hm];rfl
  obtain⟨out,o1,o2⟩:=fin (fun i=>(fs.toList.map fun f=>(f.offset,(Zc2 P f.type).getD 0)).toArray[i]?) (fun i p q h1 h2=>by
   obtain⟨c1,c2⟩:=hsp i p q h1 h2;refine⟨?_,c1⟩;rcases c2 with⟨fs',f,hu',hf,ho,hs⟩|⟨n,ty,s,hu',_⟩
   ·rw[hu]at hu';simp only[Zx0,TypeDesc.struct.injEq]at hu';subst hu';simp[hf,ho,hs]
   ·rw[hu]at hu';simp at hu')
  refine⟨.agg out,?_,o2⟩;simp only[Instr.build,Sem.run_bind,Ze6 hi hv,Result.andThen_ok,run_underlying hu,hma,o1,Sem.run_pure]
 ·rename_i n ty hu;obtain⟨s,hs⟩:=Option.isSome_iff_exists.1 hfo;obtain⟨out,o1,o2⟩:=fin (fun i=>some (i*s,s)) (fun i p q h1 h2=>by
   obtain⟨c1,c2⟩:=hsp i p q h1 h2;refine⟨?_,c1⟩;rcases c2 with⟨fs',f,hu',hf,ho,_⟩|⟨n',ty',s',hu',hs',e1,e2⟩
   ·rw[hu]at hu';simp at hu'
   ·rw[hu]at hu';simp only[Zx0,TypeDesc.array.injEq]at hu';obtain⟨rfl,rfl⟩:=hu';rw[hs]at hs';simp only[Zx0]at hs';subst hs';rw[e1,e2])
  refine⟨.agg out,?_,o2⟩;simp only[Instr.build,Sem.run_bind,Ze6 hi hv,Result.andThen_ok,run_underlying hu,Zeb hs,o1,Sem.run_pure]
 ·cases hfo
theorem Z20{f:Fn}{x y:Array Operand}{vx vy:List VA}(he:Zas g a e)(hx:cAs x.toList=some vx)(hy:cAs y.toList=some vy):
  Rep g (.func f (x.map a.eval) (y.map a.eval)) (.fn f (vx.map (VA.ev e)) (vy.map (VA.ev e))):=by
 have key:∀(z:Array Operand) (vz:List VA),cAs z.toList=some vz→(z.map a.eval).size=(vz.map (VA.ev e)).length∧∀j,j<(vz.map (VA.ev e)).length→Rep g ((z.map a.eval).getD j Go.undef) (PV.nth (vz.map (VA.ev e)) j):=by
  intro z vz hz;have hl:=Zk0 hz;rw[Array.length_toList]at hl;refine⟨by simp[hl],fun j hj=>?_⟩;have:=Zww he hz j (by simpa using hj);have e1:(z.map a.eval).getD j Go.undef=(z.toList.map a.eval).getD j Go.undef:=by simp[Zx6]
  rw[e1];exact this
 obtain⟨a1,a2⟩:=key x vx hx;obtain⟨b1,b2⟩:=key y vy hy;exact .fn _ _ _ _ _ a1 b1 a2 b2
theorem Zal{α β:Type}{o:Option α}{f:α→β}{y:β}(h:o.map f=some y):∃x,o=some x∧f x=y:=by
 simpa[Option.map_eq_some_iff]using h
def Xck(g:Gh)(l:List MapEntry)(es:List (PV×PV)):Prop:=l.length=es.length∧∀(i:Nat) (e:MapEntry) (p:PV×PV),l[i]?=some e→es[i]?=some p→Rep g e.key p.1∧Rep g e.val p.2
theorem Xck.tail{e:MapEntry}{l:List MapEntry}{p:PV×PV}{es:List (PV×PV)}(h:Xck g (e::l) (p::es)):Xck g l es:=
 ⟨by simpa using h.1,fun i x y h1 h2=>h.2 (i+1) x y (by simpa using h1) (by simpa using h2)⟩
theorem Zr0{m:PV}{v:Value}(r:Rel g w h)(hm:Rep g v m)(hok:Zg2 h m):
  (v=.map none∧Zbl h m=[])∨∃b ents clock,v=.map (some b)∧w.heap[b]?=some (.map ents clock)∧Xck g ents.toList (Zbl h m):=by
 cases m<;>simp only[Zg2]at hok
 case nilmp=>cases hm;exact .inl ⟨rfl,rfl⟩
 case rmp es=>
  cases hm with
  |rmp b ents es hmm hl hk hv hs=>
   have hc:=r.mmem b _ hmm;refine .inr ⟨b,ents,_,rfl,hc,?_⟩;simp only[Zbl];exact⟨by simpa using hl,fun i e p h1 h2=>⟨hk i e p (by simpa using h1) h2,hv i e p (by simpa using h1) h2⟩⟩
 case mp id=>
  split at hok
  case h_2=>exact hok.elim
  rename_i es hg;cases hm with
  |mp id b o n z hb=>
  rcases r.blk id _ hg with⟨_,fz,z,hh⟩|⟨b',o',n',z',hb',_,_,hok'⟩
  ·cases hh
  ·rw[hb]at hb';simp only[Zx0,Prod.mk.injEq]at hb';obtain⟨rfl,-⟩:=hb';obtain⟨ents,clock,e1,e2,e3,_⟩:=hok';refine .inr ⟨b,ents,clock,rfl,e1,?_⟩;simp only[Zbl,hg];exact⟨by simpa using e2,fun i e p h1 h2=>e3 i e p (by simpa using h1) h2⟩
theorem Znl{c:Call}{o:Oper}{vop:VOp}(ho:o.op=.call c)(hc:Z2u P c o=some vop)(hp:vop.pure=true)(hok:pok e h vop)(hr:Rel g w h)(he:Zas g a e):
  ∃v,(execOp a.eval o).run P w=.ok (.value v) w∧Rep g v (Zcq e h vop):=by
 obtain⟨callee,args,argTypes⟩:=c;have args1:∀{x:Operand},args.toList=[x]→args=#[x]:=fun hh=>by rw[←Array.toArray_toList (xs:=args),hh]
 have args2:∀{x y:Operand},args.toList=[x,y]→args=#[x,y]:=fun hh=>by rw[←Array.toArray_toList (xs:=args),hh]
 have types1:∀{x:TypeId},argTypes.toList=[x]→argTypes=#[x]:=fun hh=>by rw[←Array.toArray_toList (xs:=argTypes),hh]
 have two:∀{l:List Operand} {q:List VA},cAs l=some q→∀va vb,q=[va,vb]→∃x y,l=[x,y]∧cA x=some va∧cA y=some vb:=by
  intro l q hl va vb hq;subst hq
  match l,hl with
  | [],hl=>have:=Zk0 hl;simp at this
  | [x],hl=>have:=Zk0 hl;simp at this
  | [x,y],hl=>
   simp only[cAs]at hl;split at hl<;>simp at hl
   rename_i p q hp hq;split at hq<;>simp at hq
   rename_i p' q' hp' hq';simp at hq';obtain⟨rfl,rfl⟩:=hl;simp only[List.cons.injEq]at hq;exact⟨x,y,rfl,hp,by rw[hp',hq.1]⟩
  |x::y::z::l,hl=>
   have:=Zk0 hl;simp at this
 unfold Z2u at hc;simp only at hc;split at hc
 ·split at hc
  case h_2=>cases hc
  rename_i x t hx ht;obtain rfl:=args1 hx;obtain rfl:=types1 ht;split at hc<;>(try (cases hc;done))<;>simp only[Zx0]at hc<;>subst hc
  ·rename_i va hva hu;have hl:=Zty (P:=P) (w:=w) (ty:=o.type) (Zat he hva) hok (.inl ⟨hu,rfl⟩);exact⟨_,by simp[execOp,ho,resolve,invoke,builtin,hl],.int _ _⟩
  ·rename_i va ty hva hu;have hl:=Zty (P:=P) (w:=w) (ty:=o.type) (Zat he hva) hok (.inr ⟨⟨ty,hu⟩,rfl⟩);exact⟨_,by simp[execOp,ho,resolve,invoke,builtin,hl],.int _ _⟩
  ·rename_i va kt et hva hu;rcases Zr0 hr (Zat he hva) hok with⟨hv,hrows⟩|⟨b,ents,clock,hv,hh,hent⟩
   ·exact⟨.int .i64 0,by simp[execOp,ho,resolve,invoke,builtin,hv,Builtin.len_,run_underlying hu,goInt],by simp only[Zcq,hrows];exact .int _ _⟩
   ·refine⟨.int .i64 ents.size,by simp[execOp,ho,resolve,invoke,builtin,hv,Builtin.len_,run_underlying hu,MapKept.run_getObj_map hh,goInt],?_⟩;have:=hent.1;simp only[Array.length_toList]at this;simp only[Zcq,←this];exact .int _ _
 ·split at hc
  case h_2=>cases hc
  split at hc
  ·split at hc
   ·split at hc
    ·simp only[Option.map_eq_some_iff]at hc;obtain⟨i,_,rfl⟩:=hc;simp[VOp.pure]at hp
    ·cases hc
   ·cases hc
  ·split at hc
   ·split at hc
    ·simp only[Option.map_eq_some_iff]at hc;obtain⟨i,_,rfl⟩:=hc;simp[VOp.pure]at hp
    ·cases hc
   ·cases hc
  ·cases hc
 ·simp only[Option.map_eq_some_iff]at hc;obtain⟨q,hq,rfl⟩:=hc
  match q,hok with
  | [va,vb],hok=>
   obtain⟨x,y,hl,h1,h2⟩:=two hq va vb rfl;obtain rfl:=args2 hl;obtain⟨u,hu,hr⟩:=Z04 (P:=P) (w:=w) (mx:=true) (Zat he h1) (Zat he h2) hok.1 hok.2;have hu':(Builtin.max_ argTypes o.type #[a.eval x,a.eval y]).run P w=.ok u w:=hu;exact⟨u,by simp[execOp,ho,resolve,invoke,builtin,hu'],hr⟩
 ·simp only[Option.map_eq_some_iff]at hc;obtain⟨q,hq,rfl⟩:=hc
  match q,hok with
  | [va,vb],hok=>
   obtain⟨x,y,hl,h1,h2⟩:=two hq va vb rfl;obtain rfl:=args2 hl;obtain⟨u,hu,hr⟩:=Z04 (P:=P) (w:=w) (mx:=false) (Zat he h1) (Zat he h2) hok.1 hok.2;have hu':(Builtin.min_ argTypes o.type #[a.eval x,a.eval y]).run P w=.ok u w:=hu;exact⟨u,by simp[execOp,ho,resolve,invoke,builtin,hu'],hr⟩
 ·split at hc
  ·simp only[Option.map_eq_some_iff]at hc;obtain⟨q,_,rfl⟩:=hc;simp[VOp.pure]at hp
  ·cases hc
 ·split at hc
  ·simp only[Option.map_eq_some_iff]at hc;obtain⟨q,_,rfl⟩:=hc;simp[VOp.pure]at hp
  ·cases hc
 ·split at hc
  ·simp only[Zx0]at hc;subst hc;simp[VOp.pure]at hp
  ·cases hc
 ·simp only[Zx0]at hc;subst hc;simp[VOp.pure]at hp
theorem Zjh:∀(a b c d:List PV),a.length=b.length→Zay (a++c) (b++d)=(Zay a b&&Zay c d)
 | [],[],c,d,_=>by simp[Zay]
 |x::a,y::b,c,d,h=>by
  simp only[List.cons_append,Zay];rw[Zjh a b c d (by simpa using h),Bool.and_assoc]
 | [],_::_,_,_,h=>by simp at h
 |_::_,[],_,_,h=>by simp at h
theorem Ze7:∀(ks:List EK) (a b:List PV),Zf7 ks a b→a.length=ks.length∧b.length=ks.length
 | [],[],[],_=>⟨rfl,rfl⟩
 |k::ks,x::a,y::b,h=>by
  have:=Ze7 ks a b h.2;simp[this]
 | [],_::_,_,h=>by simp[Zf7]at h
 | [],[],_::_,h=>by simp[Zf7]at h
 |_::_,[],_,h=>by simp[Zf7]at h
 |_::_,_::_,[],h=>by simp[Zf7]at h
theorem Zk2:∀(ks ls:List EK) (a b:List PV),Zf7 (ks++ls) a b→Zf7 ks (a.take ks.length) (b.take ks.length)∧Zf7 ls (a.drop ks.length) (b.drop ks.length)
 | [],ls,a,b,h=>⟨by simp[Zf7],by simpa using h⟩
 |k::ks,ls,x::a,y::b,h=>by
  obtain⟨h1,h2⟩:=Zk2 ks ls a b h.2;exact⟨⟨h.1,h1⟩,h2⟩
 |_::_,_,[],_,h=>by simp[Zf7]at h
 |_::_,_,_::_,[],h=>by simp[Zf7]at h
theorem Zqc{p q:PV}(h:Zgw .b p q):∃a c,p=.bool a∧q=.bool c:=by
 cases p<;>simp only[Zgw]at h<;>cases q<;>first|exact⟨_,_,rfl,rfl⟩|exact h.elim
theorem Zqd{p q:PV}(h:Zgw .i p q):∃k a c,p=.int k a∧q=.int k c:=by
 cases p<;>try (simp only[Zgw]at h;done)
 cases q<;>try (simp only[Zgw]at h;done)
 simp only[Zgw]at h;subst h;exact⟨_,_,_,rfl,rfl⟩
theorem Zqe{p q:PV}(h:Zgw .s p q):∃a c,p=.str a∧q=.str c:=by
 cases p<;>try (simp only[Zgw]at h;done)
 cases q<;>try (simp only[Zgw]at h;done)
 exact⟨_,_,rfl,rfl⟩
def Zqf(g:Gh)(xs:Array Value)(cx:List PV):Prop:=xs.size=cx.length∧∀j,j<cx.length→Rep g (xs.getD j Go.undef) (PV.nth cx j)
def asV(b:Bool)(xs:Array Value):Value:=if b then .agg xs else xs.getD 0 Go.undef
theorem Zw1{d:Nat}{t:TypeId}{ks:List EK}(h:flatK P d t=some ks):Zc2 P t=some ks.length∧∃b,Zeq P t=some b∧(b=false→ks.length=1):=by
 cases d with
 |zero=>simp[flatK]at h
 | succ d=>
  simp only[flatK]at h;unfold Zeq;split at h
  ·rename_i hu;split at h
   ·rename_i hs;simp only[Zx0]at h;subst h;rw[hu];exact⟨by simpa using hs,false,rfl,fun _=>rfl⟩
   ·cases h
  ·rename_i hu;split at h
   ·rename_i hs;simp only[Zx0]at h;subst h;rw[hu];exact⟨by simpa using hs,false,rfl,fun _=>rfl⟩
   ·cases h
  ·rename_i hu;split at h
   ·rename_i hs;simp only[Zx0]at h;subst h;rw[hu];exact⟨by simpa using hs,false,rfl,fun _=>rfl⟩
   ·cases h
  ·rename_i hu;split at h
   ·split at h
    ·rename_i hs;simp only[Zx0]at h;subst h;rw[hu];simp only[Zx4,beq_iff_eq]at hs;exact⟨hs.2,true,rfl,fun h=>by cases h⟩
    ·cases h
   ·cases h
  ·cases h
theorem Z05:∀(d:Nat) (t:TypeId) (ks:List EK),flatK P d t=some ks→∀(D:Nat),d≤D→∀(b:Bool),Zeq P t=some b→∀(xs ys:Array Value) (cx cy:List PV),Zqf g xs cx→Zqf g ys cy→Zf7 ks cx cy→
  (Op.equalIn D t (asV b xs) (asV b ys)).run P w=.ok (Zay cx cy) w:=by
 intro d
 induction d with
 |zero=>intro t ks h;simp[flatK]at h
 | succ d ih=>
  intro t ks h D hD b hb xs ys cx cy hx hy hok;obtain⟨D',rfl⟩:∃D',D=D'+1:=⟨D-1,by omega⟩;obtain⟨hlx,hly⟩:=Ze7 _ _ _ hok;have hsz:=Zw1 h;simp only[flatK]at h;unfold Zeq at hb;split at h
  ·rename_i hu;rw[hu]at hb;simp only[Zx0]at hb;subst hb;split at h
   case isFalse=>cases h
   simp only[Zx0]at h;subst h
   match cx,cy,hlx,hly with
   | [p],[q],_,_=>
    have r1:=hx.2 0 (by simp);have r2:=hy.2 0 (by simp);simp only[asV,Zyu,if_false,PV.nth,List.getD_cons_zero]at r1 r2⊢;obtain⟨a,c,rfl,rfl⟩:=Zqc hok.1;rw[r1.bool_inv,r2.bool_inv,run_equalIn_bool' w D' t _ _ hu];simp[Zay,Zbo]
  ·rename_i k0 hu;rw[hu]at hb;simp only[Zx0]at hb;subst hb;split at h
   case isFalse=>cases h
   simp only[Zx0]at h;subst h
   match cx,cy,hlx,hly with
   | [p],[q],_,_=>
    have r1:=hx.2 0 (by simp);have r2:=hy.2 0 (by simp);simp only[asV,Zyu,if_false,PV.nth,List.getD_cons_zero]at r1 r2⊢;obtain⟨k,a,c,rfl,rfl⟩:=Zqd hok.1;rw[r1.int_inv,r2.int_inv,run_equalIn_int w D' t _ _ _ _ hu];simp[Zay,Zbo]
  ·rename_i hu;rw[hu]at hb;simp only[Zx0]at hb;subst hb;split at h
   case isFalse=>cases h
   simp only[Zx0]at h;subst h
   match cx,cy,hlx,hly with
   | [p],[q],_,_=>
    have r1:=hx.2 0 (by simp);have r2:=hy.2 0 (by simp);simp only[asV,Zyu,if_false,PV.nth,List.getD_cons_zero]at r1 r2⊢;obtain⟨a,c,rfl,rfl⟩:=Zqe hok.1;obtain⟨s1,e1,rfl⟩:=r1.str_inv;obtain⟨s2,e2,rfl⟩:=r2.str_inv;rw[e1,e2,run_equalIn_string w D' t _ _ hu,ByteArray.toList_eq,ByteArray.toList_eq];simp only[Zay,Zbo,Bool.and_true]
  ·rename_i fs hu;rw[hu]at hb;simp only[Zx0]at hb;subst hb;split at h
   case h_2=>cases h
   rename_i ks' hfl;split at h
   case isFalse=>cases h
   rename_i hst;simp only[Zx0]at h;subst h;simp only[Zx4,Bool.not_eq_true',beq_iff_eq]at hst;have hfo:P.fieldsOf t=fs:=by simp[Program.fieldsOf,hu]
   simp only[asV,if_true];rw[run_equalIn_struct w D' t xs ys (by rw[hfo];exact hu) hst.1,hfo];have key:∀(l:List Field) (o:Nat) (ls:List EK),Zp7 P (flatK P d) l o=some ls→o≤cx.length→Zf7 ls (cx.drop o) (cy.drop o)→(Op.eqFields D' xs ys l).run P w=.ok (Zay (cx.drop o) (cy.drop o)) w:=by
    intro l
    induction l with
    |nil=>
     intro o ls ho hoc hok';simp only[Zp7,Zx0]at ho;subst ho;obtain⟨q1,q2⟩:=Ze7 _ _ _ hok';rw[List.eq_nil_of_length_eq_zero q1,List.eq_nil_of_length_eq_zero q2];simp[Op.eqFields,Zay]
    | cons f l ihl=>
     intro o ls ho hoc hok';simp only[Zp7]at ho;split at ho
     case isFalse=>cases ho
     rename_i hc;simp only[Zx4,bne_iff_ne,ne_eq,beq_iff_eq]at hc;obtain⟨c1,c2⟩:=hc;split at ho
     case h_2=>cases ho
     rename_i k1 c3;split at ho
     case h_2=>cases ho
     rename_i q1 c4;simp only[Zx0]at ho;subst ho;obtain⟨v1,v2⟩:=Ze7 _ _ _ hok';simp only[Zx5,List.length_drop]at v1 v2;obtain⟨m1,m2⟩:=Zk2 _ _ _ _ hok';rw[List.drop_drop,List.drop_drop]at m2;obtain⟨hsz',b',hb',hone⟩:=Zw1 c3;have l1:((cx.drop o).take k1.length).length=k1.length:=by simp;omega
     have l2:((cy.drop o).take k1.length).length=k1.length:=by simp;omega
     have hpx:=Zje (P:=P) hsz' hb' w xs f.offset (by rw[c2,hx.1];omega) hone;have hpy:=Zje (P:=P) hsz' hb' w ys f.offset (by rw[c2,hy.1];omega) hone;have sub:∀(zs:Array Value) (cz:List PV),Zqf g zs cz→o+k1.length≤cz.length→Zqf g (zs.extract o (o+k1.length)) ((cz.drop o).take k1.length):=by
      intro zs cz hz hzl;refine⟨by simp;have:=hz.1;omega,fun j hj=>?_⟩;have hj':j<k1.length:=by simp at hj;omega
      rw[Zd2 _ _ _ hj',Zjf,getD_extract _ _ _ _ (by omega) (by have:=hz.1;omega)];exact hz.2 _ (by omega)
     have asv:∀(zs:Array Value),zs.size≥o+k1.length→(if b'=true then Value.agg (zs.extract o (o+k1.length))else zs.getD o Go.undef)=asV b' (zs.extract o (o+k1.length)):=by
      intro zs hz;cases b'
      ·have:=hone rfl;simp only[asV,Zyu,if_false];rw[getD_extract _ _ _ _ (by omega) (by omega)];simp
      ·rfl
     have hrec:=ih f.type k1 c3 D' (by omega) b' hb' (xs.extract o (o+k1.length)) (ys.extract o (o+k1.length)) _ _ (sub xs cx hx (by omega)) (sub ys cy hy (by omega)) m1;rw[c2]at hpx hpy;rw[asv xs (by have:=hx.1;omega)]at hpx;rw[asv ys (by have:=hy.1;omega)]at hpy;have hrest:=ihl (o+k1.length) q1 c4 (by omega) m2;have e3:=Zjh ((cx.drop o).take k1.length) ((cy.drop o).take k1.length) (cx.drop (o+k1.length)) (cy.drop (o+k1.length)) (by omega);rw[←List.drop_drop,←List.drop_drop,List.take_append_drop,List.take_append_drop,List.drop_drop,List.drop_drop]at e3;rw[e3];simp only[Op.eqFields,if_pos c1,Sem.run_bind,c2,hpx,hpy,Result.andThen_ok,hrec];cases hq:Zay ((cx.drop o).take k1.length) ((cy.drop o).take k1.length)
     ·simp
     ·simpa using hrest
   have:=key fs.toList 0 ks' hfl (Zyw _) (by simpa using hok)
   simpa using this
  ·cases h
theorem Ztz{t:TypeId}{x y:Operand}{vx vy:Value}{px py:PV}{ks:List EK}{neg:Bool}{fs:Array Field}(hf:flatK P 6 t=some ks)(hu:P.underlying t=some (.struct fs))(hm:P.eqGuardType P.depth t=false)
  (hx:Rep g vx px)(hy:Rep g vy py)(h1:Ze4 px)(h2:Ze4 py)(hok:Zf7 ks (Za6 px) (Za6 py)):
  ∃v,((do eqGuard (if neg then .neq else .eql) t x y vx vy;binOp (if neg then .neq else .eql) t vx vy:Sem Value)).run P w=.ok v w∧Rep g v (.bool (Zay (Za6 px) (Za6 py) !=neg)):=by
 cases px<;>simp only[Ze4]at h1
 cases py<;>simp only[Ze4]at h2
 rename_i cx cy;obtain⟨xs,rfl,s1,_,r1⟩:=hx.agg_inv;obtain⟨ys,rfl,s2,_,r2⟩:=hy.agg_inv;simp only[Za6]at hok⊢;have hb:Zeq P t=some true:=by unfold Zeq;rw[hu]
 have hrun:=Z05 (P:=P) (g:=g) (w:=w) 6 t ks hf 10000 (by omega) true hb xs ys cx cy ⟨s1,r1⟩ ⟨s2,r2⟩ hok;simp only[asV,if_true]at hrun;cases neg
 ·refine⟨.bool (Zay cx cy),?_,by simpa using Rep.bool _⟩;simp only[Zyu,if_false,Sem.run_bind,run_eqGuard_agg w _ t x y xs ys hm,Result.andThen_ok,run_eql_struct,hrun]
 ·refine⟨.bool (!Zay cx cy),?_,by simpa using Rep.bool _⟩;simp only[if_true,Sem.run_bind,run_eqGuard_agg w _ t x y xs ys hm,Result.andThen_ok,run_neq_struct,hrun]
theorem Z5p{em:Bool}:∀(d:Nat) (t:TypeId) (ks:List EK),flatK P d t=some ks→∀(D:Nat),d≤D→∀(b:Bool),Zeq P t=some b→∀(xs:Array Value) (cx:List PV),Zqf g xs cx→Zf7 ks cx cx→
  (Instr.checkKey em D t (asV b xs)).run P w=.ok () w:=by
 intro d
 induction d with
 |zero=>intro t ks h;simp[flatK]at h
 | succ d ih=>
  intro t ks h D hD b hb xs cx hx hok;obtain⟨D',rfl⟩:∃D',D=D'+1:=⟨D-1,by omega⟩;obtain⟨hlx,-⟩:=Ze7 _ _ _ hok;simp only[flatK]at h;unfold Zeq at hb;have one:∀(k:EK),ks=[k]→b=false→(P.underlying t=some .bool∨(∃q,P.underlying t=some (.int q))∨P.underlying t=some .string)→(Instr.checkKey em (D'+1) t (asV b xs)).run P w=.ok () w:=by
   rintro k rfl rfl hu
   match cx,hlx with
   | [p],_=>
    have r1:=hx.2 0 (by simp);simp only[asV,Zyu,if_false,PV.nth,List.getD_cons_zero]at r1⊢;have hbasic:(∃c,xs.getD 0 Go.undef=.bool c)∨(∃k n,xs.getD 0 Go.undef=.int k n)∨∃s,xs.getD 0 Go.undef=.string s:=by
     cases k
     ·obtain⟨a,c,rfl,-⟩:=Zqc hok.1;exact .inl ⟨_,r1.bool_inv⟩
     ·obtain⟨k,a,c,rfl,-⟩:=Zqd hok.1;exact .inr (.inl ⟨_,_,r1.int_inv⟩)
     ·obtain⟨a,c,rfl,-⟩:=Zqe hok.1;obtain⟨s1,e1,_⟩:=r1.str_inv;exact .inr (.inr ⟨_,e1⟩)
    rcases hu with hu|⟨q,hu⟩|hu<;>rcases hbasic with⟨c,e1⟩|⟨k,n,e1⟩|⟨s,e1⟩<;>rw[e1]<;>simp[Instr.checkKey,run_underlying hu]
  split at h
  ·rename_i hu;rw[hu]at hb;simp only[Zx0]at hb;subst hb;split at h
   case isFalse=>cases h
   simp only[Zx0]at h;subst h;exact one _ rfl rfl (.inl hu)
  ·rename_i k0 hu;rw[hu]at hb;simp only[Zx0]at hb;subst hb;split at h
   case isFalse=>cases h
   simp only[Zx0]at h;subst h;exact one _ rfl rfl (.inr (.inl ⟨_,hu⟩))
  ·rename_i hu;rw[hu]at hb;simp only[Zx0]at hb;subst hb;split at h
   case isFalse=>cases h
   simp only[Zx0]at h;subst h;exact one _ rfl rfl (.inr (.inr hu))
  ·rename_i fs hu;rw[hu]at hb;simp only[Zx0]at hb;subst hb;split at h
   case h_2=>cases h
   rename_i ks' hfl;split at h
   case isFalse=>cases h
   simp only[Zx0]at h;subst h;simp only[asV,if_true];rw[Instr.checkKey];simp only[Sem.run_bind,run_underlying hu,Result.andThen_ok];rw[←Array.forIn_toList];have hok0:Zf7 ks' (cx.drop 0) (cx.drop 0):=by simpa using hok
   have ho0:0≤cx.length:=Zyw _;clear hu hok hlx one;rename_i hst;clear hst;generalize fs.toList=l at hfl;generalize 0=o at hfl hok0 ho0
   induction l generalizing o ks' with
   |nil=>simp
   | cons f l ihl=>
    simp only[Zp7]at hfl;split at hfl
    case isFalse=>cases hfl
    rename_i hc;simp only[Zx4,bne_iff_ne,ne_eq,beq_iff_eq]at hc;obtain⟨c1,c2⟩:=hc;split at hfl
    case h_2=>cases hfl
    rename_i k1 c3;split at hfl
    case h_2=>cases hfl
    rename_i q1 c4;simp only[Zx0]at hfl;subst hfl;obtain⟨v1,v2⟩:=Ze7 _ _ _ hok0;simp only[Zx5,List.length_drop]at v1;obtain⟨m1,m2⟩:=Zk2 _ _ _ _ hok0;rw[List.drop_drop]at m2;obtain⟨hsz',b',hb',hone⟩:=Zw1 c3;have hpx:=Zje (P:=P) hsz' hb' w xs f.offset (by rw[c2,hx.1];omega) hone;have sub:Zqf g (xs.extract o (o+k1.length)) ((cx.drop o).take k1.length):=by
     refine⟨by simp;have:=hx.1;omega,fun j hj=>?_⟩;have hj':j<k1.length:=by simp at hj;omega
     rw[Zd2 _ _ _ hj',Zjf,getD_extract _ _ _ _ (by omega) (by have:=hx.1;omega)];exact hx.2 _ (by omega)
    have asv:(if b'=true then Value.agg (xs.extract o (o+k1.length))else xs.getD o Go.undef)=asV b' (xs.extract o (o+k1.length)):=by
     cases b'
     ·have:=hone rfl;simp only[asV,Zyu,if_false];rw[getD_extract _ _ _ _ (by omega) (by have:=hx.1;omega)];simp
     ·rfl
    have hrec:=ih f.type k1 c3 D' (by omega) b' hb' (xs.extract o (o+k1.length)) _ sub m1;rw[c2,asv]at hpx;simp only[List.forIn_cons,Sem.run_bind,ne_eq,c1,not_false_eq_true,if_true,c2,hpx,Result.andThen_ok,hrec,Sem.run_pure];exact ihl q1 (o+k1.length) c4 m2 (by omega)
  ·cases h
theorem Zt0{k:EK}{p q:PV}{v u:Value}(hk:Zgw k p q)(he:Zbo p q=true)(hv:Rep g v p)(hu:Rep g u q)(n:Nat):Instr.sameBits n u v=true:=by
 cases k
 ·obtain⟨a,c,rfl,rfl⟩:=Zqc hk;rw[hv.bool_inv,hu.bool_inv];simp only[Zbo,beq_iff_eq]at he;subst he;cases n<;>simp[Instr.sameBits]
 ·obtain⟨k,a,c,rfl,rfl⟩:=Zqd hk;rw[hv.int_inv,hu.int_inv];simp only[Zbo,beq_iff_eq]at he;subst he;cases n<;>simp[Instr.sameBits]
 ·obtain⟨a,c,rfl,rfl⟩:=Zqe hk;obtain⟨s1,rfl,h1⟩:=hv.str_inv;obtain⟨s2,rfl,h2⟩:=hu.str_inv;simp only[Zbo,beq_iff_eq]at he;subst he;have:s1=s2:=by
   cases s1;cases s2;simp only[ByteArray.mk.injEq]
   apply Array.ext'
   rw[h1,h2]
  subst this;cases n<;>simp[Instr.sameBits,MapKept.bytes_beq]
theorem Zqg{n:Nat}:∀(ks:List EK) (cx cy:List PV) (xs ys:List Value),Zf7 ks cx cy→Zay cx cy=true→xs.length=cx.length→ys.length=cy.length→
  (∀j,j<cx.length→Rep g (xs.getD j Go.undef) (PV.nth cx j))→(∀j,j<cy.length→Rep g (ys.getD j Go.undef) (PV.nth cy j))→((ys.zip xs).all fun(x,y)=>Instr.sameBits n x y)=true
 | [],[],[],xs,ys,_,_,h1,h2,_,_=>by
  rw[List.eq_nil_of_length_eq_zero h1];simp
 |k::ks,p::cx,q::cy,x::xs,y::ys,hk,he,h1,h2,r1,r2=>by
  simp only[Zay,Zx4]at he;have a1:=r1 0 (by simp);have a2:=r2 0 (by simp);simp only[PV.nth,List.getD_cons_zero]at a1 a2;simp only[List.zip_cons_cons,List.all_cons,Zx4];refine⟨Zt0 hk.1 he.1 a1 a2 n,Zqg ks cx cy xs ys hk.2 he.2 (by simpa using h1) (by simpa using h2) (fun j hj=>?_) (fun j hj=>?_)⟩
  ·have:=r1 (j+1) (by simp;omega);simpa[PV.nth]using this
  ·have:=r2 (j+1) (by simp;omega);simpa[PV.nth]using this
 |_::_,[],_,_,_,h,_,_,_,_,_=>h.elim
 |_::_,_::_,[],_,_,h,_,_,_,_,_=>h.elim
 | [],_::_,_,_,_,h,_,_,_,_,_=>h.elim
 | [],[],_::_,_,_,h,_,_,_,_,_=>h.elim
 |_::_,_::_,_::_,[],_,_,_,h,_,_,_=>by simp at h
 |_::_,_::_,_::_,_::_,[],_,_,_,h,_,_=>by simp at h
theorem Zqh{kt:TypeId}{kk:KK}(h:Z90 P kt=some kk):
  (∃k d,kk=.one k∧P.underlying kt=some d∧((d=.bool∧k=.b)∨(∃q,d=.int q∧k=.i)∨(d=.string∧k=.s)))∨(∃ks fs,kk=.st ks∧P.underlying kt=some (.struct fs)∧flatK P 6 kt=some ks):=by
 unfold Z90 at h;split at h
 ·rename_i hu;simp only[Zx0]at h;exact .inl ⟨_,_,h.symm,hu,.inl ⟨rfl,rfl⟩⟩
 ·rename_i q hu;simp only[Zx0]at h;exact .inl ⟨_,_,h.symm,hu,.inr (.inl ⟨_,rfl,rfl⟩)⟩
 ·rename_i hu;simp only[Zx0]at h;exact .inl ⟨_,_,h.symm,hu,.inr (.inr ⟨rfl,rfl⟩)⟩
 ·rename_i fs hu;obtain⟨ks,hk,rfl⟩:=Zal h;exact .inr ⟨ks,fs,rfl,hu,hk⟩
 ·cases h
theorem Zw2{d:TypeDesc}{k:EK}(hd:(d=.bool∧k=.b)∨(∃q,d=.int q∧k=.i)∨(d=.string∧k=.s)){p q:PV}{v u:Value}(hk:Zgw k p q)(hv:Rep g v p)(hu:Rep g u q):Instr.sameNow d v u=some (Zc4 p q):=by
 rcases hd with⟨rfl,rfl⟩|⟨k0,rfl,rfl⟩|⟨rfl,rfl⟩
 ·obtain⟨a,c,rfl,rfl⟩:=Zqc hk;rw[hv.bool_inv,hu.bool_inv];simp[Instr.sameNow,Zc4,PV.cells,Zay,Zbo]
 ·obtain⟨k,a,c,rfl,rfl⟩:=Zqd hk;rw[hv.int_inv,hu.int_inv];simp[Instr.sameNow,Zc4,PV.cells,Zay,Zbo]
 ·obtain⟨a,c,rfl,rfl⟩:=Zqe hk;obtain⟨s1,rfl,h1⟩:=hv.str_inv;obtain⟨s2,rfl,h2⟩:=hu.str_inv;have:(s1==s2)=(a==c):=by
   rw[Bool.eq_iff_iff,MapKept.bytes_beq,beq_iff_eq];constructor
   ·rintro rfl;rw[←h1,h2]
   ·rintro rfl;cases s1;cases s2;simp only[ByteArray.mk.injEq]
    apply Array.ext'
    rw[h1,h2]
  simp[Instr.sameNow,Zc4,PV.cells,Zay,Zbo,this]
def Found(g:Gh)(key:Value)(pk:PV)(l:List MapEntry)(es:List (PV×PV))(i:Nat)(r:Option (Nat×Value)):Prop:=
 (Zbn pk es=none∧(∀pv,Zdo pk pv es=es++[(pk,pv)])∧r=none)∨
 ∃j e p,Zbn pk es=some p.2∧(∀pv,Zdo pk pv es=es.set j (pk,pv))∧l[j]?=some e∧es[j]?=some p∧r=some (i+j,e.val)∧Instr.sameBits 10000 e.key key=true∧Zc4 pk p.1=true
theorem Found.here{key:Value}{pk:PV}{e:MapEntry}{l:List MapEntry}{p:PV×PV}{es:List (PV×PV)}{i:Nat}(h:Zc4 pk p.1=true)(hs:Instr.sameBits 10000 e.key key=true):Found g key pk (e::l) (p::es) i (some (i,e.val)):=
 .inr ⟨0,e,p,by simp[Zbn,h],fun pv=>by simp[Zdo,h],rfl,rfl,rfl,hs,h⟩
theorem Found.there{key:Value}{pk:PV}{e:MapEntry}{l:List MapEntry}{p:PV×PV}{es:List (PV×PV)}{i:Nat}{r:Option (Nat×Value)}(h:Zc4 pk p.1=false)(hf:Found g key pk l es (i+1) r):Found g key pk (e::l) (p::es) i r:=by
 rcases hf with⟨h1,h2,h3⟩|⟨j,e',p',h1,h2,h3,h4,h5,h6⟩
 ·exact .inl ⟨by simp[Zbn,h,h1],fun pv=>by simp[Zdo,h,h2],h3⟩
 ·exact .inr ⟨j+1,e',p',by simp[Zbn,h,h1],fun pv=>by simp[Zdo,h,h2],by simpa using h3,by simpa using h4,by rw[h5];simp;omega,h6⟩
theorem Zr1{kt:TypeId}{kk:KK}(hk:Z90 P kt=some kk){key:Value}{pk:PV}(hkey:Rep g key pk){l:List MapEntry}{es:List (PV×PV)}(hr:Xck g l es)(hok:∀p∈es,Zc3 kk pk p.1):
  ∃r,(Instr.findKey kt key l).run P w=.ok r w∧Found g key pk l es 0 r:=by
 rcases Zqh hk with⟨k,d,rfl,hu,hd⟩|⟨ks,fs,rfl,hu,hfl⟩
 ·have scan:∀(l:List MapEntry) (es:List (PV×PV)) (i:Nat),Xck g l es→(∀p∈es,Zc3 (.one k) pk p.1)→ ∃r,Instr.findNow d key l i=some r∧Found g key pk l es i r:=by
   intro l
   induction l with
   |nil=>
    intro es i hr _;obtain rfl:es=[]:=List.eq_nil_of_length_eq_zero hr.1.symm;exact⟨none,rfl,.inl ⟨rfl,fun _=>rfl,rfl⟩⟩
   | cons e l ih=>
    intro es i hr hok
    match es,hr with
    | p::es,hr=>
     obtain⟨r1,r2⟩:=hr.2 0 e p rfl rfl;have hk1:Zgw k pk p.1:=hok p (by simp);have hs:=Zw2 hd hk1 hkey r1;cases hb:Zc4 pk p.1
     ·obtain⟨r,q1,q2⟩:=ih es (i+1) hr.tail (fun x hx=>hok x (by simp[hx]));exact⟨r,by simp[Instr.findNow,hs,hb,q1],q2.there hb⟩
     ·refine⟨_,by simp[Instr.findNow,hs,hb],Found.here hb ?_⟩;refine Zt0 hk1 ?_ hkey r1 _;rcases hd with⟨rfl,rfl⟩|⟨k0,rfl,rfl⟩|⟨rfl,rfl⟩
      ·obtain⟨a,c,e1,e2⟩:=Zqc hk1;rw[e1,e2]at hb⊢;simpa[Zc4,PV.cells,Zay]using hb
      ·obtain⟨k,a,c,e1,e2⟩:=Zqd hk1;rw[e1,e2]at hb⊢;simpa[Zc4,PV.cells,Zay]using hb
      ·obtain⟨a,c,e1,e2⟩:=Zqe hk1;rw[e1,e2]at hb⊢;simpa[Zc4,PV.cells,Zay]using hb
  obtain⟨r,h1,h2⟩:=scan l es 0 hr hok;exact⟨r,MapKept.run_findKey hu h1,h2⟩
 ·have hb:Zeq P kt=some true:=by unfold Zeq;rw[hu]
  have scan:∀(l:List MapEntry) (es:List (PV×PV)) (i:Nat),Xck g l es→(∀p∈es,Zc3 (.st ks) pk p.1)→∃r,(Instr.findAsking kt key l i).run P w=.ok r w∧Found g key pk l es i r:=by
   intro l
   induction l with
   |nil=>
    intro es i hr _;obtain rfl:es=[]:=List.eq_nil_of_length_eq_zero hr.1.symm;exact⟨none,by simp[Instr.findAsking],.inl ⟨rfl,fun _=>rfl,rfl⟩⟩
   | cons e l ih=>
    intro es i hr hok
    match es,hr with
    |p::es,hr=>
     obtain⟨r1,r2⟩:=hr.2 0 e p rfl rfl;obtain⟨k1,k2,k3⟩:=hok p (by simp);obtain⟨p1,p2⟩:=p;obtain⟨cx,rfl⟩:∃cx,pk=.agg cx:=by cases pk<;>first|exact⟨_,rfl⟩|exact k1.elim
     obtain⟨cy,rfl⟩:∃cx,p1=.agg cx:=by cases p1<;>first|exact⟨_,rfl⟩|exact k2.elim
     obtain⟨xs,rfl,s1,_,q1⟩:=hkey.agg_inv;obtain⟨ys,hy,s2,_,q2⟩:=r1.agg_inv;simp only[PV.cells]at k3;have hrun:=Z05 (P:=P) (g:=g) (w:=w) 6 kt ks hfl 10000 (by omega) true hb xs ys cx cy ⟨s1,q1⟩ ⟨s2,q2⟩ k3;simp only[asV,if_true]at hrun;have hrun':(Op.equal kt (.agg xs) e.key).run P w=.ok (Zay cx cy) w:=by rw[hy];exact hrun
     have hke:Zc4 (.agg cx) (.agg cy)=Zay cx cy:=rfl;cases hq:Zay cx cy
     ·obtain⟨r,g1,g2⟩:=ih es (i+1) hr.tail (fun x hx=>hok x (by simp[hx]));exact⟨r,by simp[Instr.findAsking,hrun',hq,g1],g2.there (hke.trans hq)⟩
     ·refine⟨_,by simp[Instr.findAsking,hrun',hq],Found.here (hke.trans hq) ?_⟩;rw[hy];show Instr.sameBits (9999+1) (.agg ys) (.agg xs)=true;obtain⟨v1,v2⟩:=Ze7 _ _ _ k3;simp only[Instr.sameBits,Zx4,beq_iff_eq];refine⟨by omega,?_⟩;have:=Zqg (g:=g) (n:=9999) ks cx cy xs.toList ys.toList k3 hq (by simpa using s1) (by simpa using s2) (fun j hj=>by have:=q1 j hj;simpa[Zx6]using this) (fun j hj=>by have:=q2 j hj;simpa[Zx6]using this);exact this
  obtain⟨r,h1,h2⟩:=scan l es 0 hr hok;have e1:(Instr.findKey kt key l).run P w=(Instr.findAsking kt key l).run P w:=by
   cases l with
   |nil=>simp[Instr.findKey,run_underlying hu,Instr.findNow,Instr.findAsking]
   |cons e es=>simp[Instr.findKey,run_underlying hu,Instr.findNow,Instr.sameNow]
  exact⟨r,by rw[e1];exact h1,h2⟩
theorem Zt1{em:Bool}{kt:TypeId}{kk:KK}(hk:Z90 P kt=some kk){key:Value}{pk:PV}(hkey:Rep g key pk)(hok:Zc3 kk pk pk):(Instr.checkKey em 10000 kt key).run P w=.ok () w:=by
 rcases Zqh hk with⟨k,d,rfl,hu,hd⟩|⟨ks,fs,rfl,hu,hfl⟩
 ·have hbasic:(∃c,key= .bool c)∨(∃k n,key= .int k n)∨ ∃s,key= .string s:=by
   cases k
   ·obtain⟨a,c,rfl,-⟩:=Zqc hok;exact .inl ⟨_,hkey.bool_inv⟩
   ·obtain⟨k,a,c,rfl,-⟩:=Zqd hok;exact .inr (.inl ⟨_,_,hkey.int_inv⟩)
   ·obtain⟨a,c,rfl,-⟩:=Zqe hok;obtain⟨s1,e1,_⟩:=hkey.str_inv;exact .inr (.inr ⟨_,e1⟩)
  rw[show(10000:Nat)=9999+1 from rfl,Instr.checkKey];rcases hd with⟨rfl,rfl⟩|⟨k0,rfl,rfl⟩|⟨rfl,rfl⟩<;>rcases hbasic with⟨c,e1⟩|⟨k,n,e1⟩|⟨s,e1⟩<;>rw[e1]<;>simp[run_underlying hu]
 ·have hb:Zeq P kt=some true:=by unfold Zeq;rw[hu]
  obtain⟨k1,_,k3⟩:=hok;obtain⟨cx,rfl⟩:∃cx,pk=.agg cx:=by cases pk<;>first|exact⟨_,rfl⟩|exact k1.elim
  obtain⟨xs,rfl,s1,_,q1⟩:=hkey.agg_inv;exact Z5p (P:=P) (g:=g) (w:=w) 6 kt ks hfl 10000 (by omega) true hb xs cx ⟨s1,q1⟩ k3
theorem Z5q{t:TypeId}{zr:PV}(h:Z91 P t=some zr):∃v,(zeroValue t).run P w=.ok v w∧Rep g v zr:=by
 unfold Z91 at h;split at h
 case h_2=>cases h
 rename_i i hi;split at h
 ·rename_i cs hz;obtain⟨ps,hc,rfl⟩:=Zal h;refine⟨_,Ze6 hi hz,.agg _ _ (by have:=Zmy hc;simpa using this) (fun j hj=>?_) (fun j hj=>?_)⟩
  ·have:=Zry hc j hj;simpa[Zx6]using this
  ·have:=Zmz (g:=g) hc j hj;simpa[Zx6]using this
 ·rename_i v hz _;exact⟨_,Ze6 hi ‹_›,Zwv h⟩
 ·cases h
theorem Zt2{t kt et:TypeId}{kk:KK}{zr:PV}{ok:Bool}{m k:PV}{vm vk:Value}(ht:P.underlying t=some (.map kt et))(hk:Z90 P kt=some kk)(hz:Z91 P et=some zr)(r:Rel g w h)
  (hm:Rep g vm m)(hkey:Rep g vk k)(h1:Zg2 h m)(h2:Zlz kk k (Zbl h m)):
  ∃v,(Instr.lookup t vm vk ok).run P w=.ok v w∧Rep g v (Zkz zr ok (Zbn k (Zbl h m))):=by
 have tup:∀{a b:Value} {p q:PV},Rep g a p→Rep g b q→Rep g (.tuple #[a,b]) (.tup [p,q]):=by
  intro a b p q ha hb;refine .tup _ _ rfl (fun j hj=>?_)
  match j with
  |0=>exact ha
  |1=>exact hb
  |n+2=>simp at hj;omega
 obtain⟨zv,hzr,hzp⟩:=Z5q (g:=g) (w:=w) hz;have hc:∀em,(Instr.checkKey em 10000 kt vk).run P w=.ok () w:=fun em=>Zt1 hk hkey h2.1;rcases Zr0 r hm h1 with⟨rfl,hrows⟩|⟨b,ents,clock,rfl,hh,hent⟩
 ·rw[hrows];have hf:(Instr.findKey kt vk []).run P w=.ok none w:=by
   obtain⟨r,q1,q2⟩:=Zr1 (P:=P) (w:=w) hk hkey (l:=[]) (es:=[]) ⟨rfl,fun i e p h=>by simp at h⟩ (fun p hp=>by cases hp);rcases q2 with⟨_,_,rfl⟩|⟨j,e,p,_,_,h3,_⟩
   ·exact q1
   ·simp at h3
  simp only[Zbn,Zkz];cases ok
  ·exact⟨zv,by simp[Instr.lookup,run_underlying ht,hc,hf,hzr],by simpa using hzp⟩
  ·exact⟨.tuple #[zv,.bool false],by simp[Instr.lookup,run_underlying ht,hc,hf,hzr],by simpa using tup hzp (.bool false)⟩
 ·obtain⟨r,q1,q2⟩:=Zr1 (P:=P) (w:=w) hk hkey hent h2.2;rcases q2 with⟨f1,_,rfl⟩|⟨j,e,p,f1,_,f3,f4,rfl,_⟩
  ·rw[f1];simp only[Zkz];cases ok
   ·exact⟨zv,by simp[Instr.lookup,run_underlying ht,MapKept.run_getObj_map hh,hc,q1,hzr],by simpa using hzp⟩
   ·exact⟨.tuple #[zv,.bool false],by simp[Instr.lookup,run_underlying ht,MapKept.run_getObj_map hh,hc,q1,hzr],by simpa using tup hzp (.bool false)⟩
  ·rw[f1];have hv:=(hent.2 j e p f3 f4).2;simp only[Zkz];cases ok
   ·exact⟨e.val,by simp[Instr.lookup,run_underlying ht,MapKept.run_getObj_map hh,hc,q1],by simpa using hv⟩
   ·exact⟨.tuple #[e.val,.bool true],by simp[Instr.lookup,run_underlying ht,MapKept.run_getObj_map hh,hc,q1],by simpa using tup hv (.bool true)⟩
theorem Znm{o:Oper}{vop:VOp}(hc:Z01 P o=some vop)(hp:vop.pure=true)(hok:pok e h vop)(hr:Rel g w h)(he:Zas g a e):
  ∃v,(execOp a.eval o).run P w=.ok (.value v) w∧Rep g v (Zcq e h vop):=by
 obtain⟨dst,op,type,pos,after,guard⟩:=o;have val:∀{X:Sem Value} {p:PV},(∃v,X.run P w=.ok v w∧Rep g v p)→∃v,((do pure (.value (←X)):Sem Next)).run P w=.ok (.value v) w∧Rep g v p:=
  fun⟨v,h1,h2⟩=>⟨v,Xc9 h1,h2⟩
 cases op<;>simp only[Z01]at hc
 case move x=>
  obtain⟨va,hx,rfl⟩:=Zal hc;exact⟨_,rfl,Zat he hx⟩
 case assign x=>
  obtain⟨va,hx,rfl⟩:=Zal hc;exact⟨_,rfl,Zat he hx⟩
 case pick c x y=>
  split at hc
  ·rename_i vc vx vy h1 h2 h3;simp only[Zx0]at hc;subst hc;obtain⟨b,hb,hv⟩:=Z2z (Zat he h1) (Zat he h2) (Zat he h3) hok;refine⟨_,?_,hv⟩;simp only[execOp,hb,asBool,Sem.run_bind,Sem.run_pure,Result.andThen_ok]
  ·cases hc
 case alloc t=>obtain⟨z,_,rfl⟩:=Zal hc;simp[VOp.pure]at hp
 case box t x=>split at hc<;>simp at hc;subst hc;simp[VOp.pure]at hp
 case build t parts=>
  split at hc
  ·rename_i zr ps h1 h2;split at hc
   ·rename_i h3;simp only[Zx0]at hc;subst hc;exact val (Zw0 he h1 h2 h3 hok)
   ·cases hc
  ·cases hc
 case buildSlice t n parts=>
  split at hc
  ·split at hc
   ·split at hc
    ·simp only[Zx0]at hc;subst hc;simp[VOp.pure]at hp
    ·cases hc
   ·cases hc
  ·cases hc
 case load t x=>
  split at hc
  ·rename_i va b s h1 h2 h3;simp only[Zx0]at hc;subst hc;exact val (Zqa hr he h1 h2 h3 hok)
  ·cases hc
 case store t x y=>split at hc<;>simp at hc;subst hc;simp[VOp.pure]at hp
 case binOp op t x y yt=>
  split at hc
  ·rename_i va vb h1 h2 hu;simp only[Zx0]at hc;subst hc;exact val (Z2x hu (Zat he h1) (Zat he h2) hok)
  ·rename_i va vb k h1 h2 hu;simp only[Zx0]at hc;subst hc;exact val (Ztw (Zat he h1) (Zat he h2) hok)
  ·rename_i va vb h1 h2 hu;simp only[Zx0]at hc;subst hc;exact val (Ztw (Zat he h1) (Zat he h2) hok)
  ·rename_i va vb fs h1 h2 hu;split at hc
   ·split at hc
    ·rename_i ks hk;split at hc
     ·rename_i hm;simp only[Zx0]at hc;subst hc;exact val (Ztz (neg:=false) hk hu (by simpa using hm) (Zat he h1) (Zat he h2) hok.1 hok.2.1 hok.2.2)
     ·cases hc
    ·cases hc
   ·split at hc
    ·rename_i ks hk;split at hc
     ·rename_i hm;simp only[Zx0]at hc;subst hc;exact val (Ztz (neg:=true) hk hu (by simpa using hm) (Zat he h1) (Zat he h2) hok.1 hok.2.1 hok.2.2)
     ·cases hc
    ·cases hc
   ·cases hc
  ·simp only[Zx0]at hc;subst hc;simp[VOp.pure]at hp
 case unOp op t x=>
  obtain⟨va,hx,rfl⟩:=Zal hc;exact val (Z94 (Zat he hx) hok)
 case convert s d x=>
  split at hc
  ·rename_i va k' k h1 h2 h3;simp only[Zx0]at hc;subst hc;have hv:=Zat he h1;simp only[pok]at hok;cases hpv:va.ev e<;>simp only[hpv,isInt]at hok
   rw[hpv]at hv;refine val ⟨.int k (k.wrap _),?_,by simp only[Zcq,hpv,Zts];exact .int _ _⟩;simp only[hv.int_inv,convert,Sem.run_bind,run_underlying h2,run_underlying h3,Result.andThen_ok];rfl
  ·rename_i va h1 h2 h3;simp only[Zx0]at hc;subst hc;have hv:=Zat he h1;simp only[pok]at hok;cases hpv:va.ev e<;>simp only[hpv,isStr]at hok
   rw[hpv]at hv;obtain⟨s,hs,rfl⟩:=hv.str_inv;refine val ⟨.string s,?_,by simp only[Zcq,hpv];exact .str _ _ rfl⟩;simp only[hs,convert,Sem.run_bind,run_underlying h2,run_underlying h3,Result.andThen_ok];rfl
  ·simp only[Zx0]at hc;subst hc;simp[VOp.pure]at hp
 case makeFunc f x y=>
  split at hc
  ·rename_i k va vb h1 h2;simp only[Zx0]at hc;subst hc;exact⟨_,rfl,Z20 he h1 h2⟩
  ·cases hc
 case slice t x lo hi mx=>
  cases mx with
  |some m=>simp at hc;subst hc;simp[VOp.pure]at hp
  |none=>
   simp only at hc;split at hc
   ·rename_i va vl vh hu h1 h2 h3;simp only[Zx0]at hc;subst hc;exact val (Znh hr he h1 h2 h3 (.inl ⟨hu,rfl⟩) hok)
   ·rename_i ty va vl vh hu h1 h2 h3;obtain⟨z,hz,rfl⟩:=Zal hc;exact val (Znh hr he h1 h2 h3 (.inr ⟨rfl,ty,hu,hz⟩) hok)
   ·cases hc
 case fieldAddr t x f=>
  split at hc
  ·rename_i fd va h1 h2;split at hc
   ·rename_i s hs;split at hc
    ·cases hc
    ·rename_i h0;simp only[Zx0]at hc;subst hc;exact val (Zwy he h2 h1 hs (by simpa using h0) hok)
   ·cases hc
  ·cases hc
 case field t x f=>
  split at hc
  ·rename_i fd va h1 h2;split at hc
   ·rename_i s b hs hb;simp only[Zx0]at hc;subst hc;exact val (Z5m he h2 h1 hb hs hok)
   ·cases hc
  ·cases hc
 case indexAddr t x i=>
  split at hc
  ·rename_i ty va vi hu h1 h2;obtain⟨z,hz,rfl⟩:=Zal hc;exact val (Zwz hr he h1 h2 hu hz hok)
  ·cases hc
 case index t x i=>
  split at hc
  ·rename_i va vi hu h1 h2;simp only[Zx0]at hc;subst hc;exact val (Z5n he h1 h2 hu hok)
  ·cases hc
 case extract x i=>
  obtain⟨va,hx,rfl⟩:=Zal hc;exact val (Z5o (Zat he hx) hok)
 case call c=>exact Znl (o:=⟨dst,.call c,type,pos,after,guard⟩) rfl hc hp hok hr he
 case makeMap t r=>
  cases r<;>simp only[Zx0]at hc<;>subst hc<;>simp[VOp.pure]at hp
 case lookup t m k ok=>
  split at hc
  ·rename_i kt et va vb hu h1 h2;split at hc
   ·rename_i kk zr h3 h4;simp only[Zx0]at hc;subst hc;exact val (Zt2 hu h3 h4 hr (Zat he h1) (Zat he h2) hok.1 hok.2)
   ·simp only[Zx0]at hc;subst hc;simp[VOp.pure]at hp
  ·simp only[Zx0]at hc;subst hc;simp[VOp.pure]at hp
 case mapUpdate t m k v=>
  split at hc
  ·split at hc
   ·simp only[Zx0]at hc;subst hc;simp[VOp.pure]at hp
   ·simp only[Zx0]at hc;subst hc;simp[VOp.pure]at hp
  ·simp only[Zx0]at hc;subst hc;simp[VOp.pure]at hp
 all_goals (simp only[Zx0]at hc;subst hc;simp[VOp.pure]at hp)
theorem Xda{x:Operand}{va:VA}(hx:cA x=some va)(he:Zas g a e)(hok:Zne (va.ev e)=true){o:Oper}(ho:o.op=.nilCheck x):
  (execOp a.eval o).run P w=.ok (.value (a.eval x)) w:=by
 have hv:=Zat he hx;simp only[execOp,ho];generalize a.eval x=vx at hv;cases hp:va.ev e<;>rw[hp]at hv hok<;>simp only[Zne,Zyu]at hok
 case loc id i off=>
  obtain⟨b,o',n,z,hb,rfl⟩:=hv.loc_inv;simp
 case ro cs=>
  cases hv with
  |ro b o ad cs vs ha hm hr=>simp
 case fn f pf pc=>
  cases hv with
  |fn f fs cs pf pc h1 h2 hf hc=>
   cases f<;>simp only[Zyu]at hok
   simp
theorem Z06{r:List PV}(h:isByte r):∃n:Int,r=[.int .u8 n]:=by
 unfold isByte at h;split at h
 ·exact⟨_,rfl⟩
 ·cases h
theorem Zw3{s d t:TypeId}(hs:P.underlying s=some (.slice t))(ht:P.underlying t=some (.int .u8))(hd:P.underlying d=some .string){v:Value}{p:PV}(hv:Rep g v p)(hr:Rel g w h)(hok:Zwu h p):
  ∃x,(convert s d v).run P w=.ok (.string x) w∧x.data.toList=(Zmx h p).map byteOf:=by
 have key:∀(b o cap:Nat) (es:List (List PV)),(∀r∈es,isByte r)→(∀i (hi:i<es.length), ∃x,w.cell? ⟨b,o+i,none⟩=some x∧Rep g x (PV.nth es[i] 0))→
   ∃x,(convert s d (.slice (some ⟨b,o,none⟩) es.length cap)).run P w=.ok (.string x) w∧x.data.toList=es.map byteOf:=by
  intro b o cap es hb hc;refine⟨_,run_convert_bytes_arg w s t hs ht b o es.length cap (es.map fun r=>match r with|[.int _ n]=>n|_=>0) (by simp) (fun i hi=>?_) d hd,?_⟩
  ·obtain⟨x,h1,h2⟩:=hc i hi;obtain⟨n,hn⟩:=Z06 (hb _ (Zyl hi));rw[hn]at h2;have h3:=Rep.int_inv h2;rw[h1,h3];simp[Zx1,hi,hn]
  ·rw[strOfNums_data,List.map_map];refine List.map_congr_left fun r hr=>?_;obtain⟨n,rfl⟩:=Z06 (hb r hr);rfl
 cases hv with
 |nilsl=>exact⟨_,run_convert_bytes_nil w s t hs ht 0 0 d hd,rfl⟩
 | slE a cap z=>
  cases a with
  |none=>exact⟨_,run_convert_bytes_nil w s t hs ht 0 cap d hd,rfl⟩
  |some a=>
   refine⟨.empty,?_,rfl⟩;rw[run_convert_bytes_string w s d t (some a) 0 cap hs ht hd,run_bytesToString w a 0 cap [] (by simpa using run_loadCells_list (P:=P) w a [] (fun j v hj=>by simp at hj))];rfl
 | sl b o len cap z a es vs ha hl hc hz hm hrr=>
  subst ha;obtain⟨rfl,hb⟩:=hok;subst hl;refine key b o cap es hb (fun i hi=>?_);refine⟨vs i 0,?_,?_⟩
  ·have:=(hr.mem _ _ _ (hm i 0 hi (by omega))).1
   simpa using this
  ·have:=hrr i 0 hi (by omega)
   simpa[PV.row,Zx1,hi]using this
 | ownE a id off=>
  refine⟨.empty,?_,by
   simp only[Zmx];split<;>(simp only[List.take_zero,List.map_nil];rfl)⟩
  cases a with
  |none=>exact run_convert_bytes_nil w s t hs ht 0 0 d hd
  |some a=>
   rw[run_convert_bytes_string w s d t (some a) 0 0 hs ht hd,run_bytesToString w a 0 0 [] (by simpa using run_loadCells_list (P:=P) w a [] (fun j v hj=>by simp at hj))];rfl
 | own id off len cap b o n z a hb ha hc hn=>
  subst ha;simp only[Zwu]at hok;cases hg:h.get id with
  |none=>rw[hg]at hok;cases hok
  | some ab=>
   rw[hg]at hok;cases ab with
   | arr fz z' es=>
    obtain⟨rfl,hle,hby⟩:=hok;rcases hr.blk id _ hg with⟨hn0,_⟩|⟨b',o',n',z',hb',hlt,hfree,q1,q2,q3,c,ee,q4,q5,q6⟩
    ·rw[hb]at hn0;cases hn0
    rw[hb]at hb';simp only[Zx0,Prod.mk.injEq]at hb';obtain⟨rfl,rfl,rfl,rfl⟩:=hb';subst q1;have hlen:((es.drop off).take len).length=len:=by simp;omega
    have:=key b (o+off*1) cap ((es.drop off).take len) hby (fun i hi=>by
     rw[hlen]at hi;have h1:=q6 (off+i) 0 (by omega) (by omega);refine⟨c.getD (o+(off+i)*1+0) Go.undef,?_,?_⟩
     ·have hin:o+off*1+i<c.size:=by omega
      have e1:o+(off+i)*1+0=o+off*1+i:=by omega
      rw[e1];have hin':o+off+i<c.size:=by omega
      simp[World.cell?,q4,hin']
     ·have h2:=h1.2.1
      simpa[PV.row,Zx1,List.getElem_drop,show off+i<es.length by omega]using h2)
    rw[hlen]at this
    simpa[Zmx,hg]using this
   |map _=>cases hok
   |miter _ _=>cases hok
   |bld _ _ _=>cases hok
   |loopR _ _ _ _ _ _ _ _ _=>cases hok
   |dfr _ _=>cases hok
   |buf _ _=>cases hok
 |_=>cases hok
theorem Z5r{t e:TypeId}{n:Nat}{dst:Option Tmp}{type:TypeId}{pos:String}{after:Array Edge}{guard:Option (Nat×Bool)}{x ix:Operand}{p q:PV}(ht:P.underlying t=some (.array n e))(hs:Zc2 P e=some 1)(ha:Zeq P e=some false)
  (hx:Rep g (a.eval x) p)(hi:Rep g (a.eval ix) q)(hok:Ztm h (.ixv n) [p,q]):
  ∃v,(execOp a.eval { dst:=dst,op:=.index t x ix,type:=type,pos:=pos,after:=after,guard:=guard }).run P w=.ok (.value v) w∧Rep g v (pxV h (.ixv n) [p,q]):=by
 cases p<;>try (exact hok.elim)
 rename_i cs;cases q<;>try (exact hok.elim)
 rename_i kk k;obtain⟨h2,h3,h4⟩:0≤k∧k<n∧n≤cs.length:=hok;have hai:=hi.int_inv;generalize hax:a.eval x=ax at hx;cases hx with
 |agg vs _ hvl h1 hr=>
  refine⟨vs.getD k.toNat Go.undef,?_,hr _ (by omega)⟩;have hp:=Zje (P:=P) hs ha w vs k.toNat (by omega) (fun _=>rfl);have hc:0≤k∧k<(n:Int):=⟨h2,h3⟩;simp only[execOp,hax,hai,Instr.index];simp[run_underlying ht,asIntOf,hc,Zeb hs,hp]
theorem Z5s{t e:TypeId}{n:Nat}{dst:Option Tmp}{type:TypeId}{pos:String}{after:Array Edge}{guard:Option (Nat×Bool)}{x ix:Operand}{p q:PV}(ht:P.underlying t=some (.array n e))(hs:Zc2 P e=some 1)
  (hx:Rep g (a.eval x) p)(hi:Rep g (a.eval ix) q)(hok:Ztm h (.aix n) [p,q]):
  ∃v,(execOp a.eval { dst:=dst,op:=.indexAddr t x ix,type:=type,pos:=pos,after:=after,guard:=guard }).run P w=.ok (.value v) w∧Rep g v (pxV h (.aix n) [p,q]):=by
 have e1:P.elem t=e:=by simp[Program.elem,ht]
 have e2:P.arrayLen t=n:=by simp[Program.arrayLen,ht]
 have key:∀(ad:Addr) (kk:IntKind) (k:Int),a.eval x=.pointer (some ad)→a.eval ix=.int kk k→0≤k→k<n→(execOp a.eval { dst:=dst,op:=.indexAddr t x ix,type:=type,pos:=pos,after:=after,guard:=guard }).run P w=.ok (.value (.pointer (some (ad.add k.toNat)))) w:=by
  intro ad kk k hax hai h2 h3;have hr:=run_indexAt_array (P:=P) (w:=w) t ad kk k (by rw[e1,e2];exact ht);rw[if_pos ⟨by omega,by rw[e2];omega⟩,e1,Zeb hs]at hr;simp only[execOp,hax,hai];simp only[Sem.run_bind,hr,Result.andThen_ok];simp
 generalize hax:a.eval x=ax at hx;cases hx with
 | loc id i off b o m z ad hb ha=>
  cases q with
  | int kk k=>
   obtain⟨h2,h3⟩:0≤k∧k<n:=hok;subst ha;refine⟨_,key _ kk k hax hi.int_inv h2 h3,?_⟩;have e3:(⟨b,o+i*z+off,none⟩:Addr).add k.toNat=⟨b,o+i*z+(off+k.toNat),none⟩:=by
    by_cases h0:k.toNat=0<;>simp[Addr.add,h0,Nat.add_assoc]
   rw[e3];exact .loc id i (off+k.toNat) b o m z _ hb rfl
  |_=>exact hok.elim
 | ro b o ad cs vs ha hm hr=>
  cases q with
  | int kk k=>
   obtain⟨h2,h3⟩:0≤k∧k<n:=hok;subst ha;refine⟨_,key _ kk k hax hi.int_inv h2 h3,?_⟩;have e3:(⟨b,o,none⟩:Addr).add k.toNat=⟨b,o+k.toNat,none⟩:=by
    by_cases h0:k.toNat=0<;>simp[Addr.add,h0]
   rw[e3];refine .ro b (o+k.toNat) _ (cs.drop k.toNat) (fun j=>vs (k.toNat+j)) rfl (fun j hj=>?_) (fun j hj=>?_)
   ·rw[List.length_drop]at hj;rw[Nat.add_assoc];exact hm _ (by omega)
   ·rw[List.length_drop]at hj;have:=hr (k.toNat+j) (by omega)
    simpa[PV.nth,Zx1,List.getElem?_drop]using this
  |_=>exact hok.elim
 |_=>exact hok.elim
theorem Z07{o:Oper}{k:PX}{l:List VA}(hc:cX P o=some (.px k l))(hok:Ztm h k (l.map (VA.ev e)))(hr:Rel g w h)(he:Zas g a e):
  ∃v,(execOp a.eval o).run P w=.ok (.value v) w∧Rep g v (pxV h k (l.map (VA.ev e))):=by
 obtain⟨dst,op,type,pos,after,guard⟩:=o;cases op
 case nilCheck x=>
  simp only[cX]at hc;obtain⟨va,hx,hq⟩:=Zal hc;simp only[VOp.px.injEq]at hq;obtain⟨rfl,rfl⟩:=hq;exact⟨a.eval x,Xda hx he hok rfl,Zat he hx⟩
 case unOp uop t x=>
  cases uop<;>simp only[cX]at hc<;>try (cases hc;done)
  obtain⟨va,hx,hq⟩:=Zal hc;simp only[VOp.px.injEq]at hq;obtain⟨rfl,rfl⟩:=hq;have hv:=Zat he hx;simp only[List.map_cons,List.map_nil,Ztm,pxV]at hok⊢;cases hp:va.ev e<;>rw[hp]at hv hok<;>simp only[isInt]at hok
  have h2:=hv.int_inv;exact⟨_,by simp only[execOp,h2,Op.unary,Op.intBits];rfl,.int _ _⟩
 case indexAddr t x ix=>
  simp only[cX]at hc;split at hc
  ·split at hc
   ·rename_i n e va vb ht hx hix;split at hc
    ·rename_i hs;simp only[Zx0,VOp.px.injEq]at hc;obtain⟨rfl,rfl⟩:=hc;exact Z5s ht hs (Zat he hx) (Zat he hix) (by simpa using hok)
    ·cases hc
   ·cases hc
  ·cases hc
 case index t x ix=>
  simp only[cX]at hc;split at hc
  ·rename_i n e va vb ht hx hix;split at hc
   ·rename_i hs;simp only[Zx0,VOp.px.injEq]at hc;obtain⟨rfl,rfl⟩:=hc;exact Z5r ht hs.1 hs.2 (Zat he hx) (Zat he hix) (by simpa using hok)
   ·cases hc
  ·cases hc
 case slice t x lo hi mx=>
  exfalso
  cases lo<;>cases hi<;>cases mx<;>simp only[cX]at hc<;>first
   |(cases hc;done)
   |((repeat' (split at hc))<;>first|(cases hc;done)|(obtain⟨z,_,hq⟩:=Zal hc;cases hq))
 case insert t m k v=>
  exfalso
  simp only[cX]at hc;split at hc
  ·obtain⟨z,_,hq⟩:=Zal hc;cases hq
  ·cases hc
 case binOp op t x y yt=>
  exfalso
  cases op<;>simp only[cX]at hc<;>first
   |(cases hc;done)
   |(split at hc<;>first|(cases hc;done)|(obtain⟨z,_,hq⟩:=Zal hc;cases hq))
 case buildSlice t n parts=>
  exfalso
  simp only[cX]at hc
  (repeat' (split at hc))<;>simp at hc
 case call c=>
  exfalso
  simp only[cX,Zp9]at hc
  (repeat' (split at hc))<;>simp at hc
 case convert s d x=>
  simp only[cX]at hc;split at hc
  ·rename_i t va hs hd hx;split at hc
   ·rename_i ht;simp only[Zx0,VOp.px.injEq]at hc;obtain⟨rfl,rfl⟩:=hc;obtain⟨y,h1,h2⟩:=Zw3 hs ht hd (Zat he hx) hr hok;exact⟨.string y,by simp only[execOp];simp[Sem.run_bind,h1,Sem.run_pure],.str _ _ h2⟩
   ·cases hc
  ·cases hc
 all_goals (exfalso;simp only[cX]at hc;cases hc)
theorem Zqi{o:Oper}{ba:Bool×VA}(hc:cIfc P o=some ba)(hok:Ztm h (.ifn ba.1) ([ba.2].map (VA.ev e)))(he:Zas g a e):
  ∃v,(execOp a.eval o).run P w=.ok (.value v) w∧Rep g v (pxV h (.ifn ba.1) ([ba.2].map (VA.ev e))):=by
 have key:∀(neg:Bool) (bop:BinOp) (t yt:TypeId) (x:Operand) (va:VA),(bop=if neg then .neq else .eql)→o.op= .binOp bop t x (.const .nilIface) yt→(∃ms,P.underlying t=some (.interface ms))→cA x=some va→Xc7 (va.ev e)=true→
   ∃v,(execOp a.eval o).run P w=.ok (.value v) w∧Rep g v (.bool (Xcj (va.ev e) !=neg)):=by
  intro neg bop t yt x va hb ho ⟨ms,hu⟩ hx hi;have hm:P.underlying t=some (.interface (P.methodsAt t)):=by
   have:P.methodsAt t=ms:=by unfold Program.methodsAt;rw[hu]
   rw[this];exact hu
  have hv:=Zat he hx;have e2:a.eval (.const .nilIface)=.nilIface:=rfl;generalize va.ev e=p at hi hv⊢;generalize hxv:a.eval x=vx at hv;cases hv<;>simp only[Xc7,Zyu]at hi
  ·refine⟨.bool (false !=neg),?_,.bool _⟩;cases neg
   ·simp only[Zyu,if_false]at hb;subst hb;simp only[execOp,ho,hxv,e2,eqGuard];simp[run_eql_held_nil w t _ _ hm]
   ·simp only[if_true]at hb;subst hb;simp only[execOp,ho,hxv,e2,eqGuard];simp[run_neq_held_nil w t _ _ hm]
  ·refine⟨.bool (true !=neg),?_,.bool _⟩;cases neg
   ·simp only[Zyu,if_false]at hb;subst hb;simp only[execOp,ho,hxv,e2,eqGuard];simp[run_eql_nil_nil w t hm]
   ·simp only[if_true]at hb;subst hb;simp only[execOp,ho,hxv,e2,eqGuard];simp[run_neq_nil_nil w t hm]
 obtain⟨neg,va⟩:=ba;unfold cIfc at hc;split at hc
 ·rename_i t x yt ho;split at hc
  ·rename_i ms hu;obtain⟨va',hx,hq⟩:=Zal hc;simp only[Prod.mk.injEq]at hq;obtain⟨rfl,rfl⟩:=hq;exact key false .eql t yt x _ rfl ho ⟨ms,hu⟩ hx hok
  ·cases hc
 ·rename_i t x yt ho;split at hc
  ·rename_i ms hu;obtain⟨va',hx,hq⟩:=Zal hc;simp only[Prod.mk.injEq]at hq;obtain⟨rfl,rfl⟩:=hq;exact key true .neq t yt x _ rfl ho ⟨ms,hu⟩ hx hok
  ·cases hc
 ·cases hc
def VOp.isX:VOp→Prop
 | .px _ _|.fx _ _|.mapset _ _ _ _|.nd _ _=>True
 |_=>False
theorem Z08{o:Oper}{vo:VOp}(hx:cX P o=some vo):vo.isX:=by
 obtain⟨dst,op,type,pos,after,guard⟩:=o;cases op
 case nilCheck x=>simp only[cX]at hx;obtain⟨z,_,rfl⟩:=Zal hx;trivial
 case unOp uop t x=>cases uop<;>simp only[cX]at hx<;>first|(cases hx;done)|(obtain⟨z,_,rfl⟩:=Zal hx;trivial)
 case indexAddr t x ix=>
  simp only[cX]at hx
  (repeat' (split at hx))<;>first|(cases hx;done)|(simp only[Zx0]at hx;subst hx;trivial)
 case index t x ix=>
  simp only[cX]at hx
  (repeat' (split at hx))<;>first|(cases hx;done)|(simp only[Zx0]at hx;subst hx;trivial)
 case slice t x lo hi mx=>
  cases lo<;>cases hi<;>cases mx<;>simp only[cX]at hx<;>first
   |(cases hx;done)
   |((repeat' (split at hx))<;>first|(cases hx;done)|(obtain⟨z,_,rfl⟩:=Zal hx;trivial))
 case insert t m k v=>
  simp only[cX]at hx;split at hx
  ·obtain⟨z,_,rfl⟩:=Zal hx;trivial
  ·cases hx
 case binOp op t x y yt=>
  cases op<;>simp only[cX]at hx<;>first
   |(cases hx;done)
   |(split at hx<;>first|(cases hx;done)|(obtain⟨z,_,rfl⟩:=Zal hx;trivial))
 case buildSlice t n parts=>
  simp only[cX]at hx
  (repeat' (split at hx))<;>first|(cases hx;done)|(simp only[Zx0]at hx;subst hx;trivial)
 case call c=>
  simp only[cX,Zp9]at hx
  (repeat' (split at hx))<;>first|(cases hx;done)|(simp only[Zx0]at hx;subst hx;trivial)
 case convert s d x=>
  simp only[cX]at hx
  (repeat' (split at hx))<;>first|(cases hx;done)|(simp only[Zx0]at hx;subst hx;trivial)
 all_goals (simp only[cX]at hx;cases hx)
theorem Zqj{o:Oper}{vop:VOp}(hc:cOp P o=some vop)(hp:vop.pure=true)(hok:pok e h vop)(hr:Rel g w h)(he:Zas g a e):
  ∃v,(execOp a.eval o).run P w=.ok (.value v) w∧Rep g v (Zcq e h vop):=by
 unfold cOp at hc;split at hc
 ·simp only[Zx0]at hc;subst hc;simp[VOp.pure]at hp
 rename_i hraw;clear hraw;split at hc
 ·rename_i ba hx;simp only[Zx0]at hc;subst hc;exact Zqi (h:=h) hx hok he
 rename_i hno;clear hno;split at hc
 ·rename_i vo hx;simp only[Zx0]at hc;subst hc;have hk:=Z08 hx;cases vo<;>simp only[VOp.isX]at hk<;>simp only[VOp.pure,Zyu]at hp
  exact Z07 (h:=h) hx hok hr he
 ·split at hc
  ·rename_i v hv;simp only[Zx0]at hc;subst hc;exact Znm hv hp hok hr he
  ·simp only[Zx0]at hc;subst hc;simp[VOp.pure]at hp
end
theorem AB.ok_move{g g':Gh}{w w':World}{b o n z:Nat}{ab:AB}(h:ab.ok g w b o n z)(hg:g.le g')(hw:w'.heap[b]?=w.heap[b]?):ab.ok g' w' b o n z:=by
 cases ab with
 |arr fz z' es=>
  obtain⟨h1,h2,h3,c,e,h4,h5,h6⟩:=h;exact⟨h1,h2,h3,c,e,by rw[hw];exact h4,h5,fun i j hi hj=>⟨(h6 i j hi hj).1,(h6 i j hi hj).2.1.mono hg,fun hf=>hg.1 _ _ _ ((h6 i j hi hj).2.2 hf)⟩⟩
 |map es=>
  obtain⟨ents,clock,h1,h2,h3,h4⟩:=h;exact⟨ents,clock,by rw[hw];exact h1,h2,fun i e p he hp=>⟨(h3 i e p he hp).1.mono hg,(h3 i e p he hp).2.mono hg⟩,h4⟩
 |miter es seen=>
  obtain⟨h0,m,ents,clock,stamps,h1,h2,h3,h4,h5⟩:=h;exact⟨h0,m,ents,clock,stamps,by rw[hw];exact h1,hg.2.2 _ _ h2,h3,fun i e p he hp=>⟨(h4 i e p he hp).1.mono hg,(h4 i e p he hp).2.mono hg⟩,h5⟩
 | bld T k bf=>
  obtain⟨h0,p,v,h1,h2,h3⟩:=h;refine⟨h0,p,v,by rw[hw];exact h1,h2,?_⟩;cases bf with
  |none=>exact h3
  |some id2=>
   obtain⟨gb,cap,k1,k2⟩:=h3;exact⟨gb,cap,hg.2.1 _ _ k1,k2⟩
 |buf e s=>
  obtain⟨h0,h1,h2,cur,h3,h4⟩:=h;exact⟨h0,h1,h2,cur,by rw[hw];exact h3,h4⟩
 |loopR l st pe ps asg body D n' e=>
  obtain⟨h0,h1,fn,tmps,h2,h3,h4⟩:=h;exact⟨h0,h1,fn,tmps,by rw[hw];exact h2,h3,fun t=>(h4 t).mono hg⟩
 |dfr D op=>
  obtain⟨h0,h1,h2⟩:=h;exact⟨h0,h1,by rw[hw];exact h2⟩
def Zbp(h:Heap):Option Nat→Heap
 |none=>h
 |some i=>h.del i
theorem Zk3(h:Heap)(k:Option Nat):(Zbp h k).top=h.top:=by cases k<;>rfl
theorem Zt3{h:Heap}{k:Option Nat}{id:Nat}{ab:AB}(e:(Zbp h k).get id=some ab):h.get id=some ab∧k≠some id:=by
 cases k with
 |none=>exact⟨e,by simp⟩
 |some i=>
  simp only[Zbp,Heap.get_del]at e;split at e
  ·cases e
  ·rename_i hne;exact⟨e,by simp[hne]⟩
theorem Rel.cell_move{g:Gh}{w w':World}{h:Heap}(r:Rel g w h){b0:Nat}(hb0:w.heap.size≤b0∨g.free b0)(hw:∀k,k<w.heap.size→k≠b0→w'.heap[k]?=w.heap[k]?)
  (b o:Nat)(v:Value)(hm:g.m b o=some v):w'.cell? ⟨b,o,none⟩=some v∧v.oneCell'=true:=by
 obtain⟨h1,h2⟩:=r.mem b o v hm;refine⟨?_,h2⟩;have hlt:b<w.heap.size:=by
  rcases Nat.lt_or_ge b w.heap.size with h|h
  ·exact h
  ·simp[World.cell?,Array.getElem?_eq_none h]at h1
 have hne:b≠b0:=by
  rintro rfl;rcases hb0 with h|h
  ·omega
  ·rw[h.1]at hm;cases hm
 have:=hw b hlt hne
 simpa[World.cell?,this]using h1
theorem Rel.map_move{g:Gh}{w w':World}{h:Heap}(r:Rel g w h){b0:Nat}(hb0:w.heap.size≤b0∨g.free b0)(hw:∀k,k<w.heap.size→k≠b0→w'.heap[k]?=w.heap[k]?)
  (b:Nat)(e:MK)(hm:g.m.mm b=some e):e.At w'.heap[b]?:=by
 have h1:=r.mmem b e hm;have hlt:b<w.heap.size:=h1.lt;have hne:b≠b0:=by
  rintro rfl;rcases hb0 with h|h
  ·omega
  ·rw[h.2]at hm;cases hm
 rw[hw b hlt hne];exact h1
theorem Rel.put{g:Gh}{w:World}{h:Heap}(r:Rel g w h)(kill:Option Nat)(b0 o n z:Nat)(ab:AB)(w':World)
    (hb0:w.heap.size≤b0∨∃ia abx y,kill=some ia∧h.get ia=some abx∧abx.live=true∧g.β ia=some y∧y.1=b0)
    (hw:∀k,k<w.heap.size→k≠b0→w'.heap[k]?=w.heap[k]?)(hsz:w.heap.size≤w'.heap.size)(hlt:b0<w'.heap.size)(ho:w'.os=w.os)(ht:w'.tape=w.tape)(hout:w'.output=w.output)
    (hlive:ab.live=true)(hok:∀g',g.le g'→ab.ok g' w' b0 o n z):
    ∃g',g.le g'∧g'.m=g.m∧g'.β h.top=some (b0,o,n,z)∧Rel g' w' ((Zbp h kill).push ab)∧Evo g w h g' w' ((Zbp h kill).push ab):=by
  have hkt:=Zk3 h kill;generalize hid:h.top=id at*;have hid0:g.β id=none:=(r.fin id (by omega)).1;have hfr:h.get id=none:=(r.fin id (by omega)).2
  let g':Gh:=⟨g.m,fun i=>if i=id then some (b0,o,n,z)else g.β i⟩
  have hle:g.le g':=⟨fun _ _ _ e=>e,fun i x e=>by
    show(if i=id then _ else _)=_;rw[if_neg (by rintro rfl;rw[hid0]at e;cases e)];exact e,fun _ _ e=>e⟩
  have hself:g'.β id=some (b0,o,n,z):=by show(if id=id then _ else _)=_;rw[if_pos rfl]
  have hother:∀i,i≠id→g'.β i=g.β i:=fun i hi=>by show(if i=id then _ else _)=_;rw[if_neg hi]
  have hno:w.heap.size≤b0∨g.free b0:=by
    rcases hb0 with h1|⟨ia,abx,y,rfl,e1,e2,e3,e4⟩
    ·exact .inl h1
    · right
      rcases r.blk ia abx e1 with⟨hn,_⟩|⟨b,o',n',z',hb,_,hm,_⟩
      ·rw[e3]at hn;cases hn
      ·rw[e3]at hb;simp only[Zx0]at hb;subst hb;subst e4;exact hm e2
  have hget:∀i ab',((Zbp h kill).push ab).get i=some ab'→(i=id∧ab'=ab)∨(i≠id∧h.get i=some ab'∧kill≠some i):=by
    intro i ab' e;rw[Heap.get_push,hkt]at e;by_cases hi:id=i
    ·subst hi;simp only[if_true,Zx0]at e;exact .inl ⟨rfl,e.symm⟩
    · simp only[if_neg hi]at e
      obtain⟨e1,e2⟩:=Zt3 e;exact .inr ⟨fun h=>hi h.symm,e1,e2⟩
  have hdiff:∀i ab' x,h.get i=some ab'→kill≠some i→g.β i=some x→x.1<w.heap.size→x.1≠b0:=by
    intro i ab' x e hk hx hlt' heq;rcases hb0 with h1|⟨ia,abx,y,rfl,e1,e2,e3,e4⟩
    ·omega
    ·exact r.apart ia i y x abx ab' (fun hh=>hk (by rw[hh])) e1 e (by simp[e2]) e3 hx (by rw[e4,heq])
  refine⟨g',hle,rfl,hself,⟨?_,?_,?_,?_,?_⟩,⟨hle,ho,ht,hout,hsz,?_,?_,?_,?_⟩⟩
  ·exact fun b x v e=>r.cell_move hno hw b x v e
  ·exact fun b e he=>r.map_move hno hw b e he
  · intro i hi
    have hi' : id + 1 ≤ i := by have:((Zbp h kill).push ab).top=id+1:=by simp[Heap.push,hkt]
                                omega
    refine⟨by rw[hother i (by omega)];exact(r.fin i (by omega)).1,?_⟩;cases e:((Zbp h kill).push ab).get i with
    |none=>rfl
    | some ab'=>
      rcases hget i ab' e with⟨h1,_⟩|⟨_,h1,_⟩
      ·omega
      ·rw[(r.fin i (by omega)).2]at h1;cases h1
  · intro i ab' e
    rcases hget i ab' e with⟨rfl,rfl⟩|⟨hi,e1,hk⟩
    · refine .inr ⟨b0,o,n,z,hself,hlt,fun _=>?_,hok g' hle⟩
      rcases hno with h1|h1
      · refine⟨fun x=>?_,?_⟩
        · show g.m b0 x=none
          cases hm:g.m b0 x with
          |none=>rfl
          | some v=>
            have:=(r.mem b0 x v hm).1;simp[World.cell?,Array.getElem?_eq_none h1]at this
        · show g.m.mm b0=none
          cases hm:g.m.mm b0 with
          |none=>rfl
          | some e=>
            have hc:=(r.mmem b0 e hm).lt;omega
      ·exact h1
    · rw[hother i hi]
      rcases r.blk i ab' e1 with h1|⟨b,o',n',z',hb,hlt',hm,hokk⟩
      ·exact .inl h1
      ·exact .inr ⟨b,o',n',z',hb,by omega,hm,AB.ok_move hokk hle (hw b hlt' (hdiff i ab' _ e1 hk hb hlt'))⟩
  · intro i i' x x' abi abi' hne e e' hl hx hx'
    rcases hget i abi e with⟨rfl,rfl⟩|⟨hi,e1,hk⟩<;>rcases hget i' abi' e' with⟨rfl,rfl⟩|⟨hi',e1',hk'⟩
    ·exact absurd rfl hne
    · rw[hself]at hx;simp only[Zx0]at hx;subst hx
      rw[hother i' hi']at hx';rcases r.blk i' abi' e1' with⟨h1,_⟩|⟨b,o',n',z',hb,hlt',_,_⟩
      ·rw[hx']at h1;cases h1
      · rw[hx']at hb;simp only[Zx0]at hb;subst hb
        exact fun hh=>hdiff i' abi' _ e1' hk' hx' hlt' hh.symm
    · rw[hself]at hx';simp only[Zx0]at hx';subst hx'
      rw[hother i hi]at hx;rcases r.blk i abi e1 with⟨h1,_⟩|⟨b,o',n',z',hb,hlt',_,_⟩
      ·rw[hx]at h1;cases h1
      · rw[hx]at hb;simp only[Zx0]at hb;subst hb
        exact fun hh=>hdiff i abi _ e1 hk hx hlt' hh
    · rw[hother i hi]at hx;rw[hother i' hi']at hx'
      exact r.apart i i' x x' abi abi' hne e1 e1' hl hx hx'
  · intro b hb hnot
    refine hw b hb (fun heq=>?_);rcases hb0 with h1|⟨ia,abx,y,rfl,e1,e2,e3,e4⟩
    ·omega
    ·exact hnot ⟨ia,abx,y,e1,e2,e3,by rw[e4,heq]⟩
  ·exact fun b o v e=>.inl e
  ·exact fun b e he=>.inl he
  · rintro b ⟨i,ab',x,e,hl,hx,rfl⟩
    rcases hget i ab' e with⟨rfl,rfl⟩|⟨hi,e1,hk⟩
    · rw[hself]at hx;simp only[Zx0]at hx;subst hx
      rcases hb0 with h1|⟨ia,abx,y,rfl,e1,e2,e3,e4⟩
      ·exact .inr h1
      ·exact .inl ⟨ia,abx,y,e1,e2,e3,e4⟩
    · rw[hother i hi]at hx
      exact .inl ⟨i,ab',x,e1,hl,hx,rfl⟩
theorem Rel.set{g:Gh}{w:World}{h:Heap}(r:Rel g w h){id b0 o n z:Nat}{ab0 ab:AB}(hg:h.get id=some ab0)(hl0:ab0.live=true)(hβ:g.β id=some (b0,o,n,z))(w':World)
  (hw:∀k,k<w.heap.size→k≠b0→w'.heap[k]?=w.heap[k]?)(hsz:w.heap.size≤w'.heap.size)(ho:w'.os=w.os)(ht:w'.tape=w.tape)(hout:w'.output=w.output)
  (hlive:ab.live=true)(hok:ab.ok g w' b0 o n z):Rel g w' (h.set id ab)∧Evo g w h g w' (h.set id ab):=by
 have hno:g.free b0:=by
  rcases r.blk id ab0 hg with⟨hn,_⟩|⟨b,o',n',z',hb,_,hm,_⟩
  ·rw[hβ]at hn;cases hn
  ·rw[hβ]at hb;simp only[Zx0,Prod.mk.injEq]at hb;obtain⟨rfl,_⟩:=hb;exact hm hl0
 have hlt0:b0<w.heap.size:=by
  rcases r.blk id ab0 hg with⟨hn,_⟩|⟨b,o',n',z',hb,hlt,hm,_⟩
  ·rw[hβ]at hn;cases hn
  ·rw[hβ]at hb;simp only[Zx0,Prod.mk.injEq]at hb;obtain⟨rfl,_⟩:=hb;exact hlt
 have hget:∀i ab',(h.set id ab).get i=some ab'→(i=id∧ab'=ab)∨(i≠id∧h.get i=some ab'):=by
  intro i ab' e;rw[Heap.get_set,hg]at e;split at e
  ·rename_i hi;simp at e;exact .inl ⟨hi.symm,e.symm⟩
  ·rename_i hi;exact .inr ⟨fun h=>hi h.symm,e⟩
 refine⟨⟨fun b x v e=>r.cell_move (.inr hno) hw b x v e,fun b e he=>r.map_move (.inr hno) hw b e he,fun i hi=>⟨(r.fin i hi).1,by
   rw[Heap.get_set,hg];split
   ·rename_i hii;subst hii;rw[(r.fin id hi).2]at hg;cases hg
   ·exact(r.fin i hi).2⟩,?_,?_⟩,⟨g.le_refl,ho,ht,hout,hsz,?_,fun b o v e=>.inl e,fun b e he=>.inl he,?_⟩⟩
 ·intro i ab' e;rcases hget i ab' e with⟨rfl,rfl⟩|⟨hi,e1⟩
  ·exact .inr ⟨b0,o,n,z,hβ,by omega,fun _=>hno,hok⟩
  ·rcases r.blk i ab' e1 with h1|⟨b,o',n',z',hb,hlt',hm,hokk⟩
   ·exact .inl h1
   ·refine .inr ⟨b,o',n',z',hb,by omega,hm,AB.ok_move hokk g.le_refl (hw b hlt' (fun heq=>?_))⟩;exact r.apart id i _ _ ab0 ab' (Ne.symm hi) hg e1 (by simp[hl0]) hβ hb (by rw[heq])
 ·intro i i' x x' abi abi' hne e e' hl hx hx';rcases hget i abi e with⟨rfl,rfl⟩|⟨hi,e1⟩<;>rcases hget i' abi' e' with⟨rfl,rfl⟩|⟨hi',e1'⟩
  ·exact absurd rfl hne
  ·exact r.apart i i' x x' ab0 abi' hne hg e1' (by simp[hl0]) hx hx'
  ·exact r.apart i i' x x' abi ab0 hne e1 hg (by simp[hl0]) hx hx'
  ·exact r.apart i i' x x' abi abi' hne e1 e1' hl hx hx'
 ·intro b hb hnot;exact hw b hb (fun heq=>hnot ⟨id,ab0,_,hg,hl0,hβ,by rw[heq]⟩)
 ·rintro b ⟨i,ab',x,e,hl,hx,rfl⟩;rcases hget i ab' e with⟨rfl,rfl⟩|⟨hi,e1⟩
  ·exact .inl ⟨i,ab0,x,hg,hl0,hx,rfl⟩
  ·exact .inl ⟨i,ab',x,e1,hl,hx,rfl⟩
theorem Rel.none{g:Gh}{w:World}{h:Heap}(r:Rel g w h)(kill:Option Nat)(z:Nat)(w':World)(hww:w'.heap=w.heap)(ho:w'.os=w.os)(ht:w'.tape=w.tape)(hout:w'.output=w.output):
    Rel g w' ((Zbp h kill).push (.arr false z []))∧Evo g w h g w' ((Zbp h kill).push (.arr false z [])):=by
  have hkt:=Zk3 h kill;have hid0:g.β h.top=Option.none:=(r.fin _ (Nat.le_refl _)).1;have hget:∀i ab',((Zbp h kill).push (.arr false z [])).get i=some ab'→(i=h.top∧ab'=.arr false z [])∨(i≠h.top∧h.get i=some ab'):=by
    intro i ab' e;rw[Heap.get_push,hkt]at e;by_cases hi:h.top=i
    ·rw[if_pos hi]at e;simp only[Zx0]at e;exact .inl ⟨hi.symm,e.symm⟩
    · rw[if_neg hi]at e
      exact .inr ⟨fun h=>hi h.symm,(Zt3 e).1⟩
  refine⟨⟨fun b o v e=>?_,fun b e he=>by rw[hww];exact r.mmem b e he,?_,?_,?_⟩,⟨g.le_refl,ho,ht,hout,by rw[hww];exact Nat.le_refl _,fun b _ _=>by rw[hww],fun b o v e=>.inl e,fun b e he=>.inl he,?_⟩⟩
  · have:=r.mem b o v e
    simpa[World.cell?,hww]using this
  · intro i hi
    have hi' : h.top + 1 ≤ i := by have:((Zbp h kill).push (.arr false z [])).top=h.top+1:=by simp[Heap.push,hkt]
                                   omega
    refine⟨(r.fin i (by omega)).1,?_⟩;cases e:((Zbp h kill).push (.arr false z [])).get i with
    |none=>rfl
    | some ab'=>
      rcases hget i ab' e with⟨h1,_⟩|⟨_,h1⟩
      ·omega
      ·rw[(r.fin i (by omega)).2]at h1;cases h1
  · intro i ab' e
    rcases hget i ab' e with⟨rfl,rfl⟩|⟨hi,e1⟩
    ·exact .inl ⟨hid0,_,_,rfl⟩
    · rcases r.blk i ab' e1 with h1|⟨b,o',n',z',hb,hlt',hm,hokk⟩
      ·exact .inl h1
      ·exact .inr ⟨b,o',n',z',hb,by rw[hww];exact hlt',hm,AB.ok_move hokk g.le_refl (by rw[hww])⟩
  · intro i i' x x' abi abi' hne e e' hl hx hx'
    rcases hget i abi e with⟨rfl,rfl⟩|⟨hi,e1⟩
    ·rw[hid0]at hx;cases hx
    · rcases hget i' abi' e' with⟨rfl,rfl⟩|⟨hi',e1'⟩
      ·rw[hid0]at hx';cases hx'
      ·exact r.apart i i' x x' abi abi' hne e1 e1' hl hx hx'
  · rintro b ⟨i,ab',x,e,hl,hx,rfl⟩
    rcases hget i ab' e with⟨rfl,rfl⟩|⟨hi,e1⟩
    ·rw[hid0]at hx;cases hx
    ·exact .inl ⟨i,ab',x,e1,hl,hx,rfl⟩
def Zax(h:Heap):PV→List (List PV)
 | .sl _ es=>es
 | .own id off len=>(match h.get id with
  |some (.arr _ _ es)=>(es.drop off).take len
  |_=>[])
 | .str s=>s.map fun c=>[.int .u8 (c.toNat:Int)]
 |_=>[]
def Zf9(h:Heap)(str:Bool)(z:Nat):PV→Prop
 | .sl z' _=>str=false∧z'=z
 | .own id off len=>str=false∧(match h.get id with
  |some (.arr _ z' es)=>z'=z∧off+len≤es.length
  |_=>False)
 | .nilsl=>str=false
 | .str _=>str=true∧z=1
 |_=>False
def Zbz(h:Heap):PV→List (List PV)
 | .own id off len=>(match h.get id with
  |some (.arr _ _ es)=>(es.drop off).take len
  |_=>[])
 |_=>[]
def Zk4(h:Heap)(z:Nat):PV→Prop
 | .nilsl=>True
 | .own id off len=>(match h.get id with
  |some (.arr fz z' es)=>fz=false∧z'=z∧off+len≤es.length
  |_=>False)
 |_=>False
def Zga:PV→Option Nat
 | .own id _ _=>some id
 |_=>none
def Z09(g:Gh)(w:World)(b o z:Nat)(rows:List (List PV)):Prop:=
 ∀i j,i<rows.length→j<z→∃v,w.cell? ⟨b,o+i*z+j,none⟩=some v∧v.oneCell'=true∧Rep g v (PV.nth (PV.row rows i) j)
def RowsIn(g:Gh)(cs:List Value)(z:Nat)(rows:List (List PV)):Prop:=
 cs.length=rows.length*z∧∀i j,i<rows.length→j<z→(cs.getD (i*z+j) Go.undef).oneCell'=true∧Rep g (cs.getD (i*z+j) Go.undef) (PV.nth (PV.row rows i) j)
theorem Za7{n z i j:Nat}(hi:i<n)(hj:j<z):i*z+j<n*z:=by
 have h1:(i+1)*z≤n*z:=Nat.mul_le_mul_right _ hi;rw[Nat.succ_mul]at h1;omega
theorem Zhw{n z k:Nat}(hk:k<n*z):k / z<n∧k % z<z∧k / z*z+k % z=k:=by
 have hz:0<z:=by
  rcases Nat.eq_zero_or_pos z with rfl|h
  ·simp at hk
  ·exact h
 exact⟨(Nat.div_lt_iff_lt_mul hz).2 hk,Nat.mod_lt _ hz,by rw[Nat.mul_comm];exact Nat.div_add_mod k z⟩
theorem Z09.load{P:Program}{g:Gh}{w:World}{b o z:Nat}{rows:List (List PV)}(h:Z09 g w b o z rows)(w':World)(hw:w'.heap=w.heap):
  ∃cs:List Value,(loadCells ⟨b,o,none⟩ (rows.length*z)).run P w'=.ok cs.toArray w'∧RowsIn g cs z rows:=by
 have hadd:∀j,(⟨b,o,none⟩:Addr).add j=⟨b,o+j,none⟩:=fun j=>by by_cases h:j=0<;>simp[Addr.add,h]
 have hc:∀a,w'.cell? a=w.cell? a:=fun a=>by simp[World.cell?,hw]
 let f:Nat→Value:=fun k=>(w.cell? ⟨b,o+k,none⟩).getD Go.undef
 have hf:∀k,k<rows.length*z→w'.cell? ((⟨b,o,none⟩:Addr).add k)=some (f k):=by
  intro k hk;obtain⟨h1,h2,h3⟩:=Zhw hk;obtain⟨v,hv,_,_⟩:=h _ _ h1 h2;rw[Nat.add_assoc,h3]at hv;rw[hadd,hc,hv];simp[f,hv]
 refine⟨(List.range (rows.length*z)).map f,run_loadCells w' _ _ f hf,by simp,fun i j hi hj=>?_⟩;have hk:=Za7 hi hj;obtain⟨v,hv,h1,h2⟩:=h i j hi hj;have e1:((List.range (rows.length*z)).map f).getD (i*z+j) Go.undef=v:=by
  simp only[Zx1,List.getElem?_map,List.getElem?_range hk,Zys,Option.getD_some,f];rw[←Nat.add_assoc,hv];rfl
 rw[e1];exact⟨h1,h2⟩
section
variable {P:Program} {g:Gh} {w:World} {h:Heap}
theorem Zgb(r:Rel g w h){id off len:Nat}{fz:Bool}{z:Nat}{es:List (List PV)}{v:Value}(hv:Rep g v (.own id off len))(hg:h.get id=some (.arr fz z es))(hle:off+len≤es.length):
  (len=0∧∃ao,v=.slice ao 0 0)∨
  ∃cap b o n c ty,v=.slice (some ⟨b,o+off*z,none⟩) len cap∧g.β id=some (b,o,n,z)∧len≤cap∧o+off*z+cap*z≤n∧b<w.heap.size∧w.heap[b]?=some (.cells c ty (0,0))∧c.size=n∧
   Z09 g w b (o+off*z) z ((es.drop off).take len):=by
 cases hv with
 |ownE ao=>exact .inl ⟨rfl,ao,rfl⟩
 | own _ _ _ cap b o n z' a hb ha hc hn=>
  subst ha;rcases r.blk id _ hg with⟨hb0,_⟩|⟨b',o',n',z'',hb',hlt,_,hok⟩
  ·rw[hb]at hb0;cases hb0
  ·rw[hb]at hb';simp only[Zx0,Prod.mk.injEq]at hb';obtain⟨rfl,rfl,rfl,rfl⟩:=hb';obtain⟨rfl,hz,hle',c,ty,h1,h2,h3⟩:=hok;refine .inr ⟨cap,b,o,n,c,ty,rfl,hb,hc,hn,hlt,h1,h2,?_⟩;intro i j hi hj;have hi':i<len:=by simp at hi;omega
   obtain⟨e1,e2,_⟩:=h3 (off+i) j (by omega) hj;have hin:o+(off+i)*z+j<c.size:=by
    have:=Za7 (n:=es.length) (z:=z) (show off+i<es.length by omega) hj;omega
   refine⟨c.getD (o+(off+i)*z+j) Go.undef,?_,e1,?_⟩
   ·have:o+off*z+i*z+j=o+(off+i)*z+j:=by rw[Nat.add_mul];omega
    rw[this];simp[World.cell?,h1,hin,Array.getD]
   ·rw[Zhv _ _ _ hi',Zhu];exact e2
theorem Xdb(r:Rel g w h){z:Nat}{es:List (List PV)}{v:Value}(hv:Rep g v (.sl z es)):
  (es=[]∧∃ao cap,v=.slice ao 0 cap)∨∃b o cap,v=.slice (some ⟨b,o,none⟩) es.length cap∧es.length≤cap∧Z09 g w b o z es:=by
 cases hv with
 |slE ao cap=>exact .inl ⟨rfl,ao,cap,rfl⟩
 |sl b o len cap z a es vs ha hl hc hz hm hr=>
  subst ha hl;refine .inr ⟨b,o,cap,rfl,hc,fun i j hi hj=>⟨vs i j,?_,?_,hr i j hi hj⟩⟩
  ·exact(r.mem _ _ _ (hm i j hi hj)).1
  ·exact(r.mem _ _ _ (hm i j hi hj)).2
theorem Zr2(r:Rel g w h){str:Bool}{z:Nat}{p:PV}{v:Value}(hv:Rep g v p)(hok:Zf9 h str z p):
  (Builtin.lenOf v).run P w=.ok (Zax h p).length w∧∀w':World,w'.heap=w.heap→∃cs:List Value,(Builtin.firstCells z (Zax h p).length v).run P w'=.ok cs.toArray w'∧RowsIn g cs z (Zax h p):=by
 have empty:∀ao c,(Builtin.lenOf (.slice ao 0 c)).run P w=.ok 0 w∧∀w':World,w'.heap=w.heap→∃cs:List Value,(Builtin.firstCells z 0 (.slice ao 0 c)).run P w'=.ok cs.toArray w'∧RowsIn g cs z []:=by
  intro ao c;refine⟨rfl,fun w' _=>⟨[],?_,by simp,fun i j hi=>by simp at hi⟩⟩;cases ao with
  |none=>rfl
  |some a=>simp[Builtin.firstCells,loadCells,loadCellsFrom]
 cases p<;>simp only[Zf9]at hok
 case nilsl=>cases hv;exact empty none 0
 case str s=>
  obtain⟨_,rfl⟩:=hok;obtain⟨s',rfl,rfl⟩:=hv.str_inv;have hsz:s'.size=s'.data.toList.length:=by rw[Array.length_toList];rfl
  have hl:(Zax h (.str s'.data.toList)).length=s'.size:=by rw[Zax,Zyc,←hsz]
  rw[hl];refine⟨rfl,fun w' _=>⟨s'.data.toList.map fun c=>.int .u8 (c.toNat:Int),?_,by rw[hl,Zyc,←hsz];omega,fun i j hi hj=>?_⟩⟩
  ·have hx:(s'.extract 0 s'.size).data=s'.data:=by
    have:=Lib.extract_data s' 0 s'.size;simp only[List.drop_zero,Nat.sub_zero]at this;rw[hsz,List.take_length]at this;rw[hsz];exact Array.toList_inj.1 this
   simp only[Builtin.firstCells,hx,Sem.run_pure]
   congr 1
   apply Array.ext'
   simp
  ·rw[hl]at hi;obtain rfl:j=0:=by omega
   have hi':i<s'.data.toList.length:=by omega
   have e1:(s'.data.toList.map fun c=>Value.int .u8 (c.toNat:Int)).getD (i*1+0) Go.undef=.int .u8 ((s'.data.toList[i]).toNat:Int):=by
    simp only[Nat.mul_one,Nat.add_zero,Zx1,List.getElem?_map,Zye hi'];rfl
   have e2:PV.row (Zax h (.str s'.data.toList)) i=[.int .u8 ((s'.data.toList[i]).toNat:Int)]:=by
    simp only[PV.row,Zax,Zx1,List.getElem?_map,Zye hi'];rfl
   rw[e1,e2];exact⟨rfl,.int _ _⟩
 case sl z' es=>
  obtain⟨_,rfl⟩:=hok;rcases Xdb r hv with⟨rfl,ao,cap,rfl⟩|⟨b,o,cap,rfl,hc,hrows⟩
  ·exact empty ao cap
  ·exact⟨rfl,fun w' hw=>hrows.load w' hw⟩
 case own id off len=>
  obtain⟨_,hok⟩:=hok;split at hok
  case h_2=>exact hok.elim
  rename_i fz z' es hg;obtain⟨rfl,hle⟩:=hok;have hlen:((es.drop off).take len).length=len:=by simp;omega
  simp only[Zax,hg];rcases Zgb r hv hg hle with⟨rfl,ao,rfl⟩|⟨cap,b,o,n,c,ty,rfl,hb,hc,hn,hlt,h1,h2,hrows⟩
  ·simp only[List.take_zero,Zyn];exact empty ao 0
  ·rw[hlen];refine⟨rfl,fun w' hw=>?_⟩;have:=hrows.load (P:=P) w' hw;rw[hlen]at this;exact this
theorem Zji{cs ds:List Value}{z:Nat}{r1 r2:List (List PV)}(a:RowsIn g cs z r1)(b:RowsIn g ds z r2):RowsIn g (cs++ds) z (r1++r2):=by
 refine⟨by simp[a.1,b.1,Nat.add_mul],fun i j hi hj=>?_⟩;simp only[Zx5]at hi;by_cases h1:i<r1.length
 ·have hk:=Za7 h1 hj;have e1:(cs++ds).getD (i*z+j) Go.undef=cs.getD (i*z+j) Go.undef:=by
   simp[Zx1,List.getElem?_append_left (show i*z+j<cs.length by rw[a.1];exact hk)]
  have e2:PV.row (r1++r2) i=PV.row r1 i:=by simp[PV.row,Zx1,List.getElem?_append_left h1]
  rw[e1,e2];exact a.2 i j h1 hj
 ·have h2:i-r1.length<r2.length:=by omega
  have hge:r1.length*z≤i*z:=Nat.mul_le_mul_right _ (by omega);have e1:(cs++ds).getD (i*z+j) Go.undef=ds.getD ((i-r1.length)*z+j) Go.undef:=by
   simp only[Zx1];rw[List.getElem?_append_right (by rw[a.1];omega),a.1]
   congr 2
   rw[Nat.sub_mul];omega
  have e2:PV.row (r1++r2) i=PV.row r2 (i-r1.length):=by
   simp only[PV.row,Zx1];rw[List.getElem?_append_right (by omega)]
  rw[e1,e2];exact b.2 _ j h2 hj
end
section
variable {P:Program} {g:Gh} {w:World} {h:Heap}
theorem Xdc(b o k:Nat):(⟨b,o,none⟩:Addr).add k=⟨b,o+k,none⟩:=by by_cases h:k=0<;>simp[Addr.add,h]
theorem Z5t(w:World)(O:Obj){k:Nat}(hk:k<w.heap.size):(w.drew.alloc O).heap[k]?=w.heap[k]?:=RowKit.Below.heap_alloc w.drew O k hk
theorem Z5u(w:World)(O:Obj):(w.drew.alloc O).heap[w.heap.size]?=some O:=by
 show(w.heap.push O)[w.heap.size]?=_;simp
theorem Zk5(w:World)(O:Obj):(w.drew.alloc O).heap.size=w.heap.size+1:=by
 show(w.heap.push O).size=_;simp
theorem Zt4{t u ty e:TypeId}{i:TypeInfo}{d:TypeDesc}(ht:P.underlying t=some (.slice e))(hu:P.underlying u=some d)(hd:∀k,d≠.int k)(hi:P.info? e=some i)
  {b o L C n:Nat}{x:Value}{news:List Value}(hx:(Builtin.lenOf x).run P w=.ok n w)(hn:(Builtin.firstCells i.size n x).run P w=.ok news.toArray w)(hroom:L+n≤C)(hl:news.length=n*i.size)
  {c:Array Value}{tt:TypeId}(hc:w.heap[b]?=some (.cells c tt (0,0)))(hfit:o+L*i.size+news.length≤c.size)(h1:∀v∈news,v.oneCell'=true):
  (Builtin.append_ #[t,u] ty #[.slice (some ⟨b,o,none⟩) L C,x]).run P w=
   .ok (.slice (some ⟨b,o,none⟩) (L+n) C) (w.setRow b (c.toList.take (o+L*i.size)++news++c.toList.drop (o+L*i.size+news.length)).toArray):=by
 have hst:=run_storeCells_at P b (o+L*i.size) tt news 0 c w hc (by simpa using hfit) h1;simp only[Nat.add_zero]at hst;have hz:(match d with|.int _=>true|_=>false)=false:=by cases d<;>first|rfl|exact absurd rfl (hd _)
 simp[Builtin.append_,run_underlying ht,run_underlying hu,sizeOf,typeInfo,hi,hx,hroom,hn,Xdc,hst,hz]
theorem Zt5{t u ty e:TypeId}{i:TypeInfo}{d:TypeDesc}(ht:P.underlying t=some (.slice e))(hu:P.underlying u=some d)(hd:∀k,d≠.int k)(hi:P.info? e=some i)
  {ao:Option Addr}{x:Value}(hx:(Builtin.lenOf x).run P w=.ok 0 w){cs:List Value}(hn:(Builtin.firstCells i.size 0 x).run P w=.ok cs.toArray w)(hcs:cs=[]):
  (Builtin.append_ #[t,u] ty #[.slice ao 0 0,x]).run P w=.ok (.slice ao 0 0) w:=by
 subst hcs;have hz:(match d with|.int _=>true|_=>false)=false:=by cases d<;>first|rfl|exact absurd rfl (hd _)
 cases ao<;>simp[Builtin.append_,run_underlying ht,run_underlying hu,sizeOf,typeInfo,hi,hx,hn,hz,storeCells]
theorem Zg3{t u ty e:TypeId}{i:TypeInfo}{d:TypeDesc}{zv:Value}(ht:P.underlying t=some (.slice e))(hu:P.underlying u=some d)(hd:∀k,d≠.int k)(hi:P.info? e=some i)(hz:i.zero=some zv)
  {ao:Option Addr}{L C n:Nat}{x:Value}{olds news:List Value}(hx:(Builtin.lenOf x).run P w=.ok n w)(hn:(Builtin.firstCells i.size n x).run P w.drew=.ok news.toArray w.drew)
  (ho:(Builtin.firstCells i.size L (.slice ao L C)).run P w.drew=.ok olds.toArray w.drew)(hg:C<L+n)(h63:L+n≤4611686018427387904)(hfit:(L+n)*i.bytes≤140737488355328):
  ∃cap,L+n≤cap∧(Builtin.append_ #[t,u] ty #[.slice ao L C,x]).run P w=
   .ok (.slice (some ⟨w.heap.size,0,none⟩) (L+n) cap) (w.drew.alloc (.cells (olds++news++(Builtin.zeroCells zv.cells (cap-(L+n))).toList).toArray e)):=by
 have hzz:(match d with|.int _=>true|_=>false)=false:=by cases d<;>first|rfl|exact absurd rfl (hd _)
 have hnl:¬(L+n≤C):=by omega
 have h63':¬(9223372036854775807<((L:Int)+(n:Int))):=by omega
 have h48:=growslice_fits (need:=L+n) (old:=C) (bytes:=i.bytes) hg hfit;have h48':¬(281474976710656<Builtin.nextslicecap (L+n) C*i.bytes):=by omega
 refine⟨grownCap w (L+n) C e,?_,?_⟩
 ·unfold grownCap Question.cut;simp only;omega
 ·simp[Builtin.append_,run_underlying ht,run_underlying hu,sizeOf,typeInfo,zeroValue,hi,hz,hx,hnl,h63',h48',Question.forced,hn,ho,newRow,grownCap,hzz]
  congr 2
  apply Array.ext'
  simp
theorem Z1a{cs:List Value}{z:Nat}{rows:List (List PV)}(a:RowsIn g cs z rows):∀v∈cs,v.oneCell'=true:=by
 intro v hv;obtain⟨k,hk,rfl⟩:=List.mem_iff_getElem.1 hv;rw[a.1]at hk;obtain⟨h1,h2,h3⟩:=Zhw hk;have:=(a.2 _ _ h1 h2).1;rw[h3]at this
 simpa[Zx1,Zye (show k<cs.length by rw[a.1];exact hk)]using this
theorem Z5v{t u ty e:TypeId}{i:TypeInfo}{d:TypeDesc}{zr:List PV}{str:Bool}(ht:P.underlying t=some (.slice e))(hu:P.underlying u=some d)(hd:∀k,d≠.int k)(hi:P.info? e=some i)(hzo:zeroOf P e=some zr)(hzl:zr.length=i.size)
  (r:Rel g w h){p q:PV}{vp vq:Value}(hp:Rep g vp p)(hq:Rep g vq q)(hop:Zk4 h i.size p)(hoq:Zf9 h str i.size q)
  (hrows:∀x∈Zax h q,x.length=i.size)(h63:(Zbz h p).length+(Zax h q).length≤4611686018427387904)(hfit:((Zbz h p).length+(Zax h q).length)*i.bytes≤140737488355328):
  ∃v w' g',(Builtin.append_ #[t,u] ty #[vp,vq]).run P w=.ok v w'∧Rep g' v (.own h.top 0 ((Zbz h p).length+(Zax h q).length))∧
   Rel g' w' ((Zbp h (Zga p)).push (.arr false i.size (Zbz h p++Zax h q)))∧Evo g w h g' w' ((Zbp h (Zga p)).push (.arr false i.size (Zbz h p++Zax h q))):=by
 obtain⟨hx,hnews⟩:=Zr2 (P:=P) r hq hoq;obtain⟨j,zv,hj,hzv,hcs⟩:=Zes hzo;rw[hi]at hj;simp only[Zx0]at hj;subst hj;obtain⟨zs,_⟩:=Zdt (g:=g) hcs;have hrowl:∀k,k<(Zax h q).length→(PV.row (Zax h q) k).length=i.size:=fun k hk=>by
  apply hrows
  simp[PV.row,Zx1,Zye hk]
 generalize Zax h q=src at*;have nowhere:∀(ao:Option Addr) (olds:List (List PV)) (kill:Option Nat),olds=[]→vp= .slice ao 0 0→
   ∃v w' g',(Builtin.append_ #[t,u] ty #[vp,vq]).run P w=.ok v w'∧Rep g' v (.own h.top 0 (olds.length+src.length))∧
   Rel g' w' ((Zbp h kill).push (.arr false i.size (olds++src)))∧Evo g w h g' w' ((Zbp h kill).push (.arr false i.size (olds++src))):=by
  intro ao olds kill ho hvp;subst ho hvp;by_cases h0:src.length=0
  ·obtain rfl:src=[]:=by simpa using h0
   obtain⟨cs,hcs1,hcs2⟩:=hnews w rfl;have hcs0:cs=[]:=by have:=hcs2.1;simpa using this
   obtain⟨f2,f3⟩:=r.none kill i.size w rfl rfl rfl rfl;exact⟨_,w,g,Zt5 ht hu hd hi hx hcs1 hcs0,.ownE _ _ _,f2,f3⟩
  ·obtain⟨cs,hcs1,hcs2⟩:=hnews w.drew rfl;have hold:(Builtin.firstCells i.size 0 (.slice ao 0 0)).run P w.drew=.ok ([]:List Value).toArray w.drew:=by
    cases ao with
    |none=>rfl
    |some a=>simp[Builtin.firstCells,loadCells,loadCellsFrom]
   obtain⟨cap,hcap,hrun⟩:=Zg3 (ty:=ty) ht hu hd hi hzv hx hcs1 hold (by omega) (by omega) (by rw[Nat.zero_add];exact Nat.le_trans (Nat.mul_le_mul_right _ (by omega)) hfit);simp only[Nat.zero_add,List.nil_append]at hrun hcap;have hsize:(cs++(Builtin.zeroCells zv.cells (cap-src.length)).toList).toArray.size=cap*i.size:=by
    simp only[List.size_toArray,Zx5,Array.length_toList,size_zeroCells,hcs2.1,zs,hzl];rw[←Nat.add_mul];congr 1;omega
   obtain⟨g',f2,_,f3,f4,f5⟩:=r.put kill w.heap.size 0 (cap*i.size) i.size (.arr false i.size src) (w.drew.alloc (.cells (cs++(Builtin.zeroCells zv.cells (cap-src.length)).toList).toArray e))
    (.inl (Nat.le_refl _)) (fun k hk _=>Z5t _ _ hk) (by rw[Zk5];omega) (by rw[Zk5];omega) rfl rfl rfl rfl (fun g' hg'=>by
     refine⟨rfl,hrowl,by simp;exact Nat.mul_le_mul_right _ hcap,_,e,Z5u _ _,hsize,fun a b ha hb=>?_⟩;have hk:=Za7 ha hb;obtain⟨c1,c2⟩:=hcs2.2 a b ha hb;have e1:(cs++(Builtin.zeroCells zv.cells (cap-src.length)).toList).toArray.getD (0+a*i.size+b) Go.undef=cs.getD (a*i.size+b) Go.undef:=by
      have:a*i.size+b<cs.length:=by rw[hcs2.1];exact hk
      simp[Zx6,Zx1,List.getElem?_append_left this]
     rw[e1];exact⟨c1,c2.mono hg',fun hh=>by cases hh⟩)
   refine⟨_,_,g',hrun,?_,f4,f5⟩;rw[show([]:List (List PV)).length+src.length=src.length by simp];exact .own h.top 0 src.length cap w.heap.size 0 (cap*i.size) i.size ⟨w.heap.size,0,none⟩ f3 (by simp) hcap (by simp)
 cases p<;>simp only[Zk4]at hop
 case nilsl=>cases hp;exact nowhere none [] none rfl rfl
 case own ia off len=>
  split at hop
  case h_2=>exact hop.elim
  rename_i fz z' es hgx;obtain⟨rfl,rfl,hle⟩:=hop;have hlen:((es.drop off).take len).length=len:=by simp;omega
  have hor:Zbz h (.own ia off len)=(es.drop off).take len:=by simp[Zbz,hgx]
  rw[hor]at h63 hfit⊢;rcases Zgb r hp hgx hle with⟨rfl,ao,rfl⟩|⟨cap,b,o,n,c,tt,rfl,hb,hc,hn,hlt,h1,h2,hra⟩
  ·exact nowhere ao _ _ (by simp) rfl
  ·simp only[Zga];have hrl:∀k,k<len→(PV.row ((es.drop off).take len) k).length=i.size:=by
    intro k hk;rcases r.blk ia _ hgx with⟨hb0,_⟩|⟨b',o',n',z'',hb',_,_,hok⟩
    ·rw[hb]at hb0;cases hb0
    ·rw[hb]at hb';simp only[Zx0,Prod.mk.injEq]at hb';obtain⟨rfl,rfl,rfl,rfl⟩:=hb';rw[Zhv _ _ _ hk,Zhu];exact hok.2.1 _ (by omega)
   have hrl2:∀k,k<((es.drop off).take len++src).length→(PV.row ((es.drop off).take len++src) k).length=i.size:=by
    intro k hk;by_cases hkl:k<len
    ·have:PV.row ((es.drop off).take len++src) k=PV.row ((es.drop off).take len) k:=by simp[PV.row,Zx1,List.getElem?_append_left (show k<((es.drop off).take len).length by omega)]
     rw[this];exact hrl k hkl
    ·have:PV.row ((es.drop off).take len++src) k=PV.row src (k - len):=by
      simp only[PV.row,Zx1];rw[List.getElem?_append_right (by omega),hlen]
     rw[this];exact hrowl _ (by simp only[Zx5,hlen]at hk;omega)
   rw[hlen]at h63 hfit⊢;by_cases hroom:len+src.length≤cap
   ·obtain⟨cs,hcs1,hcs2⟩:=hnews w rfl;have hfit2:o+off*i.size+len*i.size+cs.length≤c.size:=by
     have:(len+src.length)*i.size≤cap*i.size:=Nat.mul_le_mul_right _ hroom;rw[Nat.add_mul]at this;rw[hcs2.1];omega
    have hrun:=Zt4 (ty:=ty) ht hu hd hi hx hcs1 hroom hcs2.1 h1 hfit2 (Z1a hcs2);have hheap:(w.setRow b (c.toList.take (o+off*i.size+len*i.size)++cs++c.toList.drop (o+off*i.size+len*i.size+cs.length)).toArray).heap[b]?=some (.cells (c.toList.take (o+off*i.size+len*i.size)++cs++c.toList.drop (o+off*i.size+len*i.size+cs.length)).toArray tt (0,0)):=setRow_heap w b c _ tt (0,0) h1;have hsame:∀k,k≠b→(w.setRow b (c.toList.take (o+off*i.size+len*i.size)++cs++c.toList.drop (o+off*i.size+len*i.size+cs.length)).toArray).heap[k]?=w.heap[k]?:=by
     intro k hk;simp only[World.setRow,Array.getElem?_modify];rw[if_neg (Ne.symm hk)]
    have hsz:(w.setRow b (c.toList.take (o+off*i.size+len*i.size)++cs++c.toList.drop (o+off*i.size+len*i.size+cs.length)).toArray).heap.size=w.heap.size:=by simp[World.setRow]
    generalize hW:w.setRow b (c.toList.take (o+off*i.size+len*i.size)++cs++c.toList.drop (o+off*i.size+len*i.size+cs.length)).toArray=W at*;have hWos:W.os=w.os∧W.tape=w.tape∧W.output=w.output:=by rw[←hW];exact⟨rfl,rfl,rfl⟩
    obtain⟨g',f2,_,f3,f4,f5⟩:=r.put (some ia) b (o+off*i.size) n i.size (.arr false i.size ((es.drop off).take len++src)) W
     (.inr ⟨ia,_,_,rfl,hgx,rfl,hb,rfl⟩) (fun k _ hk=>hsame k hk) (by omega) (by omega) hWos.1 hWos.2.1 hWos.2.2 rfl (fun g' hg'=>by
      refine⟨rfl,hrl2,?_,_,tt,hheap,?_,fun x y hx' hy=>?_⟩
      ·simp only[Zx5,hlen];have:(len+src.length)*i.size≤cap*i.size:=Nat.mul_le_mul_right _ hroom;omega
      ·simp;omega
      ·simp only[Zx5,hlen]at hx';by_cases hxl:x<len
       ·obtain⟨v,e1,e2,e3⟩:=hra x y (by omega) hy;have hk:=Za7 (n:=len) hxl hy;have e4:(c.toList.take (o+off*i.size+len*i.size)++cs++c.toList.drop (o+off*i.size+len*i.size+cs.length)).toArray.getD (o+off*i.size+x*i.size+y) Go.undef=v:=by
         have hin:o+off*i.size+x*i.size+y<(c.toList.take (o+off*i.size+len*i.size)).length:=by simp;omega
         have hin2:o+off*i.size+x*i.size+y<c.size:=by omega
         simp only[World.cell?,h1,Option.isSome_none,Zyu,if_false]at e1;rw[Zx6,List.getElem?_toArray,List.append_assoc,List.getElem?_append_left hin,List.getElem?_take,if_pos (by omega),Array.getElem?_toList,e1];rfl
        have e5:PV.row ((es.drop off).take len++src) x=PV.row ((es.drop off).take len) x:=by simp[PV.row,Zx1,List.getElem?_append_left (show x<((es.drop off).take len).length by omega)]
        rw[e4,e5];exact⟨e2,e3.mono hg',fun hh=>by cases hh⟩
       ·obtain⟨e2,e3⟩:=hcs2.2 (x-len) y (by omega) hy;have hk:=Za7 (n:=src.length) (show x-len<src.length by omega) hy;have hxz:x*i.size=len*i.size+(x-len)*i.size:=by rw[←Nat.add_mul];congr 1;omega
        have e4:(c.toList.take (o+off*i.size+len*i.size)++cs++c.toList.drop (o+off*i.size+len*i.size+cs.length)).toArray.getD (o+off*i.size+x*i.size+y) Go.undef=cs.getD ((x-len)*i.size+y) Go.undef:=by
         have hl1:(c.toList.take (o+off*i.size+len*i.size)).length=o+off*i.size+len*i.size:=by simp;omega
         rw[Zx6,List.getElem?_toArray,List.append_assoc,List.getElem?_append_right (by rw[hl1];omega),hl1,List.getElem?_append_left (by rw[hcs2.1];omega),Zx1]
         congr 2;omega
        have e5:PV.row ((es.drop off).take len++src) x=PV.row src (x-len):=by
         simp only[PV.row,Zx1];rw[List.getElem?_append_right (by omega),hlen]
        rw[e4,e5];exact⟨e2,e3.mono hg',fun hh=>by cases hh⟩)
    refine⟨_,W,g',hrun,?_,f4,f5⟩;refine .own h.top 0 _ cap b (o+off*i.size) n i.size _ f3 (by simp) hroom (by simp;omega)
   ·obtain⟨cs,hcs1,hcs2⟩:=hnews w.drew rfl;obtain⟨os,hos1,hos2⟩:=hra.load (P:=P) w.drew rfl;rw[hlen]at hos1;obtain⟨cap',hcap,hrun⟩:=Zg3 (ty:=ty) (ao:=some ⟨b,o+off*i.size,none⟩) (L:=len) (C:=cap) ht hu hd hi hzv hx hcs1 hos1 (by omega) h63 hfit;have hboth:=Zji hos2 hcs2;have hsize:(os++cs++(Builtin.zeroCells zv.cells (cap'-(len+src.length))).toList).toArray.size=cap'*i.size:=by
     simp only[List.size_toArray,Zx5,Array.length_toList,size_zeroCells,hcs2.1,hos2.1,zs,hzl,hlen];rw[←Nat.add_mul,←Nat.add_mul];congr 1;omega
    obtain⟨g',f2,_,f3,f4,f5⟩:=r.put (some ia) w.heap.size 0 (cap'*i.size) i.size (.arr false i.size ((es.drop off).take len++src)) (w.drew.alloc (.cells (os++cs++(Builtin.zeroCells zv.cells (cap'-(len+src.length))).toList).toArray e))
     (.inl (Nat.le_refl _)) (fun k hk _=>Z5t _ _ hk) (by rw[Zk5];omega) (by rw[Zk5];omega) rfl rfl rfl rfl (fun g' hg'=>by
      refine⟨rfl,hrl2,by simp only[Zx5,hlen,Nat.zero_add];exact Nat.mul_le_mul_right _ hcap,_,e,Z5u _ _,hsize,fun x y hx' hy=>?_⟩;have hk:=Za7 hx' hy;obtain⟨c1,c2⟩:=hboth.2 x y hx' hy;have e1:(os++cs++(Builtin.zeroCells zv.cells (cap'-(len+src.length))).toList).toArray.getD (0+x*i.size+y) Go.undef=(os++cs).getD (x*i.size+y) Go.undef:=by
       have:x*i.size+y<(os++cs).length:=by rw[hboth.1];exact hk
       rw[Nat.zero_add,Zx6,List.getElem?_toArray,List.getElem?_append_left this,Zx1]
      rw[e1];exact⟨c1,c2.mono hg',fun hh=>by cases hh⟩)
    refine⟨_,_,g',hrun,?_,f4,f5⟩;exact .own h.top 0 (len+src.length) cap' w.heap.size 0 (cap'*i.size) i.size ⟨w.heap.size,0,none⟩ f3 (by simp) hcap (by simp)
end
end Go.VM
