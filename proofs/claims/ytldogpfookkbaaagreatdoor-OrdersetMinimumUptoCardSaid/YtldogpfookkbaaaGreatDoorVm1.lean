import Derived.Below
import Derived.Orders
import Derived.ChangeKeysEq
import Derived.Laws.Slices
import Derived.Lib.Strings
set_option linter.all false
namespace Go.VM
open Go
theorem Zx0{α:Type _}(a b:α):(some a=some b)=(a=b):=Option.some.injEq a b
theorem Zx1{α:Type _}{l:List α}{i:Nat}{a:α}:l.getD i a=l[i]?.getD a:=List.getD_eq_getElem?_getD
theorem Zx2{p:Prop}{h:Decidable p}:decide p=false↔ ¬p:=decide_eq_false_iff_not
theorem Zx3{p:Prop}[Decidable p]:(decide p=true)=p:=decide_eq_true_eq
theorem Zx4(a b:Bool):((a && b)=true)=(a=true∧b=true):=Bool.and_eq_true a b
theorem Zx5{α:Type _}{as bs:List α}:(as++bs).length=as.length+bs.length:=List.length_append
theorem Zx6{α:Type _}{xs:Array α}{i:Nat}{d:α}:xs.getD i d=xs[i]?.getD d:=Array.getD_eq_getD_getElem?
theorem Zx7{α:Type _}(y:α){a:α}{l:List α}(h:a∈l):a∈y::l:=List.mem_cons_of_mem y h
def Zya:=@List.not_mem_nil
def Zyb:=@List.mem_cons
def Zyc:=@List.length_map
def Zyd:=@List.length_cons
def Zye:=@List.getElem?_eq_getElem
def Zyf:=@decide_eq_true
def Zyg:=@decide_eq_false
def Zyh:=@List.length_take
def Zyi:=@List.take_of_length_le
def Zyj:=@List.append_nil
def Zyk:=@Int.toNat_natCast
def Zyl:=@List.getElem_mem
def Zym:=@Nat.le_of_ble_eq_true
def Zyn:=@List.length_nil
def Zyo:=@List.getElem?_cons_succ
def Zyp:=@List.getElem?_cons_zero
def Zyq:=@Array.getElem?_eq_some_iff
def Zyr:=@List.mem_singleton
def Zys:=@Option.map_some
def Zyt:=@Bool.true_and
def Zyu:=@Bool.false_eq_true
def Zyv:=@forall_eq_or_imp
def Zyw:=@Nat.zero_le
inductive PV where
 |any
 |undef
 |bool (b:Bool)
 |int (k:IntKind) (n:Int)
 |str (s:List UInt8)
 |nilp
 |loc (id i off:Nat)
 |ro (cs:List PV)
 |nilsl
 |sl (z:Nat) (es:List (List PV))
 |own (id off len:Nat)
 |mp (id:Nat)
 |rmp (es:List (PV×PV))
 |nilmp
 |fn (f:Fn) (first captured:List PV)
 |fnb (f:Fn) (p:PV)
 |nilfn
 |agg (cs:List PV)
 |tup (vs:List PV)
 |ifc (t:TypeId) (v:PV)
 |nilif
 deriving Inhabited
inductive MK where
 |map (e:Array MapEntry) (clock:Nat)
 |cells (c:Array Value)
def MK.At:MK→Option Obj→Prop
 | .map e clock,x=>x=some (.map e clock)
 | .cells c,x=>∃t fr,x=some (.cells c t fr)
theorem MK.At.there{k:MK}{x:Option Obj}(h:k.At x):∃o,x=some o:=by
 cases k with
 |map e c=>exact⟨_,h⟩
 |cells c=>obtain⟨t,fr,h⟩:=h;exact⟨_,h⟩
theorem MK.At.lt{k:MK}{hp:Array Obj}{b:Nat}(h:k.At hp[b]?):b<hp.size:=by
 obtain⟨o,h⟩:=h.there;exact(Array.getElem?_eq_some_iff.1 h).1
def arrOn:Bool:=true
def known:List (Nat×List Value):=[(0,[.func (.func 299) #[] #[],.func (.func 300) #[] #[]]),(4,[.string ⟨#[98,111,111,107]⟩,.string ⟨#[112,97,114,116]⟩,.string ⟨#[115,101,99,116,105,111,110]⟩,.string ⟨#[112,97,114,97,103,114,97,112,104]⟩,.string ⟨#[116,97,98,108,101]⟩,.string ⟨#[114,111,119]⟩,.string ⟨#[99,101,108,108]⟩,.string ⟨#[110,111,116,101]⟩])]
inductive GK where
 |ifc
 |int
def GK.fits:GK→Value→Prop
 | .ifc,v=>v=.nilIface∨∃te pe,v=.iface te pe
 | .int,v=>∃m,v=.int .i64 m
def GK.dflt:GK→Value
 | .ifc=>.nilIface
 | .int=>.int .i64 0
theorem GK.dflt_fits(k:GK):k.fits k.dflt:=by cases k;exact .inl rfl;exact⟨_,rfl⟩
def Zlx:List (Nat×GK):=[]
theorem Zht{β:Type}:∀{l:List (Nat×β)} {b:Nat} {x:β},l.lookup b=some x→(b,x)∈l
 | [],_,_,h=>by cases h
 |(a,y)::r,b,x,h=>by
  rw[List.lookup_cons]at h;split at h
  ·rename_i e;simp only[beq_iff_eq]at e;cases h;subst e;exact List.mem_cons_self
  ·exact Zx7 _ (Zht h)
theorem Ztq{b:Nat}{k:GK}(h:Zlx.lookup b=some k):known.lookup b=none:=by
 have hall:(Zlx.all fun x=>(known.lookup x.1).isNone)=true:=rfl;have:=List.all_eq_true.1 hall _ (Zht h)
 simpa using this
def Zly:List (Nat×List (List Int)):=[(1,[[1,2],[2],[3,4,7],[3,4,7],[5],[6],[],[]])]
def Xc6(c:Nat→Nat→Option Value)(v:Value)(xs:List Int):Prop:=
 (xs=[]∧v=.slice none 0 0)∨∃b o cap,xs.length≤cap∧v=.slice (some ⟨b,o,none⟩) xs.length cap∧∀i,i<xs.length→c b (o+i)=some (.int .i64 (xs.getD i 0))
theorem Xc6.mono{c c':Nat→Nat→Option Value}(h:∀b o v,c b o=some v→c' b o=some v){v:Value}{xs:List Int}(k:Xc6 c v xs):Xc6 c' v xs:=by
 rcases k with k|⟨b,o,cap,h1,h2,h3⟩
 ·exact .inl k
 ·exact .inr ⟨b,o,cap,h1,h2,fun i hi=>h _ _ _ (h3 i hi)⟩
def Xe5(c:Nat→Nat→Option Value):Prop:=∀b ls,Zly.lookup b=some ls→∀j,j<ls.length→∃v,c b j=some v∧Xc6 c v (ls.getD j [])
theorem Xe5.mono{c c':Nat→Nat→Option Value}(h:∀b o v,c b o=some v→c' b o=some v)(k:Xe5 c):Xe5 c':=fun b ls hb j hj=>by
 obtain⟨v,h1,h2⟩:=k b ls hb j hj;exact⟨v,h _ _ _ h1,h2.mono h⟩
def dfS(b o:Nat):Option Value:=match Zly.lookup b with
 |some ls=>(ls[o]?).map fun xs=>if xs=[]then .slice none 0 0 else .slice (some ⟨1000*(b+1)+o,0,none⟩) xs.length xs.length
 |none=>match Zly.lookup (b / 1000-1)with
  |some ls=>((ls.getD (b % 1000) [])[o]?).map fun x=>.int .i64 x
  |none=>none
def df0(b o:Nat):Option Value:=match known.lookup b with
 |some l=>l[o]?
 |none=>match Zlx.lookup b with
  |some k=>some k.dflt
  |none=>dfS b o
theorem Zkx{β:Type}{l:List (Nat×β)}(h:(l.all fun x=>decide (x.1<1000))=true){b:Nat}(hb:1000≤b):l.lookup b=none:=by
 cases hl:l.lookup b with
 |none=>rfl
 |some x=>
  have:=List.all_eq_true.1 h _ (Zht hl);simp only[Zx3]at this;omega
theorem df0_ks:Xe5 df0:=fun b ls hb j hj=>by
 have n1:(known.all fun x=>decide (x.1<1000))=true:=rfl;have n2:(Zlx.all fun x=>decide (x.1<1000))=true:=rfl;have n3:(Zly.all fun x=>decide (x.1<1000))=true:=rfl;have n4:(Zly.all fun x=>decide (x.2.length<1000)&&((known.lookup x.1).isNone&&(Zlx.lookup x.1).isNone))=true:=rfl;have h4:=List.all_eq_true.1 n4 _ (Zht hb);simp only[Zx4,Zx3,Option.isNone_iff_eq_none]at h4;obtain⟨h5,h6,h7⟩:=h4;have e0:ls[j]?=some ls[j]:=Zye hj;have eg:ls.getD j []=ls[j]:=by simp[List.getD,hj]
 have e1:df0 b j=some (if ls[j]=[]then .slice none 0 0 else .slice (some ⟨1000*(b+1)+j,0,none⟩) ls[j].length ls[j].length):=by
  unfold df0 dfS;rw[h6];simp only[];rw[h7];simp only[];rw[hb];simp only[e0,Zys]
 refine⟨_,e1,?_⟩;rw[eg];by_cases he:ls[j]=[]
 ·exact .inl ⟨he,by rw[if_pos he]⟩
 ·refine .inr ⟨1000*(b+1)+j,0,ls[j].length,Nat.le_refl _,by rw[if_neg he],fun i hi=>?_⟩;have d1:(1000*(b+1)+j) / 1000-1=b:=by omega
  have d2:(1000*(b+1)+j) % 1000=j:=by omega
  have e2:ls[j][i]?=some ls[j][i]:=Zye hi;have e3:ls[j].getD i 0=ls[j][i]:=by simp[List.getD,hi]
  unfold df0 dfS;rw[Zkx n1 (by omega)];simp only[];rw[Zkx n2 (by omega)];simp only[];rw[Zkx n3 (by omega)];simp only[];rw[d1,d2,hb];simp only[Nat.zero_add];rw[eg,e2,e3];rfl
structure Mem where
 c:Nat→Nat→Option Value
 mm:Nat→Option MK
 kn:∀b l,known.lookup b=some l→mm b=some (.cells l.toArray)∧ ∀j,j<l.length→c b j=some (l.getD j Go.undef)
 kg:∀b k,Zlx.lookup b=some k→ ∃v,c b 0=some v∧k.fits v
 ks:Xe5 c
instance:CoeFun Mem (fun _=>Nat→Nat→Option Value):=⟨Mem.c⟩
structure Gh where
 m:Mem
 β:Nat→Option (Nat×Nat×Nat×Nat)
def Gh.free(g:Gh)(b:Nat):Prop:=(∀x,g.m b x=none)∧g.m.mm b=none
def Gh.le(g g':Gh):Prop:=
 (∀b o v,g.m b o=some v→g'.m b o=some v)∧(∀id x,g.β id=some x→g'.β id=some x)∧(∀b e,g.m.mm b=some e→g'.m.mm b=some e)
theorem Gh.le_refl(g:Gh):g.le g:=⟨fun _ _ _ h=>h,fun _ _ h=>h,fun _ _ h=>h⟩
theorem Gh.le_trans{a b c:Gh}(h:a.le b)(k:b.le c):a.le c:=
 ⟨fun x y v e=>k.1 x y v (h.1 x y v e),fun i x e=>k.2.1 i x (h.2.1 i x e),fun i x e=>k.2.2 i x (h.2.2 i x e)⟩
def PV.nth(l:List PV)(j:Nat):PV:=l.getD j .any
def PV.row(es:List (List PV))(i:Nat):List PV:=es.getD i []
def Zh9:PV→Bool
 | .int _ _|.str _|.bool _=>true
 |_=>false
def Zwr:PV→Bool
 | .agg cs=>cs.all Zh9
 |p=>Zh9 p
def Zmw(es:List (PV×PV)):Prop:=∀p∈es,Zwr p.1=true
inductive Rep (g:Gh):Value→PV→Prop
 |any (v:Value):Rep g v .any
 |undef:Rep g Go.undef .undef
 |bool (b:Bool):Rep g (.bool b) (.bool b)
 |int (k:IntKind) (n:Int):Rep g (.int k n) (.int k n)
 |str (s:ByteArray) (l:List UInt8) (h:s.data.toList=l):Rep g (.string s) (.str l)
 |nilp:Rep g (.pointer none) .nilp
 |loc (id i off b o n z:Nat) (a:Addr) (hb:g.β id=some (b,o,n,z)) (ha:a=⟨b,o+i*z+off,none⟩):Rep g (.pointer (some a)) (.loc id i off)
 | ro (b o:Nat) (a:Addr) (cs:List PV) (vs:Nat→Value) (ha:a=⟨b,o,none⟩) (hm:∀j,j<cs.length→g.m b (o+j)=some (vs j))
   (hr:∀j,j<cs.length→Rep g (vs j) (PV.nth cs j)):Rep g (.pointer (some a)) (.ro cs)
 |nilsl:Rep g (.slice none 0 0) .nilsl
 |slE (a:Option Addr) (cap z:Nat):Rep g (.slice a 0 cap) (.sl z [])
 | sl (b o len cap z:Nat) (a:Addr) (es:List (List PV)) (vs:Nat→Nat→Value) (ha:a=⟨b,o,none⟩) (hl:es.length=len) (hc:len≤cap)
   (hz:∀i,i<len→(PV.row es i).length=z) (hm:∀i j,i<len→j<z→g.m b (o+i*z+j)=some (vs i j))
   (hr:∀i j,i<len→j<z→Rep g (vs i j) (PV.nth (PV.row es i) j)):Rep g (.slice (some a) len cap) (.sl z es)
 |ownE (a:Option Addr) (id off:Nat):Rep g (.slice a 0 0) (.own id off 0)
 | own (id off len cap b o n z:Nat) (a:Addr) (hb:g.β id=some (b,o,n,z)) (ha:a=⟨b,o+off*z,none⟩) (hc:len≤cap) (hn:o+off*z+cap*z≤n):
   Rep g (.slice (some a) len cap) (.own id off len)
 |mp (id b o n z:Nat) (hb:g.β id=some (b,o,n,z)):Rep g (.map (some b)) (.mp id)
 | rmp {clock:Nat} (b:Nat) (ents:Array MapEntry) (es:List (PV×PV)) (hm:g.m.mm b=some (.map ents clock)) (hl:ents.size=es.length) (hk:∀(i:Nat) (e:MapEntry) (p:PV×PV),ents[i]?=some e→es[i]?=some p→Rep g e.key p.1)
   (hv:∀(i:Nat) (e:MapEntry) (p:PV×PV),ents[i]?=some e→es[i]?=some p→Rep g e.val p.2) (hs:Zmw es→MapKept.Stamped ents clock):Rep g (.map (some b)) (.rmp es)
 |nilmp:Rep g (.map none) .nilmp
 | fn (f:Fn) (fs cs:Array Value) (pf pc:List PV) (h1:fs.size=pf.length) (h2:cs.size=pc.length) (hf:∀j,j<pf.length→Rep g (fs.getD j Go.undef) (PV.nth pf j))
   (hc:∀j,j<pc.length→Rep g (cs.getD j Go.undef) (PV.nth pc j)):Rep g (.func f fs cs) (.fn f pf pc)
 |fnb (f:Fn) (b:Nat) (v:Value) (p:PV) (hm:g.m b 0=some v) (h:Rep g v p):Rep g (.func f #[] #[.pointer (some ⟨b,0,none⟩)]) (.fnb f p)
 |nilfn:Rep g .nilFunc .nilfn
 |agg (vs:Array Value) (cs:List PV) (h:vs.size=cs.length) (h1:∀j,j<cs.length→(vs.getD j Go.undef).oneCell'=true) (hr:∀j,j<cs.length→Rep g (vs.getD j Go.undef) (PV.nth cs j)):Rep g (.agg vs) (.agg cs)
 |tup (vs:Array Value) (cs:List PV) (h:vs.size=cs.length) (hr:∀j,j<cs.length→Rep g (vs.getD j Go.undef) (PV.nth cs j)):Rep g (.tuple vs) (.tup cs)
 |ifc (t:TypeId) (v:Value) (p:PV) (h:Rep g v p):Rep g (.iface t v) (.ifc t p)
 |nilif:Rep g .nilIface .nilif
theorem Rep.mono{g g':Gh}(hg:g.le g'){v:Value}{p:PV}(h:Rep g v p):Rep g' v p:=by
 induction h with
 |any v=>exact .any v
 |undef=>exact .undef
 |bool b=>exact .bool b
 |int k n=>exact .int k n
 |str s l h=>exact .str s l h
 |nilp=>exact .nilp
 |loc id i off b o n z a hb ha=>exact .loc id i off b o n z a (hg.2.1 _ _ hb) ha
 |ro b o a cs vs ha hm hr ih=>exact .ro b o a cs vs ha (fun j hj=>hg.1 _ _ _ (hm j hj)) ih
 |nilsl=>exact .nilsl
 |slE a cap z=>exact .slE a cap z
 |sl b o len cap z a es vs ha hl hc hz hm hr ih=>exact .sl b o len cap z a es vs ha hl hc hz (fun i j hi hj=>hg.1 _ _ _ (hm i j hi hj)) ih
 |ownE a id off=>exact .ownE a id off
 |own id off len cap b o n z a hb ha hc hn=>exact .own id off len cap b o n z a (hg.2.1 _ _ hb) ha hc hn
 |mp id b o n z hb=>exact .mp id b o n z (hg.2.1 _ _ hb)
 |rmp b ents es hm hl hk hv hs ihk ihv=>exact .rmp b ents es (hg.2.2 _ _ hm) hl ihk ihv hs
 |nilmp=>exact .nilmp
 |fn f fs cs pf pc h1 h2 hf hc ihf ihc=>exact .fn f fs cs pf pc h1 h2 ihf ihc
 |fnb f b v p hm h ih=>exact .fnb f b v p (hg.1 _ _ _ hm) ih
 |nilfn=>exact .nilfn
 |agg vs cs h h1 hr ih=>exact .agg vs cs h h1 ih
 |tup vs cs h hr ih=>exact .tup vs cs h ih
 |ifc t v p h ih=>exact .ifc t v p ih
 |nilif=>exact .nilif
def Closed(p:PV):Prop:=∀g v,Rep g v p→Rep ⟨g.m,fun _=>none⟩ v p
def Scalar(p:PV):Prop:=∀g v,Rep g v p→∀g',Rep g' v p
abbrev Env:=List (Nat×PV)
def Env.get:Env→Nat→PV
 | [],_=>.any
 |(k,v)::r,t=>if k=t then v else Env.get r t
def Env.put(e:Env)(d:Option Nat)(v:PV):Env:=match d with|some d=>(d,v)::e|none=>e
def Zas(g:Gh)(a:Act)(e:Env):Prop:=∀t,Rep g (a.tmps.getD t Go.undef) (e.get t)
def Env.le:Env→Env→Prop
 | [],_=>True
 |(k,v)::r,e'=>e'.get k=v∧Env.le r e'
def Env.keep(l:List Nat)(e:Env):Env:=
 match l with
 | []=>[]
 |t::r=>(t,e.get t)::Env.keep r e
inductive AB where
 |arr (fz:Bool) (z:Nat) (es:List (List PV))
 |map (es:List (PV×PV))
 |miter (es:List (PV×PV)) (seen:List Nat)
 |bld (T:TypeId) (k:Nat) (bf:Option Nat)
 |buf (e:TypeId) (s:List UInt8)
 |loopR (l:Nat) (st:LoopState) (pe:Option Code) (ps:Array Tmp) (asg body:Code) (D n:Nat) (e:List (Nat×PV))
 |dfr (D:Nat) (op:Bool)
 deriving Inhabited
def HL:=List (Nat×AB)
def HL.get:List (Nat×AB)→Nat→Option AB
 | [],_=>none
 |(k,v)::r,t=>if k=t then some v else HL.get r t
def HL.del:List (Nat×AB)→Nat→List (Nat×AB)
 | [],_=>[]
 |(k,v)::r,t=>if k=t then HL.del r t else(k,v)::HL.del r t
def HL.set:List (Nat×AB)→Nat→AB→List (Nat×AB)
 | [],_,_=>[]
 |(k,v)::r,t,x=>if k=t then(k,x)::HL.del r t else(k,v)::HL.set r t x
def HL.le:List (Nat×AB)→(Nat→Option AB)→Prop
 | [],_=>True
 |(k,v)::r,f=>f k=some v∧HL.le r f
structure Heap where
 l:List (Nat×AB)
 top:Nat
 deriving Inhabited
def Heap.nil:Heap:=⟨[],0⟩
def Heap.get(h:Heap)(t:Nat):Option AB:=HL.get h.l t
def Heap.del(h:Heap)(t:Nat):Heap:=⟨HL.del h.l t,h.top⟩
def Heap.set(h:Heap)(t:Nat)(x:AB):Heap:=⟨HL.set h.l t x,h.top⟩
def Heap.push(h:Heap)(x:AB):Heap:=⟨(h.top,x)::h.l,h.top+1⟩
def Heap.le(h h':Heap):Prop:=h'.top≤h.top∧HL.le h.l (Heap.get h')
def AB.live:AB→Bool
 | .arr fz _ _=>!fz
 |_=>true
def AB.ok(g:Gh)(w:World)(b o n z:Nat):AB→Prop
 | .arr fz z' es=>z'=z∧(∀i,i<es.length→(PV.row es i).length=z)∧o+es.length*z≤n∧
   ∃c e,w.heap[b]?=some (.cells c e (0,0))∧c.size=n∧∀i j,i<es.length→j<z→(c.getD (o+i*z+j) Go.undef).oneCell'=true∧Rep g (c.getD (o+i*z+j) Go.undef) (PV.nth (PV.row es i) j)∧
    (fz=true→g.m b (o+i*z+j)=some (c.getD (o+i*z+j) Go.undef))
 | .map es=> ∃ents clock,w.heap[b]?=some (.map ents clock)∧ents.size=es.length∧
   (∀(i:Nat) (e:MapEntry) (p:PV×PV),ents[i]?=some e→es[i]?=some p→Rep g e.key p.1∧Rep g e.val p.2)∧(Zmw es→MapKept.Stamped ents clock)
 | .miter es seen=>o=0∧ ∃m ents clock stamps,w.heap[b]?=some (.mapIter (some m) clock stamps clock)∧g.m.mm m=some (.map ents clock)∧ents.size=es.length∧
   (∀(i:Nat) (e:MapEntry) (p:PV×PV),ents[i]?=some e→es[i]?=some p→Rep g e.key p.1∧Rep g e.val p.2)∧MapKept.Stamped ents clock∧
   stamps.toList=seen.map (fun i=>(ents.getD i default).born)∧∀i∈seen,i<es.length
 | .bld T k bf=>o=0∧ ∃p v,w.heap[b]?=some (.cells #[p,v] T (0,0))∧(p= .pointer none∨p= .pointer (some ⟨b,0,none⟩))∧
   (match bf with
   |none=>v=.slice none 0 0∧k=0
   |some id2=>∃gb cap,g.β id2=some (gb,0,cap,1)∧v=.slice (some ⟨gb,0,none⟩) k cap∧k≤cap∧cap≤maxLen)
 | .buf e s=>o=0∧n≤maxLen∧s.length≤n∧∃cur,w.heap[b]?=some (.cells cur e (0,0))∧cur.size=n∧cur.toList.take s.length=s.map fun c=>Value.int .u8 c.toNat
 | .loopR l st pe ps asg body D n' e=>o=0∧b=l∧∃fn tmps,w.heap[b]?=some (.loop { state:=st,pending:=pe,fn,tmps,params:=ps,assign:=asg,body,defers:=D })∧tmps.size=n'∧∀t,Rep g (tmps.getD t Go.undef) (Env.get e t)
 | .dfr D op=>o=0∧b=D∧w.heap[b]?=some (.deferred (if op=true then some []else none))
structure Rel (g:Gh) (w:World) (h:Heap):Prop where
 mem:∀b o v,g.m b o=some v→w.cell? ⟨b,o,none⟩=some v∧v.oneCell'=true
 mmem:∀b e,g.m.mm b=some e→e.At w.heap[b]?
 fin:∀id,h.top≤id→g.β id=none∧h.get id=none
 blk:∀id ab,h.get id=some ab→(g.β id=none∧ ∃fz z,ab= .arr fz z [])∨
  ∃b o n z,g.β id=some (b,o,n,z)∧b<w.heap.size∧(ab.live=true→g.free b)∧ab.ok g w b o n z
 apart:∀id id' x x' ab ab',id≠id'→h.get id=some ab→h.get id'=some ab'→(ab.live||ab'.live)=true→g.β id=some x→g.β id'=some x'→x.1≠x'.1
def Ze3(g:Gh)(h:Heap)(b:Nat):Prop:=∃id ab x,h.get id=some ab∧ab.live=true∧g.β id=some x∧x.1=b
structure Evo (g:Gh) (w:World) (h:Heap) (g':Gh) (w':World) (h':Heap):Prop where
 le:g.le g'
 os:w'.os=w.os
 tape:w'.tape=w.tape
 output:w'.output=w.output
 size:w.heap.size≤w'.heap.size
 block:∀b,b<w.heap.size→ ¬Ze3 g h b→w'.heap[b]?=w.heap[b]?
 mem:∀b o v,g'.m b o=some v→g.m b o=some v∨w.heap.size≤b∨Ze3 g h b
 mmem:∀b e,g'.m.mm b=some e→g.m.mm b=some e∨w.heap.size≤b∨Ze3 g h b
 own:∀b,Ze3 g' h' b→Ze3 g h b∨w.heap.size≤b
theorem Evo.refl(g:Gh)(w:World)(h:Heap):Evo g w h g w h:=
 ⟨g.le_refl,rfl,rfl,rfl,Nat.le_refl _,fun _ _ _=>rfl,fun _ _ _ e=>.inl e,fun _ _ e=>.inl e,fun _ e=>.inl e⟩
theorem Evo.trans{g g' g'':Gh}{w w' w'':World}{h h' h'':Heap}(a:Evo g w h g' w' h')(b:Evo g' w' h' g'' w'' h''):Evo g w h g'' w'' h'':=by
 refine⟨Gh.le_trans a.le b.le,b.os.trans a.os,b.tape.trans a.tape,b.output.trans a.output,Nat.le_trans a.size b.size,?_,?_,?_,?_⟩
 ·intro k hk hno;rw[b.block k (Nat.lt_of_lt_of_le hk a.size) (fun ho=>?_),a.block k hk hno];rcases a.own k ho with h1|h1
  ·exact hno h1
  ·omega
 ·intro k o v e;rcases b.mem k o v e with h1|h1|h1
  ·exact a.mem k o v h1
  ·exact .inr (.inl (Nat.le_trans a.size h1))
  ·rcases a.own k h1 with h2|h2
   ·exact .inr (.inr h2)
   ·exact .inr (.inl h2)
 ·intro k e he;rcases b.mmem k e he with h1|h1|h1
  ·exact a.mmem k e h1
  ·exact .inr (.inl (Nat.le_trans a.size h1))
  ·rcases a.own k h1 with h2|h2
   ·exact .inr (.inr h2)
   ·exact .inr (.inl h2)
 ·intro k ho;rcases b.own k ho with h1|h1
  ·exact a.own k h1
  ·exact .inr (Nat.le_trans a.size h1)
theorem Env.get_put(e:Env)(d:Nat)(v:PV)(t:Nat):(e.put (some d) v).get t=if d=t then v else e.get t:=rfl
theorem Zas.mono{g g':Gh}(hg:g.le g'){a:Act}{e:Env}(h:Zas g a e):Zas g' a e:=fun t=>(h t).mono hg
theorem Zas.put{g:Gh}{a:Act}{e:Env}(h:Zas g a e){d:Option Nat}{v:Value}{p:PV}(hv:Rep g v p)(hd:∀t,d=some t→t<a.tmps.size):
  Zas g (a.put d v) (e.put d p):=by
 intro t;cases d with
 |none=>exact h t
 | some d=>
  have hlt:=hd d rfl;by_cases e1:d=t
  ·subst e1;simp only[Env.put,Env.get,if_true,Act.put]
   simpa[Zx6,hlt]using hv
  ·have:=h t;simp only[Env.put,Env.get,if_neg e1,Act.put]
   simpa[Zx6,Array.getElem?_setIfInBounds_ne e1]using this
theorem Zas.le{g:Gh}{a:Act}:∀{e e':Env},e.le e'→Zas g a e'→Zas g a e
 | [],_,_,_=>fun _=>.any _
 |(k,v)::r,e',h,he=>by
  intro t;by_cases e1:k=t
  ·subst e1;simp only[Env.get,if_true];rw[←h.1];exact he k
  ·simp only[Env.get,if_neg e1];exact Zas.le h.2 he t
theorem Env.keep_get(l:List Nat)(e:Env)(t:Nat):(Env.keep l e).get t=e.get t∨(Env.keep l e).get t=.any:=by
 induction l with
 |nil=>exact .inr rfl
 |cons k l ih=>
  by_cases e1:k=t
  ·subst e1;left;simp[Env.keep,Env.get]
  ·simpa[Env.keep,Env.get,if_neg e1]using ih
theorem Zas.keep{g:Gh}{a:Act}{e:Env}(l:List Nat)(h:Zas g a e):Zas g a (Env.keep l e):=by
 intro t;rcases Env.keep_get l e t with h1|h1<;>rw[h1]
 ·exact h t
 ·exact .any _
theorem HL.get_del(h:List (Nat×AB))(k t:Nat):HL.get (HL.del h k) t=if k=t then none else HL.get h t:=by
 induction h with
 |nil=>simp[HL.del,HL.get]
 | cons x r ih=>
  obtain⟨i,v⟩:=x;by_cases e1:i=k
  ·subst e1;simp only[HL.del,if_true,HL.get,ih];split<;>rfl
  ·simp only[HL.del,if_neg e1,HL.get,ih];by_cases e2:i=t
   ·subst e2;simp[Ne.symm e1]
   ·simp[e2]
theorem Heap.get_del(h:Heap)(k t:Nat):(h.del k).get t=if k=t then none else h.get t:=HL.get_del h.l k t
theorem Heap.get_set(h:Heap)(k t:Nat)(x:AB):(h.set k x).get t=if k=t then(if(h.get k).isSome then some x else none)else h.get t:=by
 obtain⟨h,n⟩:=h;simp only[Heap.get,Heap.set]
 induction h with
 |nil=>simp[HL.set,HL.get]
 | cons y r ih=>
  obtain⟨i,v⟩:=y;by_cases e1:i=k
  ·subst e1;simp only[HL.set,if_true,HL.get,HL.get_del,Option.isSome_some];split<;>rfl
  ·simp only[HL.set,if_neg e1,HL.get,ih];by_cases e2:i=t
   ·subst e2;simp[Ne.symm e1]
   ·simp only[if_neg e2];rfl
theorem Heap.get_push(h:Heap)(x:AB)(t:Nat):(h.push x).get t=if h.top=t then some x else h.get t:=rfl
theorem HL.le_get:∀{h:List (Nat×AB)} {f:Nat→Option AB},HL.le h f→∀id ab,HL.get h id=some ab→f id=some ab
 | [],_,_,_,_,e=>by simp[HL.get]at e
 |(k,v)::r,f,hl,id,ab,e=>by
  by_cases e1:k=id
  ·subst e1;simp only[HL.get,if_true,Zx0]at e;subst e;exact hl.1
  ·simp only[HL.get,if_neg e1]at e;exact HL.le_get hl.2 id ab e
theorem Heap.le_get{h h':Heap}(hl:h.le h')(id:Nat)(ab:AB)(e:h.get id=some ab):h'.get id=some ab:=HL.le_get hl.2 id ab e
theorem Rel.weaken{g:Gh}{w:World}{h h':Heap}(hl:h.le h')(r:Rel g w h'):Rel g w h:=
 ⟨r.mem,r.mmem,fun id hid=>⟨(r.fin id (Nat.le_trans hl.1 hid)).1,by
  cases e:h.get id with
  |none=>rfl
  |some ab=>
   have h1:=Heap.le_get hl id ab e;rw[(r.fin id (Nat.le_trans hl.1 hid)).2]at h1;cases h1⟩,fun id ab e=>r.blk id ab (Heap.le_get hl id ab e),fun id id' x x' ab ab' hne e e'=>r.apart id id' x x' ab ab' hne (Heap.le_get hl _ _ e) (Heap.le_get hl _ _ e')⟩
theorem Ze3.weaken{g:Gh}{h h':Heap}(hl:h.le h'){b:Nat}(o:Ze3 g h b):Ze3 g h' b:=by
 obtain⟨id,ab,x,e,hv,hb,hx⟩:=o;exact⟨id,ab,x,Heap.le_get hl _ _ e,hv,hb,hx⟩
theorem Evo.weakenR{g:Gh}{w:World}{h:Heap}{g':Gh}{w':World}{h' h'':Heap}(a:Evo g w h g' w' h')(hl:h''.le h'):Evo g w h g' w' h'':=
 ⟨a.le,a.os,a.tape,a.output,a.size,a.block,a.mem,a.mmem,fun b ho=>a.own b (ho.weaken hl)⟩
theorem Evo.weakenL{g:Gh}{w:World}{h h0:Heap}{g':Gh}{w':World}{h':Heap}(a:Evo g w h g' w' h')(hl:h.le h0):Evo g w h0 g' w' h':=
  ⟨a.le,a.os,a.tape,a.output,a.size,fun b hb hno=>a.block b hb (fun ho=>hno (ho.weaken hl)),
   fun b o v e=>(a.mem b o v e).imp id (Or.imp id (Ze3.weaken hl)),fun b o e=>(a.mmem b o e).imp id (Or.imp id (Ze3.weaken hl)),fun b ho=>(a.own b ho).imp (Ze3.weaken hl) id⟩
theorem Rel.drew{g:Gh}{w:World}{h:Heap}(r:Rel g w h)(k:Nat):Rel g { w with drawn:=k } h:=
 ⟨r.mem,r.mmem,r.fin,fun id ab e=>(r.blk id ab e).imp (fun h=>h) (fun⟨b,o,n,z,h1,h2,h3,h4⟩=>⟨b,o,n,z,h1,h2,h3,by cases ab<;>simpa[AB.ok]using h4⟩),r.apart⟩
theorem Evo.drew(g:Gh)(w:World)(h:Heap)(k:Nat):Evo g w h g { w with drawn:=k } h:=
 ⟨g.le_refl,rfl,rfl,rfl,Nat.le_refl _,fun _ _ _=>rfl,fun _ _ _ e=>.inl e,fun _ _ e=>.inl e,fun _ e=>.inl e⟩
inductive VA where
 |t (n:Nat)
 |c (p:PV)
 deriving Inhabited
def VA.ev(e:Env):VA→PV
 | .t n=>e.get n
 | .c p=>p
def cst:Value→Option PV
 | .bool b=>some (.bool b)
 | .int k n=>some (.int k n)
 | .string s=>some (.str s.data.toList)
 | .slice none 0 0=>some .nilsl
 | .pointer none=>some .nilp
 | .map none=>some .nilmp
 | .nilFunc=>some .nilfn
 | .nilIface=>some .nilif
 | .func (.func f) ⟨[]⟩ ⟨[]⟩=>some (.fn (.func f) [] [])
 |_=>none
def Zws:List Value→Option (List PV)
 | []=>some []
 |v::r=>match cst v,Zws r with
  |some p,some q=>some (p::q)
  |_,_=>none
def cA:Operand→Option VA
 | .tmp t=>some (.t t)
 | .const v=>(cst v).map .c
 | .func f=>some (.c (.fn (.func f) [] []))
 | .global b=>((known.lookup b).bind Zws).map fun cs=>.c (.ro cs)
def cAs:List Operand→Option (List VA)
 | []=>some []
 |v::r=>match cA v,cAs r with
  |some p,some q=>some (p::q)
  |_,_=>none
def cAo:Option Operand→Option (Option VA)
 |none=>some none
 |some x=>(cA x).map some
inductive EK where
 |b|i|s
 deriving DecidableEq,Inhabited
inductive KK where
 |one (k:EK)
 |st (ks:List EK)
 deriving DecidableEq,Inhabited
inductive PX where
 |nck
 |unx
 |isnil (neg:Bool)
 |b2s
 |ifn (neg:Bool)
 |aix (n:Nat)
 |ixv (n:Nat)
 deriving DecidableEq,Inhabited
inductive FX where
 |slice0 (z:Nat)
 |mk0 (z:Nat)
 |clear (z:Nat) (zr:List PV)
 deriving Inhabited
inductive VOp where
 |mv (a:VA)
 |pick (c a b:VA)
 |alloc (zero:List PV)
 |box (n:Nat) (a:VA)
 |build (zero:List PV) (parts:List (Nat×Nat×VA))
 |bslice (z n:Nat) (zero:List PV) (parts:List (Nat×VA))
 |load (agg:Bool) (sz:Nat) (a:VA)
 |store (sz:Nat) (a v:VA)
 |bin (op:BinOp) (a b:VA)
 |binb (op:BinOp) (a b:VA)
 |strid (a:VA)
 |eqs (neg:Bool) (ks:List EK) (a b:VA)
 |isnil (neg:Bool) (a:VA)
 |un (op:UnOp) (a:VA)
 |conv (k:IntKind) (a:VA)
 |b2s (a:VA)
 |s2b (a:VA)
 |mkfn (f:Fn) (first cap:List VA)
 |slice (st:Bool) (z:Nat) (a:VA) (lo hi:Option VA)
 |faddr (off:Nat) (a:VA)
 |fld (agg:Bool) (off sz:Nat) (a:VA)
 |iaddr (z:Nat) (a i:VA)
 |idx (a i:VA)
 |ext (a:VA) (i:Nat)
 |len (st:Bool) (a:VA)
 |app (z bytes:Nat) (zero:List PV) (str:Bool) (a b:VA)
 |mm (mx:Bool) (args:List VA)
 |mkmap
 |lookup (kk:KK) (zero:PV) (ok:Bool) (m k:VA)
 |mapset (kk:KK) (m k v:VA)
 |mlen (m:VA)
 |call (f:FuncId) (args:List VA)
 |callv (f:VA) (args:List VA)
 |px (k:PX) (l:List VA)
 |fx (k:FX) (l:List VA)
 |nd (neg:Bool) (a:VA)
 |other (o:Oper)
 deriving Inhabited
def Zc2(P:Program)(t:TypeId):Option Nat:=(P.info? t).map (·.size)
def Zeq(P:Program)(t:TypeId):Option Bool:=
 match P.underlying t with
 |some (.struct _)|some (.array _ _)=>some true
 |some _=>some false
 |none=>none
def zeroOf(P:Program)(t:TypeId):Option (List PV):=
 match P.info? t with
 |some i=>match i.zero with
  |some v=>Zws v.cells.toList
  |none=>none
 |none=>none
def Zir(P:Program)(t:TypeId)(f:Nat):Option Field:=
 match P.underlying t with
 |some (.struct fs)=>fs[f]?
 |_=>none
def Zp7(P:Program)(F:TypeId→Option (List EK)):List Field→Nat→Option (List EK)
 | [],_=>some []
 | f :: r, o => if f.name != "_" && f.offset == o then (match F f.type with
  |some ks=>(match Zp7 P F r (o+ks.length)with|some q=>some (ks++q)|none=>none)
  |none=>none)else none
def flatK(P:Program):Nat→TypeId→Option (List EK)
 |0,_=>none
 | d+1,t=>match P.underlying t with
  |some .bool=>if Zc2 P t==some 1 then some [.b]else none
  |some (.int _)=>if Zc2 P t==some 1 then some [.i]else none
  |some .string=>if Zc2 P t==some 1 then some [.s]else none
  |some (.struct fs)=>(match Zp7 P (flatK P d) fs.toList 0 with
   |some ks=>if !P.stoodInHeld t&&Zc2 P t==some ks.length then some ks else none
   |none=>none)
  |_=>none
def Z90(P:Program)(t:TypeId):Option KK:=
 match P.underlying t with
 |some .bool=>some (.one .b)
 |some (.int _)=>some (.one .i)
 |some .string=>some (.one .s)
 |some (.struct _)=>(flatK P 6 t).map .st
 |_=>none
def Z91(P:Program)(t:TypeId):Option PV:=
 match P.info? t with
 |some i=>match i.zero with
  |some (.agg cs)=>(Zws cs.toList).map .agg
  |some v=>cst v
  |none=>none
 |none=>none
def Ztr(P:Program)(f:FuncId):Bool:=
 match P.funcs[f]? with
 | some fn => fn.name != "runtime.NumGoroutine" && fn.body.isSome
 |none=>false
def Zp8(P:Program)(t:TypeId):List (Nat×Operand)→Option (List (Nat×Nat×VA))
 | []=>some []
 | (i,x)::r=>
  match(match P.underlying t with
   |some (.struct fs)=>(match fs[i]? with|some f=>(Zc2 P f.type).map fun s=>(f.offset,s)|none=>none)
   |some (.array _ e)=>(Zc2 P e).map fun s=>(i*s,s)
   |_=>none),cA x,Zp8 P t r with
  |some (o,s),some a,some q=>some ((o,s,a)::q)
  |_,_,_=>none
def Zrv(P:Program)(t:TypeId):Bool:=
 match P.underlying t with
 |some (.struct fs)=>fs.toList.all fun f=>(Zc2 P f.type).isSome
 |some (.array _ e)=>(Zc2 P e).isSome
 |_=>false
def Zjc:List (Nat×Operand)→Option (List (Nat×VA))
 | []=>some []
 |(i,x)::r=>match cA x,Zjc r with
  |some a,some q=>some ((i,a)::q)
  |_,_=>none
def Z2u(P:Program)(c:Call)(o:Oper):Option VOp:=
 match c.callee with
 | .builtin .len=>match c.args.toList,c.argTypes.toList with
  | [x],[t]=>match cA x,P.underlying t with
   |some a,some .string=>some (.len true a)
   |some a,some (.slice _)=>some (.len false a)
   |some a,some (.map _ _)=>some (.mlen a)
   |_,_=>none
  |_,_=>none
 | .builtin .append=>match c.args.toList,c.argTypes.toList with
  | [x,y],[t,u]=>match cA x,cA y,P.underlying t,P.underlying u with
   |some a,some b,some (.slice e),some (.slice e')=>match Zc2 P e,zeroOf P e with
    |some z,some zr=>if e==e'&&zr.length==z then(P.info? e).map fun i=>.app z i.bytes zr false a b else none
    |_,_=>none
   |some a,some b,some (.slice e),some .string=>match Zc2 P e,zeroOf P e with
    |some z,some zr=>if z==1&&zr.length==z then(P.info? e).map fun i=>.app z i.bytes zr true a b else none
    |_,_=>none
   |_,_,_,_=>none
  |_,_=>none
 | .builtin .max=>(cAs c.args.toList).map (.mm true)
 | .builtin .min=>(cAs c.args.toList).map (.mm false)
 | .value (.func f)=>if Ztr P f then(cAs c.args.toList).map (.call f)else none
 | .value (.const (.func (.func f) ⟨[]⟩ ⟨[]⟩))=>if Ztr P f then(cAs c.args.toList).map (.call f)else none
 | .value x=>match cA x,cAs c.args.toList with
  |some a,some l=>some (.callv a l)
  |_,_=>none
 |_=>some (.other o)
def Zky:Operand→Bool
 | .const (.int .i64 0)=>true
 |_=>false
def nilT(P:Program)(t:TypeId):Bool:=
 match P.underlying t with
 |some (.slice _)=>true
 |_=>false
def nilC:Operand→Bool
 | .const (.slice none 0 0)=>true
 |_=>false
def Zp9(P:Program)(c:Call):Option VOp:=
 match c.callee with
 | .builtin .clear=>match c.args.toList,c.argTypes.toList with
  | [x],[t]=>match P.underlying t,cA x with
   |some (.slice e),some a=>match Zc2 P e,zeroOf P e with
    |some z,some zr=>if zr.length==z then some (.fx (.clear z zr) [a])else none
    |_,_=>none
   |_,_=>none
  |_,_=>none
 |_=>none
def cX(P:Program)(o:Oper):Option VOp:=
 match o.op with
 | .nilCheck x=>(cA x).map fun a=>.px .nck [a]
 | .indexAddr t x ix=>if arrOn then(match P.underlying t,cA x,cA ix with
  |some (.array n e),some a,some b=>if Zc2 P e=some 1 then some (.px (.aix n) [a,b])else none
  |_,_,_=>none)else none
 | .index t x ix=>(match P.underlying t,cA x,cA ix with
  |some (.array n e),some a,some b=>if Zc2 P e=some 1∧Zeq P e=some false then some (.px (.ixv n) [a,b])else none
  |_,_,_=>none)
 | .unOp .xor _ x=>(cA x).map fun a=>.px .unx [a]
 | .slice t x none (some hi) (some mx)=>if Zky hi&&Zky mx then(match P.underlying t,cA x with
  |some (.slice e),some a=>(Zc2 P e).map fun z=>.fx (.slice0 z) [a]
  |_,_=>none)else none
 | .slice t x (some lo) (some hi) (some mx)=>if Zky lo&&Zky hi&&Zky mx then(match P.underlying t,cA x with
  |some (.slice e),some a=>(Zc2 P e).map fun z=>.fx (.slice0 z) [a]
  |_,_=>none)else none
 | .binOp .eql t x y _=>if nilC y&&nilT P t then(cA x).map fun a=>.nd false a else none
 | .binOp .neq t x y _=>if nilC y&&nilT P t then(cA x).map fun a=>.nd true a else none
 | .buildSlice t n parts=>if n==0&&parts.isEmpty then(match P.underlying t with
  |some (.slice e)=>match Zc2 P e,zeroOf P e with
   |some z,some zr=>if zr.length==z&&z !=0 then some (.fx (.mk0 z) [])else none
   |_,_=>none
  |_=>none)else none
 | .call c=>Zp9 P c
 | .insert t m k v=>match P.underlying t,cA m,cA k,cA v with
  |some (.map kt _),some a,some b,some c=>(Z90 P kt).map fun kk=>.mapset kk a b c
  |_,_,_,_=>none
 | .convert s d x=>match P.underlying s,P.underlying d,cA x with
  |some (.slice e),some .string,some a=>(match P.underlying e with
   |some (.int .u8)=>some (.px .b2s [a])
   |_=>none)
  |_,_,_=>none
 |_=>none
def Z01(P:Program)(o:Oper):Option VOp:=
 match o.op with
 | .move x|.assign x=>(cA x).map .mv
 | .pick c a b=>match cA c,cA a,cA b with
  |some c,some a,some b=>some (.pick c a b)
  |_,_,_=>none
 | .alloc t=>(zeroOf P t).map .alloc
 | .box t x=>match cA x,Zc2 P t with
  |some a,some n=>some (.box n a)
  |_,_=>none
 | .build t parts=>match zeroOf P t,Zp8 P t parts.toList with
  |some zr,some ps=>if Zrv P t then some (.build zr ps)else none
  |_,_=>none
 | .buildSlice t n parts=>match P.underlying t with
  |some (.slice e)=>match Zc2 P e,zeroOf P e,Zjc parts.toList with
   |some z,some zr,some ps=>if n*z≤2 ^ 20&&zr.length==z&&z !=0 then some (.bslice z n zr ps)else none
   |_,_,_=>none
  |_=>none
 | .load t a=>match cA a,Zeq P t,Zc2 P t with
  |some a,some g,some s=>some (.load g s a)
  |_,_,_=>none
 | .store t a v=>match cA a,cA v,Zc2 P t with
  |some a,some v,some s=>some (.store s a v)
  |_,_,_=>none
 | .binOp op t x y _=>match cA x,cA y,P.underlying t with
  |some a,some b,some .bool=>some (.binb op a b)
  |some a,some b,some (.int _)=>some (.bin op a b)
  |some a,some b,some .string=>some (.bin op a b)
  |some a,some b,some (.struct _)=>match op with
   | .eql=>(match flatK P 6 t with|some ks=>if !P.eqGuardType P.depth t then some (.eqs false ks a b)else none|none=>none)
   | .neq=>(match flatK P 6 t with|some ks=>if !P.eqGuardType P.depth t then some (.eqs true ks a b)else none|none=>none)
   |_=>none
  |_,_,_=>some (.other o)
 | .unOp op _ x=>(cA x).map (.un op)
 | .convert s d x=>match cA x,P.underlying s,P.underlying d with
  |some a,some (.int _),some (.int k)=>some (.conv k a)
  |some a,some .string,some .string=>some (.strid a)
  |_,_,_=>some (.other o)
 | .makeFunc f first cap=>match f,cAs first.toList,cAs cap.toList with
  | .func _,some a,some b=>some (.mkfn f a b)
  |_,_,_=>none
 | .slice t x lo hi none=>match P.underlying t,cA x,cAo lo,cAo hi with
  |some .string,some a,some l,some h=>some (.slice true 0 a l h)
  |some (.slice e),some a,some l,some h=>(Zc2 P e).map fun z=>.slice false z a l h
  |_,_,_,_=>none
 | .fieldAddr t x f=>match Zir P t f,cA x with
  |some fd,some a=>match Zc2 P fd.type with
   |some s=>if s==0 then none else some (.faddr fd.offset a)
   |none=>none
  |_,_=>none
 | .field t x f=>match Zir P t f,cA x with
  |some fd,some a=>match Zc2 P fd.type,Zeq P fd.type with
   |some s,some g=>some (.fld g fd.offset s a)
   |_,_=>none
  |_,_=>none
 | .indexAddr t x i=>match P.underlying t,cA x,cA i with
  |some (.slice e),some a,some i=>(Zc2 P e).map fun z=>.iaddr z a i
  |_,_,_=>none
 | .index t x i=>match P.underlying t,cA x,cA i with
  |some .string,some a,some i=>some (.idx a i)
  |_,_,_=>none
 | .extract x i=>(cA x).map fun a=>.ext a i
 | .makeMap _ none=>some .mkmap
 | .lookup t m k ok=>match P.underlying t,cA m,cA k with
  |some (.map kt et),some a,some b=>match Z90 P kt,Z91 P et with
   |some kk,some zr=>some (.lookup kk zr ok a b)
   |_,_=>some (.other o)
  |_,_,_=>some (.other o)
 | .mapUpdate t m k v=>match P.underlying t,cA m,cA k,cA v with
  |some (.map kt _),some a,some b,some c=>match Z90 P kt with
   |some kk=>some (.mapset kk a b c)
   |none=>some (.other o)
  |_,_,_,_=>some (.other o)
 | .call c=>Z2u P c o
 |_=>some (.other o)
def rawT(P:Program)(t:TypeId):Bool:=
 match P.underlying t with
 |some (.struct fs)=>match fs.toList with
  | [f, _] => f.name == "addr"
  |_=>false
 |_=>false
def rawO(P:Program)(o:Oper):Bool:=
 match o.op with
 | .alloc t=>rawT P t
 |_=>false
def cIfc(P:Program)(o:Oper):Option (Bool×VA):=
 match o.op with
 | .binOp .eql t x (.const .nilIface) _=>(match P.underlying t with
  |some (.interface _)=>(cA x).map fun a=>(false,a)
  |_=>none)
 | .binOp .neq t x (.const .nilIface) _=>(match P.underlying t with
  |some (.interface _)=>(cA x).map fun a=>(true,a)
  |_=>none)
 |_=>none
def cOp(P:Program)(o:Oper):Option VOp:=
 if rawO P o then some (.other o)else match cIfc P o with
 |some ba=>some (.px (.ifn ba.1) [ba.2])
 | none=>match cX P o with
  |some v=>some v
  |none=>match Z01 P o with
   |some v=>some v
   |none=>some (.other o)
def PV.cells:PV→List PV
 | .agg cs=>cs
 |v=>[v]
def PV.fits(n:Nat):PV→Bool
 | .agg cs=>cs.length==n
 | .any|.undef|.tup _=>false
 |_=>n==1
def overlay(cs:List PV)(off:Nat)(new:List PV):List PV:=cs.take off++new++cs.drop (off+new.length)
def gd(c:Bool)(p:PV):PV:=if c then p else .undef
def Zpl:PV→PV→PV→PV
 | .bool c,a,b=>if c then a else b
 |_,_,_=>.any
def isBool:PV→Prop
 | .bool _=>True
 |_=>False
def Z2v(agg:Bool)(cs:List PV):PV:=if agg then .agg cs else PV.nth cs 0
def Zmn(op:BinOp)(k:IntKind)(a b:Int):PV:=
 match op with
 | .add=>.int k (k.wrap (a+b))
 | .sub=>.int k (k.wrap (a-b))
 | .mul=>.int k (k.wrap (a*b))
 | .quo=>.int k (k.wrap (a.tdiv b))
 | .rem=>.int k (a.tmod b)
 | .and=>.int k (k.wrap (BitVec.ofInt k.bits a &&& BitVec.ofInt k.bits b).toNat)
 | .or=>.int k (k.wrap (BitVec.ofInt k.bits a|||BitVec.ofInt k.bits b).toNat)
 | .xor=>.int k (k.wrap (BitVec.ofInt k.bits a ^^^ BitVec.ofInt k.bits b).toNat)
 | .andNot=>.int k (k.wrap (BitVec.ofInt k.bits a &&& ~~~BitVec.ofInt k.bits b).toNat)
 | .shl=>.int k (k.wrap (a*2 ^ (min b.toNat k.bits)))
 | .shr=>.int k (a.fdiv (2 ^ (min b.toNat k.bits)))
 | .eql=>.bool (a==b)
 | .neq=>.bool (a !=b)
 | .lss=>.bool (decide (a<b))
 | .leq=>.bool (decide (a≤b))
 | .gtr=>.bool (decide (b<a))
 | .geq=>.bool (decide (b≤a))
def Z02(op:BinOp)(a b:List UInt8):PV:=
 match op with
 | .add=>.str (a++b)
 | .eql=>.bool (a==b)
 | .neq=>.bool (a !=b)
 | .lss=>.bool (Op.bytesLess a b)
 | .leq=>.bool (Op.bytesLess a b||a==b)
 | .gtr=>.bool (!(Op.bytesLess a b||a==b))
 | .geq=>.bool (!Op.bytesLess a b)
 |_=>.any
def Zrw(op:BinOp)(a b:Bool):PV:=
 match op with
 | .eql=>.bool (a==b)
 | .neq=>.bool (a !=b)
 |_=>.any
def Zwt(op:BinOp):PV→PV→PV
 | .int k a,.int _ b=>Zmn op k a b
 | .str a,.str b=>Z02 op a b
 |_,_=>.any
def Zpm(op:BinOp):PV→PV→PV
 | .bool a,.bool b=>Zrw op a b
 |_,_=>.any
def Zfk(op:BinOp):PV→PV→Prop
 | .bool _,.bool _=>(match op with
  | .eql|.neq=>True
  |_=>False)
 |_,_=>False
def isStr:PV→Prop
 | .str _=>True
 |_=>False
def Zdf(op:BinOp):PV→PV→Prop
 | .int k a,.int k' b=>(match op with
  | .shl|.shr=>0≤b
  | .quo|.rem=>k=k'∧b≠0
  |_=>k=k')
 | .str a,.str b=>(match op with
  | .add=>a.length+b.length≤9223372036854775807
  | .eql|.neq|.lss|.leq|.gtr|.geq=>True
  |_=>False)
 |_,_=>False
def Zbo:PV→PV→Bool
 | .int _ a,.int _ b=>a==b
 | .str a,.str b=>a==b
 | .bool a,.bool b=>a==b
 |_,_=>false
def Zay:List PV→List PV→Bool
 |a::r,b::q=>Zbo a b&&Zay r q
 |_,_=>true
def Zgw:EK→PV→PV→Prop
 | .i,.int k _,.int k' _=>k=k'
 | .s,.str _,.str _=>True
 | .b,.bool _,.bool _=>True
 |_,_,_=>False
def Zf7:List EK→List PV→List PV→Prop
 |k::ks,x::r,y::q=>Zgw k x y∧Zf7 ks r q
 | [],[],[]=>True
 |_,_,_=>False
def Zc3:KK→PV→PV→Prop
 | .one k,a,b=>Zgw k a b
 | .st ks,a,b=>isAggP' a∧isAggP' b∧Zf7 ks a.cells b.cells
where isAggP':PV→Prop
 | .agg _=>True
 |_=>False
def Zc4(a b:PV):Bool:=Zay a.cells b.cells
def Zbn(k:PV):List (PV×PV)→Option PV
 | []=>none
 |(x,v)::r=>if Zc4 k x then some v else Zbn k r
def Zdo(k v:PV):List (PV×PV)→List (PV×PV)
 | []=>[(k,v)]
 |(x,u)::r=>if Zc4 k x then(k,v)::r else(x,u)::Zdo k v r
def Zlz(kk:KK)(k:PV)(es:List (PV×PV)):Prop:=Zc3 kk k k∧∀p∈es,Zc3 kk k p.1
def Zbl(h:Heap):PV→List (PV×PV)
 | .mp id=>(match h.get id with
  |some (.map es)=>es
  |_=>[])
 | .rmp es=>es
 |_=>[]
def Zg2(h:Heap):PV→Prop
 | .mp id=>(match h.get id with
  |some (.map _)=>True
  |_=>False)
 | .rmp _=>True
 | .nilmp=>True
 |_=>False
def Zkz(zero:PV)(ok:Bool)(r:Option PV):PV:=
 match r with
 |some v=>if ok then .tup [v,.bool true]else v
 |none=>if ok then .tup [zero,.bool false]else zero
def unV(op:UnOp):PV→PV
 | .int k n=>(match op with
  | .neg=>.int k (k.wrap (0-n))
  |_=>.any)
 | .bool b=>(match op with
  | .not=>.bool (!b)
  |_=>.any)
 |_=>.any
def Z5f(op:UnOp):PV→Prop
 | .int _ _=>(match op with|.neg=>True|_=>False)
 | .bool _=>(match op with|.not=>True|_=>False)
 |_=>False
def Zts(k:IntKind):PV→PV
 | .int _ n=>.int k (k.wrap n)
 |_=>.any
def isInt:PV→Prop
 | .int _ _=>True
 |_=>False
def numOf:PV→Int
 | .int _ n=>n
 |_=>0
def loV(o:Option PV):Nat:=match o with|some p=>(numOf p).toNat|none=>0
def hiV(n:Nat)(o:Option PV):Nat:=match o with|some p=>(numOf p).toNat|none=>n
def Zmo:PV→Nat
 | .str s=>s.length
 | .sl _ es=>es.length
 | .own _ _ n=>n
 |_=>0
def Zds(o:Option PV):Prop:=match o with|some (.int _ n)=>0≤n|some _=>False|none=>True
def Zgq(a:PV)(lo hi:Option PV):PV:=
 match a with
 | .str s=>.str ((s.drop (loV lo)).take (hiV s.length hi-loV lo))
 | .sl z es=>.sl z ((es.drop (loV lo)).take (hiV es.length hi-loV lo))
 | .own id off n=>.own id (off+loV lo) (hiV n hi-loV lo)
 | .nilsl=>.nilsl
 |_=>.any
def Zer(st:Bool)(z:Nat)(h:Heap)(a:PV)(lo hi:Option PV):Prop:=
 Zds lo∧Zds hi∧loV lo≤hiV (Zmo a) hi∧hiV (Zmo a) hi≤Zmo a∧
 match a with
 | .str _=>st=true
 | .sl z' _=>st=false∧z'=z
 | .own id _ _=>st=false∧(match h.get id with|some (.arr _ z' _)=>z'=z|_=>False)
 | .nilsl=>st=false
 |_=>False
def Zjd(off:Nat):PV→PV
 | .loc id i o=>.loc id i (o+off)
 | .ro cs=>.ro (cs.drop off)
 |_=>.any
def Zie:PV→Prop
 | .loc _ _ _|.ro _=>True
 |_=>False
def Zba(h:Heap):PV→List PV
 | .loc id i o=>(match h.get id with
  |some (.arr _ _ es)=>(PV.row es i).drop o
  |_=>[])
 | .ro cs=>cs
 |_=>[]
def Zfl(h:Heap):PV→Prop
 | .loc id i _=>(match h.get id with
  |some (.arr _ _ es)=>i<es.length
  |_=>False)
 | .ro _=>True
 |_=>False
def Za6:PV→List PV
 | .agg cs=>cs
 |_=>[]
def Ze4:PV→Prop
 | .agg _=>True
 |_=>False
def Zif(a i:PV):PV:=
 match a with
 | .sl _ es=>.ro (PV.row es (numOf i).toNat)
 | .own id off _=>.loc id (off+(numOf i).toNat) 0
 |_=>.any
def Zf8(z:Nat)(h:Heap)(a i:PV):Prop:=
 isInt i∧0≤numOf i∧numOf i<Zmo a∧
 match a with
 | .sl z' _=>z'=z
 | .own id _ _=>(match h.get id with|some (.arr _ z' _)=>z'=z|_=>False)
 |_=>False
def Z92(a i:PV):PV:=
 match a with
 | .str s=>.int .u8 ((s.getD (numOf i).toNat 0).toNat:Int)
 |_=>.any
def Ztt(a i:PV):Prop:=
 isInt i∧0≤numOf i∧numOf i<Zmo a∧match a with|.str _=>True|_=>False
def Zis(st:Bool):PV→Prop
 | .str _=>st=true
 | .sl _ _|.own _ _ _|.nilsl=>st=false
 |_=>False
def Xci(i:Nat):PV→PV
 | .tup l=>PV.nth l i
 |_=>.any
def Zrx(i:Nat):PV→Prop
 | .tup l=>i<l.length
 |_=>False
def Zgx(e:Env):List PV→List (Nat×Nat×VA)→List PV
 |cs,[]=>cs
 |cs,(o,_,a)::r=>Zgx e (overlay cs o (a.ev e).cells) r
def Ze5(e:Env)(n:Nat):List (Nat×Nat×VA)→Prop
 | []=>True
 |(o,s,a)::r=>(a.ev e).fits s=true∧o+s≤n∧Ze5 e n r
def mmV(mx:Bool):PV→PV→PV
 | .int k a,.int _ b=>.int k (if mx then(if b>a then b else a)else(if b<a then b else a))
 |_,_=>.any
def notNil:PV→Bool
 | .loc _ _ _|.ro _|.mp _=>true
 | .fn (.func _) _ _=>true
 | .sl _ (_::_)=>true
 | .own _ _ (_+1)=>true
 |_=>false
def isNil:PV→Bool
 | .nilsl|.nilp|.nilmp|.nilfn=>true
 |_=>false
def Zne:PV→Bool
 | .loc _ _ _|.ro _=>true
 | .fn (.func _) _ _=>true
 |_=>false
def Zmx(h:Heap):PV→List (List PV)
 | .sl _ es=>es
 | .own id off len=>(match h.get id with
  |some (.arr _ _ es)=>(es.drop off).take len
  |_=>[])
 |_=>[]
def byteOf:List PV→UInt8
 | [.int _ n]=>UInt8.ofNat n.toNat
 |_=>0
def isByte:List PV→Prop
 | [.int .u8 _]=>True
 |_=>False
def Zwu(h:Heap):PV→Prop
 | .nilsl=>True
 | .sl z es=>z=1∧∀r∈es,isByte r
 | .own id off len=>(match h.get id with
  |some (.arr _ z es)=>z=1∧off+len≤es.length∧∀r∈(es.drop off).take len,isByte r
  |_=>False)
 |_=>False
def Xcj:PV→Bool
 | .nilif=>true
 |_=>false
def Xc7:PV→Bool
 | .nilif=>true
 | .ifc _ _=>true
 |_=>false
def pxV(h:Heap):PX→List PV→PV
 | .ifn neg,[a]=>.bool (Xcj a !=neg)
 | .b2s,[a]=>.str ((Zmx h a).map byteOf)
 | .nck,[a]=>a
 | .unx,[.int k n]=>Zmn .xor k (if k.signed then -1 else k.max) n
 | .isnil neg,[a]=>.bool (isNil a !=neg)
 | .aix _,[.loc id i off,.int _ k]=>.loc id i (off+k.toNat)
 | .aix _,[.ro cs,.int _ k]=>.ro (cs.drop k.toNat)
 | .ixv _,[.agg cs,.int _ k]=>PV.nth cs k.toNat
 |_,_=>.any
def Ztm(h:Heap):PX→List PV→Prop
 | .ifn _,[a]=>Xc7 a=true
 | .b2s,[a]=>Zwu h a
 | .nck,[a]=>Zne a=true
 | .unx,[a]=>isInt a
 | .isnil _,[a]=>isNil a=true∨notNil a=true
 | .aix n,[.loc _ _ _,.int _ k]=>0≤k∧k<n
 | .aix n,[.ro _,.int _ k]=>0≤k∧k<n
 | .ixv n,[.agg cs,.int _ k]=>0≤k∧k<n∧n≤cs.length
 |_,_=>False
def Zcq(e:Env)(h:Heap):VOp→PV
 | .mv a=>a.ev e
 | .pick c a b=>Zpl (c.ev e) (a.ev e) (b.ev e)
 | .build zr ps=>.agg (Zgx e zr ps)
 | .load g s a=>Z2v g ((Zba h (a.ev e)).take s)
 | .bin op a b=>Zwt op (a.ev e) (b.ev e)
 | .binb op a b=>Zpm op (a.ev e) (b.ev e)
 | .strid a=>a.ev e
 | .eqs neg _ a b=>.bool (Zay (Za6 (a.ev e)) (Za6 (b.ev e)) !=neg)
 | .un op a=>unV op (a.ev e)
 | .conv k a=>Zts k (a.ev e)
 | .mkfn f x y=>.fn f (x.map (VA.ev e)) (y.map (VA.ev e))
 | .slice _ _ a lo hi=>Zgq (a.ev e) (lo.map (VA.ev e)) (hi.map (VA.ev e))
 | .faddr off a=>Zjd off (a.ev e)
 | .fld g off s a=>Z2v g (((Za6 (a.ev e)).drop off).take s)
 | .iaddr _ a i=>Zif (a.ev e) (i.ev e)
 | .idx a i=>Z92 (a.ev e) (i.ev e)
 | .ext a i=>Xci i (a.ev e)
 | .len _ a=>.int .i64 (Zmo (a.ev e))
 | .lookup _ zr ok m k=>Zkz zr ok (Zbn (k.ev e) (Zbl h (m.ev e)))
 | .mlen m=>.int .i64 ((Zbl h (m.ev e)).length:Int)
 | .mm mx [a,b]=>mmV mx (a.ev e) (b.ev e)
 | .px k l=>pxV h k (l.map (VA.ev e))
 |_=>.any
def pok(e:Env)(h:Heap):VOp→Prop
 | .mv _=>True
 | .pick c _ _=>isBool (c.ev e)
 | .build zr ps=>Ze5 e zr.length ps
 | .load g s a=>Zfl h (a.ev e)∧s≤(Zba h (a.ev e)).length∧(g=false→s=1)
 | .bin op a b=>Zdf op (a.ev e) (b.ev e)
 | .binb op a b=>Zfk op (a.ev e) (b.ev e)
 | .strid a=>isStr (a.ev e)
 | .eqs _ ks a b=>Ze4 (a.ev e)∧Ze4 (b.ev e)∧Zf7 ks (Za6 (a.ev e)) (Za6 (b.ev e))
 | .un op a=>Z5f op (a.ev e)
 | .conv _ a=>isInt (a.ev e)
 | .mkfn _ _ _=>True
 | .slice st z a lo hi=>Zer st z h (a.ev e) (lo.map (VA.ev e)) (hi.map (VA.ev e))
 | .faddr _ a=>Zie (a.ev e)
 | .fld g off s a=>Ze4 (a.ev e)∧off+s≤(Za6 (a.ev e)).length∧(g=false→s=1)
 | .iaddr z a i=>Zf8 z h (a.ev e) (i.ev e)
 | .idx a i=>Ztt (a.ev e) (i.ev e)
 | .ext a i=>Zrx i (a.ev e)
 | .len st a=>Zis st (a.ev e)
 | .lookup kk _ _ m k=>Zg2 h (m.ev e)∧Zlz kk (k.ev e) (Zbl h (m.ev e))
 | .mlen m=>Zg2 h (m.ev e)
 | .mm _ [a,b]=>isInt (a.ev e)∧isInt (b.ev e)
 | .px k l=>Ztm h k (l.map (VA.ev e))
 |_=>False
def VOp.pure:VOp→Bool
 | .mv _|.pick .. | .build .. | .load .. | .bin .. | .eqs .. | .binb .. | .strid _|.un .. | .conv .. | .mkfn .. | .slice .. | .faddr .. | .fld .. | .iaddr .. | .idx .. | .ext .. | .len .. | .lookup .. | .mlen .. | .mm .. | .px ..=>true
 |_=>false
theorem Zwv{g:Gh}{v:Value}{p:PV}(h:cst v=some p):Rep g v p:=by
 unfold cst at h;split at h<;>first|(simp only[Zx0]at h;subst h)|(cases h;done)
 ·exact .bool _
 ·exact .int _ _
 ·exact .str _ _ rfl
 ·exact .nilsl
 ·exact .nilp
 ·exact .nilmp
 ·exact .nilfn
 ·exact .nilif
 ·exact .fn _ _ _ _ _ rfl rfl (fun j hj=>absurd hj (by simp)) (fun j hj=>absurd hj (by simp))
theorem Xc8{v:Value}{p:PV}(h:cst v=some p):v.oneCell'=true:=by
 unfold cst at h;split at h<;>first|rfl|(cases h;done)
theorem Zry:∀{l:List Value} {ps:List PV},Zws l=some ps→∀j,j<ps.length→(l.getD j Go.undef).oneCell'=true
 | [],ps,h,j,hj=>by simp only[Zws,Zx0]at h;subst h;exact absurd hj (by simp)
 | v::r,ps,h,j,hj=>by
  simp only[Zws]at h;split at h
  ·rename_i p q hp hq;simp only[Zx0]at h;subst h;cases j with
   |zero=>simpa using Xc8 hp
   |succ j=>
    have:=Zry hq j (by simpa using hj)
    simpa using this
  ·cases h
theorem Zmy:∀{l:List Value} {ps:List PV},Zws l=some ps→l.length=ps.length
 | [],ps,h=>by simp only[Zws,Zx0]at h;subst h;rfl
 |v::r,ps,h=>by
  simp only[Zws]at h;split at h
  ·rename_i p q hp hq;simp only[Zx0]at h;subst h;simp[Zmy hq]
  ·cases h
theorem Zmz{g:Gh}:∀{l:List Value} {ps:List PV},Zws l=some ps→∀j,j<ps.length→Rep g (l.getD j Go.undef) (PV.nth ps j)
 | [],ps,h,j,hj=>by simp only[Zws,Zx0]at h;subst h;exact absurd hj (by simp)
 | v::r,ps,h,j,hj=>by
  simp only[Zws]at h;split at h
  ·rename_i p q hp hq;simp only[Zx0]at h;subst h;cases j with
   |zero=>simpa[PV.nth]using Zwv hp
   |succ j=>
    have:=Zmz (g:=g) hq j (by simpa using hj)
    simpa[PV.nth]using this
  ·cases h
theorem Zat{g:Gh}{a:Act}{e:Env}(he:Zas g a e){x:Operand}{va:VA}(h:cA x=some va):Rep g (a.eval x) (va.ev e):=by
 cases x with
 |tmp t=>simp only[cA,Zx0]at h;subst h;exact he t
 |const v=>
  simp only[cA,Option.map_eq_some_iff]at h;obtain⟨p,hp,rfl⟩:=h;exact Zwv hp
 |global n=>
  simp only[cA,Option.map_eq_some_iff,Option.bind_eq_some_iff]at h;obtain⟨cs,⟨l,hl,hcs⟩,rfl⟩:=h;have hk:=(g.m.kn _ _ hl).2;refine .ro n 0 _ cs (fun j=>l.getD j Go.undef) rfl (fun j hj=>?_) (fun j hj=>Zmz hcs j hj);rw[Nat.zero_add];exact hk j (by rw[Zmy hcs];exact hj)
 |func f=>
  simp only[cA,Zx0]at h;subst h;exact .fn _ _ _ _ _ rfl rfl (fun j hj=>absurd hj (by simp)) (fun j hj=>absurd hj (by simp))
theorem Zk0:∀{l:List Operand} {ps:List VA},cAs l=some ps→l.length=ps.length
 | [],ps,h=>by simp only[cAs,Zx0]at h;subst h;rfl
 |v::r,ps,h=>by
  simp only[cAs]at h;split at h
  ·rename_i p q hp hq;simp only[Zx0]at h;subst h;simp[Zk0 hq]
  ·cases h
theorem Zww{g:Gh}{a:Act}{e:Env}(he:Zas g a e):∀{l:List Operand} {ps:List VA},cAs l=some ps→
  ∀j,j<ps.length→Rep g ((l.map a.eval).getD j Go.undef) (PV.nth (ps.map (VA.ev e)) j)
 | [],ps,h,j,hj=>by simp only[cAs,Zx0]at h;subst h;exact absurd hj (by simp)
 | v::r,ps,h,j,hj=>by
  simp only[cAs]at h;split at h
  ·rename_i p q hp hq;simp only[Zx0]at h;subst h;cases j with
   |zero=>simpa[PV.nth]using Zat he hp
   |succ j=>
    have:=Zww he hq j (by simpa using hj)
    simpa[PV.nth]using this
  ·cases h
section inv
variable {g:Gh} {v:Value}
theorem Rep.bool_inv{b:Bool}(h:Rep g v (.bool b)):v=.bool b:=by cases h;rfl
theorem Rep.int_inv{k:IntKind}{n:Int}(h:Rep g v (.int k n)):v=.int k n:=by cases h;rfl
theorem Rep.str_inv{l:List UInt8}(h:Rep g v (.str l)):∃s:ByteArray,v=.string s∧s.data.toList=l:=by cases h;exact⟨_,rfl,‹_›⟩
theorem Rep.agg_inv{cs:List PV}(h:Rep g v (.agg cs)):∃vs:Array Value,v=.agg vs∧vs.size=cs.length∧(∀j,j<cs.length→(vs.getD j Go.undef).oneCell'=true)∧∀j,j<cs.length→Rep g (vs.getD j Go.undef) (PV.nth cs j):=by
 cases h with
 |agg vs cs h h1 hr=>exact⟨_,rfl,h,h1,hr⟩
theorem Rep.tup_inv{cs:List PV}(h:Rep g v (.tup cs)):∃vs:Array Value,v=.tuple vs∧vs.size=cs.length∧∀j,j<cs.length→Rep g (vs.getD j Go.undef) (PV.nth cs j):=by
 cases h;exact⟨_,rfl,‹_›,‹_›⟩
theorem Rep.loc_inv{id i off:Nat}(h:Rep g v (.loc id i off)):∃b o n z,g.β id=some (b,o,n,z)∧v=.pointer (some ⟨b,o+i*z+off,none⟩):=by
 cases h with
 |loc id i off b o n z a hb ha=>subst ha;exact⟨b,o,n,z,hb,rfl⟩
theorem Rep.ro_inv{cs:List PV}(h:Rep g v (.ro cs)):∃b o,∃vs:Nat→Value,v=.pointer (some ⟨b,o,none⟩)∧(∀j,j<cs.length→g.m b (o+j)=some (vs j))∧∀j,j<cs.length→Rep g (vs j) (PV.nth cs j):=by
 cases h with
 |ro b o a cs vs ha hm hr=>subst ha;exact⟨b,o,vs,rfl,hm,hr⟩
theorem Rep.cells_size{p:PV}{n:Nat}(h:Rep g v p)(hf:p.fits n=true):v.cells.size=n∧p.cells.length=n∧(∀j,j<n→(v.cells.getD j Go.undef).oneCell'=true)∧∀j,j<n→Rep g (v.cells.getD j Go.undef) (PV.nth p.cells j):=by
 by_cases ha:∃cs,p=.agg cs
 ·obtain⟨cs,rfl⟩:=ha;obtain⟨vs,rfl,hs,ho,hr⟩:=h.agg_inv;simp only[PV.fits,beq_iff_eq]at hf;exact⟨by rw[←hf];exact hs,hf,fun j hj=>ho j (by omega),fun j hj=>hr j (by omega)⟩
 ·have hp:p.cells=[p]:=by cases p<;>first|rfl|exact absurd ⟨_,rfl⟩ ha
  have hn:n=1:=by cases p<;>simp[PV.fits]at hf<;>first|exact hf|exact absurd ⟨_,rfl⟩ ha
  have hv:v.cells=#[v]:=by cases h<;>first|rfl|exact absurd ⟨_,rfl⟩ ha|simp[PV.fits]at hf
  have h1:v.oneCell'=true:=by cases h<;>first|rfl|exact absurd ⟨_,rfl⟩ ha|simp[PV.fits]at hf
  subst hn;refine⟨by simp[hv],by simp[hp],fun j hj=>?_,fun j hj=>?_⟩
  ·obtain rfl:j=0:=by omega
   simpa[hv]using h1
  ·obtain rfl:j=0:=by omega
   simpa[hv,hp,PV.nth]using h
end inv
theorem Ztu{g:Gh}{w:World}{h:Heap}(r:Rel g w h){v:Value}{p:PV}(hv:Rep g v p)(hok:Zfl h p):
  ∃b o,∃vs:Nat→Value,v=.pointer (some ⟨b,o,none⟩)∧∀j,j<(Zba h p).length→w.cell? ⟨b,o+j,none⟩=some (vs j)∧(vs j).oneCell'=true∧Rep g (vs j) (PV.nth (Zba h p) j):=by
 cases p<;>simp only[Zfl]at hok
 case ro cs=>
  obtain⟨b,o,vs,rfl,hm,hr⟩:=hv.ro_inv;exact⟨b,o,vs,rfl,fun j hj=>⟨(r.mem _ _ _ (hm j hj)).1,(r.mem _ _ _ (hm j hj)).2,hr j hj⟩⟩
 case loc id i off=>
  obtain⟨b,o,n,z,hb,rfl⟩:=hv.loc_inv;split at hok
  case h_2=>exact hok.elim
  rename_i fz z' es hg;simp only[Zba,hg];refine⟨b,o+i*z+off,fun j=>?_,rfl,?_⟩
  ·exact match w.heap[b]? with
    |some (.cells c _ _)=>c.getD (o+i*z+off+j) Go.undef
    |_=>Go.undef
  ·intro j hj;rcases r.blk id _ hg with⟨h0,_⟩|⟨b',o',n',z'',hb',hlt,hno,hokk⟩
   ·rw[hb]at h0;cases h0
   ·rw[hb]at hb';simp only[Zx0,Prod.mk.injEq]at hb';obtain⟨rfl,rfl,rfl,rfl⟩:=hb';obtain⟨rfl,hz,hle,c,e,hc,hs,hrep⟩:=hokk;have hzi:=hz i hok;have hjz:off+j<z':=by
     simp only[List.length_drop]at hj;omega
    obtain⟨ho1,hr,_⟩:=hrep i (off+j) hok hjz;have hin:o+i*z'+(off+j)<c.size:=by
     have h1:(i+1)*z'≤es.length*z':=Nat.mul_le_mul_right _ hok;rw[Nat.succ_mul]at h1;omega
    simp only[hc];refine⟨?_,by rw[show o+i*z'+off+j=o+i*z'+(off+j) by omega];exact ho1,?_⟩
    ·simp only[World.cell?,hc,Option.isSome_none,Zyu,if_false];rw[show o+i*z'+off+j=o+i*z'+(off+j) by omega];rw[Array.getElem?_eq_getElem hin];simp[Array.getD,hin]
    ·rw[show o+i*z'+off+j=o+i*z'+(off+j) by omega];have e1:PV.nth ((PV.row es i).drop off) j=PV.nth (PV.row es i) (off+j):=by simp[PV.nth,Zx1,List.getElem?_drop]
     rw[e1];exact hr
theorem Zrz{P:Program}{t:TypeId}{b:Bool}(h:Zeq P t=some b)(w:World):(Go.isAgg t).run P w=.ok b w:=by
 unfold Zeq at h;unfold Go.isAgg;split at h
 ·rename_i d hd;simp only[Zx0]at h;subst h;simp[run_underlying hd]
 ·rename_i d hd;simp only[Zx0]at h;subst h;simp[run_underlying hd]
 ·rename_i d hne1 hne2 hd;simp only[Zx0]at h;subst h;rw[Sem.run_bind,run_underlying hd];simp only[Result.andThen_ok];cases d<;>first|rfl|simp_all
 ·cases h
theorem Zeb{P:Program}{t:TypeId}{s:Nat}(h:Zc2 P t=some s)(w:World):(sizeOf t).run P w=.ok s w:=by
 simp only[Zc2,Option.map_eq_some_iff]at h;obtain⟨i,hi,rfl⟩:=h;simp[sizeOf,run_typeInfo w hi]
theorem Znf{P:Program}{t:TypeId}{f:Nat}{fd:Field}{s:Nat}(hf:Zir P t f=some fd)(hs:Zc2 P fd.type=some s)(h0:s≠0)(w:World)(b o:Nat):
  (Instr.fieldAt t (.pointer (some ⟨b,o,none⟩)) f).run P w=.ok (.pointer (some ⟨b,o+fd.offset,none⟩)) w:=by
 unfold Zir at hf;split at hf
 ·rename_i fs hu;simp only[Instr.fieldAt,Sem.run_bind,run_underlying hu,Result.andThen_ok,hf,Instr.sureAddr,Sem.run_pure,fieldPlace,Zeb hs,if_neg h0];by_cases h:fd.offset=0<;>simp[Addr.add,h]
 ·cases hf
theorem Zje{P:Program}{t:TypeId}{s:Nat}{b:Bool}(hs:Zc2 P t=some s)(hb:Zeq P t=some b)(w:World)(cs:Array Value)(off:Nat)(hle:off+s≤cs.size)(h1:b=false→s=1):
  (part t cs off).run P w=.ok (if b then .agg (cs.extract off (off+s))else cs.getD off Go.undef) w:=by
 cases b
 ·have:=h1 rfl;have hlt:off<cs.size:=by omega
  simp[part,Zrz hb,hlt,Array.getD]
 ·simp[part,Zrz hb,Zeb hs]
theorem Z2w{P:Program}{t:TypeId}{s:Nat}{b:Bool}(hs:Zc2 P t=some s)(hb:Zeq P t=some b)(w:World)(bl o:Nat)(vs:Nat→Value)
  (hc:∀j,j<s→w.cell? ⟨bl,o+j,none⟩=some (vs j))(h1:b=false→s=1):
  (Instr.loadAt t (.pointer (some ⟨bl,o,none⟩))).run P w=.ok (if b then .agg ((List.range s).map vs).toArray else vs 0) w:=by
 have hadd:∀j,(⟨bl,o,none⟩:Addr).add j=⟨bl,o+j,none⟩:=fun j=>by by_cases h:j=0<;>simp[Addr.add,h]
 cases b
 ·have:=h1 rfl;subst this;have h0:=hc 0 (by omega);simp only[Nat.add_zero]at h0;simp[Instr.loadAt,Instr.sureAddr,loadVar,Zrz hb,h0]
 ·have hl:=run_loadCells (P:=P) w ⟨bl,o,none⟩ s vs (fun j hj=>by rw[hadd];exact hc j hj);simp only[Instr.loadAt,Instr.sureAddr,Sem.run_bind,Sem.run_pure,Result.andThen_ok,loadVar,Zrz hb,if_true,Zeb hs,hl]
theorem Z93{a b:List UInt8}{s t:ByteArray}(hs:s.data.toList=a)(ht:t.data.toList=b):s.toList=a∧t.toList=b∧s.size=a.length∧(s++t).data.toList=a++b:=by
 have h1:∀x:ByteArray,x.toList=x.data.toList:=ByteArray.toList_eq;refine⟨by rw[h1,hs],by rw[h1,ht],by rw[←hs,Array.length_toList];rfl,by rw[←hs,←ht,ByteArray.data_append,Array.toList_append]⟩
theorem Zng{P:Program}{w:World}{op:BinOp}{t:TypeId}{x y:Operand}{a b:Value}(h1:(∀vs,a≠.agg vs) )(h2:a≠.nilIface):(eqGuard op t x y a b).run P w=.ok () w:=by
 unfold eqGuard;cases op<;>cases a<;>simp_all
theorem Z5l{P:Program}{w:World}{op:BinOp}{t:TypeId}{k k':IntKind}{a b:Int}(hok:Zdf op (.int k a) (.int k' b)):
    ∃v,(binOp op t (.int k a) (.int k' b)).run P w=.ok v w∧∀g,Rep g v (Zwt op (.int k a) (.int k' b)):=by
  cases op<;>simp only[Zdf]at hok<;>simp only[Zwt,Zmn]
  case add=>subst hok;exact⟨_,by simp[binOp,Op.intArith],fun g=>.int _ _⟩
  case sub=>subst hok;exact⟨_,by simp[binOp,Op.intArith],fun g=>.int _ _⟩
  case mul=>subst hok;exact⟨_,by simp[binOp,Op.intArith],fun g=>.int _ _⟩
  case quo=>obtain⟨rfl,h⟩:=hok;exact⟨_,by simp[binOp,Op.intDiv,h],fun g=>.int _ _⟩
  case rem=>obtain⟨rfl,h⟩:=hok;exact⟨_,by simp[binOp,Op.intDiv,h],fun g=>.int _ _⟩
  case and=>subst hok;exact⟨_,by simp[binOp,Op.intBits],fun g=>.int _ _⟩
  case or=>subst hok;exact⟨_,by simp[binOp,Op.intBits],fun g=>.int _ _⟩
  case xor=>subst hok;exact⟨_,by simp[binOp,Op.intBits],fun g=>.int _ _⟩
  case andNot=>subst hok;exact⟨_,by simp[binOp,Op.intBits],fun g=>.int _ _⟩
  case shl => have h: ¬b<0:=by omega
              exact⟨_,by simp[binOp,Op.shift,h],fun g=>.int _ _⟩
  case shr => have h: ¬b<0:=by omega
              exact⟨_,by simp[binOp,Op.shift,h],fun g=>.int _ _⟩
  case eql=>subst hok;exact⟨_,by simp[binOp,Op.intCmp],fun g=>.bool _⟩
  case neq=>subst hok;exact⟨_,by simp[binOp,Op.intCmp],fun g=>.bool _⟩
  case lss=>subst hok;exact⟨_,by simp[binOp,Op.intCmp],fun g=>.bool _⟩
  case leq=>subst hok;exact⟨_,by simp[binOp,Op.intCmp],fun g=>.bool _⟩
  case gtr=>subst hok;exact⟨_,by simp[binOp,Op.intCmp],fun g=>.bool _⟩
  case geq=>subst hok;exact⟨_,by simp[binOp,Op.intCmp],fun g=>.bool _⟩
theorem Zwx{P:Program}{w:World}{op:BinOp}{t:TypeId}{s u:ByteArray}{a b:List UInt8}(hs:s.data.toList=a)(hu:u.data.toList=b)(hok:Zdf op (.str a) (.str b)):
  ∃v,(binOp op t (.string s) (.string u)).run P w=.ok v w∧∀g,Rep g v (Zwt op (.str a) (.str b)):=by
 obtain⟨e1,e2,e3,e4⟩:=Z93 hs hu;have e5:u.size=b.length:=by rw[←hu,Array.length_toList];rfl
 cases op<;>simp only[Zdf]at hok<;>simp only[Zwt,Z02]
 case add=>
  refine⟨.string (s++u),?_,fun g=>.str _ _ e4⟩;have:¬(9223372036854775807<((s.size:Int)+(u.size:Int))):=by omega
  simp[binOp,Op.stringOp,IntKind.max,IntKind.signed,IntKind.bits,this]
 case eql=>exact⟨.bool (a==b),by simp only[binOp,Op.stringOp,e1,e2,Sem.run_pure],fun g=>.bool _⟩
 case neq=>exact⟨.bool (a !=b),by simp only[binOp,Op.stringOp,e1,e2,Sem.run_pure,bne],fun g=>.bool _⟩
 case lss=>exact⟨.bool _,by simp[binOp,Op.stringOp,e1,e2],fun g=>.bool _⟩
 case leq=>exact⟨.bool _,by simp[binOp,Op.stringOp,e1,e2],fun g=>.bool _⟩
 case gtr=>exact⟨.bool _,by simp[binOp,Op.stringOp,e1,e2],fun g=>.bool _⟩
 case geq=>exact⟨.bool _,by simp[binOp,Op.stringOp,e1,e2],fun g=>.bool _⟩
theorem Ztv{P:Program}{w:World}{op:BinOp}{t:TypeId}{a b:Bool}(hd:P.underlying t=some .bool)(hok:Zfk op (.bool a) (.bool b)):
  ∃v,(binOp op t (.bool a) (.bool b)).run P w=.ok v w∧∀g,Rep g v (Zpm op (.bool a) (.bool b)):=by
 have he:(Op.equal t (.bool a) (.bool b)).run P w=.ok (a==b) w:=run_equal_bool w t a b hd;cases op<;>simp only[Zfk]at hok<;>simp only[Zpm,Zrw]
 case eql=>exact⟨_,by simp[binOp,he],fun g=>.bool _⟩
 case neq=>exact⟨_,by simp[binOp,he,bne],fun g=>.bool _⟩
theorem Ztw{P:Program}{g:Gh}{w:World}{op:BinOp}{t:TypeId}{x y:Operand}{vx vy:Value}{px py:PV} 
  (hx:Rep g vx px)(hy:Rep g vy py)(hok:Zdf op px py):
  ∃v,((do eqGuard op t x y vx vy;binOp op t vx vy:Sem Value)).run P w=.ok v w∧Rep g v (Zwt op px py):=by
 have key:∃v,(binOp op t vx vy).run P w=.ok v w∧Rep g v (Zwt op px py):=by
  cases px<;>cases py<;>(try (simp only[Zdf]at hok;done))
  case int.int k a k' b=>
   obtain rfl:=hx.int_inv;obtain rfl:=hy.int_inv;obtain⟨v,h1,h2⟩:=Z5l (P:=P) (w:=w) (t:=t) hok;exact⟨v,h1,h2 g⟩
  case str.str a b=>
   obtain⟨s,rfl,hs⟩:=hx.str_inv;obtain⟨u,rfl,hu⟩:=hy.str_inv;obtain⟨v,h1,h2⟩:=Zwx (P:=P) (w:=w) (t:=t) hs hu hok;exact⟨v,h1,h2 g⟩
 obtain⟨v,h1,h2⟩:=key;refine⟨v,?_,h2⟩;have hg:(eqGuard op t x y vx vy).run P w=.ok () w:=by
  apply Zng
  ·intro vs hv;subst hv;cases hx;simp[Zdf]at hok;simp[Zdf]at hok
  ·intro hv;subst hv;cases hx;simp[Zdf]at hok;simp[Zdf]at hok
 simp[hg,h1]
theorem Z2x{P:Program}{g:Gh}{w:World}{op:BinOp}{t:TypeId}{x y:Operand}{vx vy:Value}{px py:PV} 
  (hb:P.underlying t=some .bool)(hx:Rep g vx px)(hy:Rep g vy py)(hok:Zfk op px py):
  ∃v,((do eqGuard op t x y vx vy;binOp op t vx vy:Sem Value)).run P w=.ok v w∧Rep g v (Zpm op px py):=by
 cases px<;>cases py<;>(try (simp only[Zfk]at hok;done))
 rename_i p q;obtain rfl:=hx.bool_inv;obtain rfl:=hy.bool_inv;obtain⟨v,h1,h2⟩:=Ztv (P:=P) (w:=w) hb hok;have hg:(eqGuard op t x y (.bool p) (.bool q)).run P w=.ok () w:=Zng (fun vs hv=>by cases hv) (fun hv=>by cases hv);exact⟨v,by simp[hg,h1],h2 g⟩
theorem Zjf(l:List PV)(a j:Nat):PV.nth (l.drop a) j=PV.nth l (a+j):=by simp[PV.nth,Zx1,List.getElem?_drop]
theorem Zd2(l:List PV)(a j:Nat)(h:j<a):PV.nth (l.take a) j=PV.nth l j:=by simp[PV.nth,Zx1,List.getElem?_take,h]
theorem Zhu(l:List (List PV))(a j:Nat):PV.row (l.drop a) j=PV.row l (a+j):=by simp[PV.row,Zx1,List.getElem?_drop]
theorem Zhv(l:List (List PV))(a j:Nat)(h:j<a):PV.row (l.take a) j=PV.row l j:=by simp[PV.row,Zx1,List.getElem?_take,h]
theorem getD_extract(vs:Array Value)(a b j:Nat)(h:j<b-a)(hb:b≤vs.size):(vs.extract a b).getD j Go.undef=vs.getD (a+j) Go.undef:=by
 have h1:j<(vs.extract a b).size:=by simp;omega
 have h2:a+j<vs.size:=by omega
 have h3:j<min b vs.size-a:=by omega
 simp[Array.getD,h2,h3]
section pure
variable {P:Program} {g:Gh} {w:World} {h:Heap} {a:Act} {e:Env}
theorem Zqa{t:TypeId}{s:Nat}{b:Bool}{x:Operand}{va:VA}(hr:Rel g w h)(he:Zas g a e)(hx:cA x=some va)(hb:Zeq P t=some b)(hs:Zc2 P t=some s)
  (hok:pok e h (.load b s va)):∃v,(Instr.loadAt t (a.eval x)).run P w=.ok v w∧Rep g v (Zcq e h (.load b s va)):=by
 obtain⟨hl,hle,h1⟩:=hok;obtain⟨bl,o,vs,hv,hc⟩:=Ztu hr (Zat he hx) hl;have hrun:=Z2w (P:=P) hs hb w bl o vs (fun j hj=>(hc j (by omega)).1) h1;rw[hv];refine⟨_,hrun,?_⟩
 ·simp only[Zcq,Z2v];cases b
  ·simp only[Zyu,if_false];have:=h1 rfl;subst this;rw[Zd2 _ _ _ (by omega)];exact(hc 0 (by omega)).2.2
  ·simp only[if_true];have key:∀j,j<s→((List.range s).map vs).toArray.getD j Go.undef=vs j:=fun j hj'=>by simp[Array.getD,hj']
   refine .agg _ _ (by simp;omega) (fun j hj=>?_) (fun j hj=>?_)
   ·have hj':j<s:=by simp at hj;omega
    rw[key j hj'];exact(hc j (by omega)).2.1
   ·have hj':j<s:=by simp at hj;omega
    rw[Zd2 _ _ _ hj',key j hj'];exact(hc j (by omega)).2.2
theorem Z5m{t:TypeId}{f:Nat}{fd:Field}{s:Nat}{b:Bool}{x:Operand}{va:VA}(he:Zas g a e)(hx:cA x=some va)(hf:Zir P t f=some fd)(hb:Zeq P fd.type=some b)(hs:Zc2 P fd.type=some s)
  (hok:pok e h (.fld b fd.offset s va)):∃v,(Instr.field t (a.eval x) f).run P w=.ok v w∧Rep g v (Zcq e h (.fld b fd.offset s va)):=by
 obtain⟨hl,hle,h1⟩:=hok;have hv:=Zat he hx;cases hp:va.ev e<;>simp only[hp,Ze4]at hl
 rename_i cs;rw[hp]at hv;obtain⟨vs,hv,hsz,ho,hr⟩:=hv.agg_inv;simp only[hp,Za6]at hle;simp only[Zcq,hp,Za6];have hrun:(Instr.field t (.agg vs) f).run P w=.ok (if b then .agg (vs.extract fd.offset (fd.offset+s))else vs.getD fd.offset Go.undef) w:=by
  unfold Zir at hf;split at hf
  ·rename_i fs hu;simp only[Instr.field,Sem.run_bind,run_underlying hu,Result.andThen_ok,hf,asAgg,Sem.run_pure];exact Zje hs hb w vs fd.offset (by omega) h1
  ·cases hf
 rw[hv];refine⟨_,hrun,?_⟩
 ·simp only[Z2v];cases b
  ·simp only[Zyu,if_false];have:=h1 rfl;subst this;rw[Zd2 _ _ _ (by omega),Zjf];exact hr _ (by omega)
  ·simp only[if_true];refine .agg _ _ (by simp;omega) (fun j hj=>?_) (fun j hj=>?_)
   ·have hj':j<s:=by simp at hj;omega
    rw[getD_extract _ _ _ _ (by omega) (by omega)];exact ho _ (by omega)
   ·have hj':j<s:=by simp at hj;omega
    rw[Zd2 _ _ _ hj',Zjf,getD_extract _ _ _ _ (by omega) (by omega)];exact hr _ (by omega)
theorem Zwy{t:TypeId}{f:Nat}{fd:Field}{s:Nat}{x:Operand}{va:VA}(he:Zas g a e)(hx:cA x=some va)(hf:Zir P t f=some fd)(hs:Zc2 P fd.type=some s)(h0:s≠0)
  (hok:Zie (va.ev e)):∃v,(Instr.fieldAt t (a.eval x) f).run P w=.ok v w∧Rep g v (Zjd fd.offset (va.ev e)):=by
 have hv:=Zat he hx;cases hp:va.ev e<;>simp only[hp,Zie]at hok<;>rw[hp]at hv
 case loc id i off=>
  obtain⟨b,o,n,z,hb,hv⟩:=hv.loc_inv;rw[hv];exact⟨_,Znf hf hs h0 w _ _,.loc _ _ _ b o n z _ hb (by congr 1;omega)⟩
 case ro cs=>
  obtain⟨b,o,vs,hv,hm,hr⟩:=hv.ro_inv;rw[hv];refine⟨_,Znf hf hs h0 w _ _,.ro b (o+fd.offset) _ _ (fun j=>vs (fd.offset+j)) rfl (fun j hj=>?_) (fun j hj=>?_)⟩
  ·rw[Nat.add_assoc];exact hm _ (by simp at hj;omega)
  ·rw[Zjf];exact hr _ (by simp at hj;omega)
theorem Zwz{t ty:TypeId}{z:Nat}{x y:Operand}{va vi:VA}(hr:Rel g w h)(he:Zas g a e)(hx:cA x=some va)(hy:cA y=some vi)(hu:P.underlying t=some (.slice ty))(hs:Zc2 P ty=some z)
  (hok:Zf8 z h (va.ev e) (vi.ev e)):∃v,(Instr.indexAt t (a.eval x) (a.eval y)).run P w=.ok v w∧Rep g v (Zif (va.ev e) (vi.ev e)):=by
 obtain⟨hi,h0,hlt,hm⟩:=hok;have hv:=Zat he hx;have hiv:=Zat he hy;cases hpi:vi.ev e<;>simp only[hpi,isInt]at hi<;>rw[hpi]at hiv
 rename_i k n;have hiv:=hiv.int_inv;simp only[hpi,numOf]at h0 hlt hm⊢;have key:∀(b o len cap:Nat),n<(len:Int)→(Instr.indexAt t (.slice (some ⟨b,o,none⟩) len cap) (.int k n)).run P w=.ok (.pointer (some ⟨b,o+n.toNat*z,none⟩)) w:=by
  intro b o len cap hn;simp only[Instr.indexAt,asIntOf,Sem.run_bind,Sem.run_pure,Result.andThen_ok,run_underlying hu,Zeb hs,if_pos (And.intro h0 hn),Sem.run_ite,h0,hn,and_self,if_true];by_cases h:n.toNat*z=0<;>simp[Addr.add,h]
 rw[hiv];generalize a.eval x=vx at hv⊢;cases hp:va.ev e<;>simp only[hp,Zmo,Zif,numOf]at hm hlt⊢<;>rw[hp]at hv
 case sl z' es=>
  subst hm;cases hv with
  |slE=>exact absurd hlt (by simp;omega)
  |sl b o len cap z a es vs ha hl hc hz hmm hrr=>
   subst ha hl;refine⟨_,key _ _ _ _ hlt,?_⟩;have hn:n.toNat<es.length:=by omega
   refine .ro b (o+n.toNat*z') _ _ (fun j=>vs n.toNat j) rfl (fun j hj=>?_) (fun j hj=>?_)
   ·exact hmm _ _ hn (by rw[hz _ hn]at hj;exact hj)
   ·exact hrr _ _ hn (by rw[hz _ hn]at hj;exact hj)
 case own id off len=>
  split at hm
  case h_2=>exact hm.elim
  rename_i fz z' es hg;subst hm;cases hv with
  |ownE=>exact absurd hlt (by simp;omega)
  |own _ _ _ cap b o n' z a hb ha hc hn=>
   subst ha;rcases hr.blk id _ hg with⟨hb0,_⟩|⟨b',o',n'',z'',hb',_,_,hokk⟩
   ·rw[hb]at hb0;cases hb0
   ·rw[hb]at hb';simp only[Zx0,Prod.mk.injEq]at hb';obtain⟨rfl,rfl,rfl,rfl⟩:=hb';have hz:=hokk.1;subst hz;refine⟨_,key _ _ _ _ hlt,?_⟩;exact .loc _ _ _ b o n' z' _ hb (by congr 1;rw[Nat.add_mul];omega)
theorem Z5n{t:TypeId}{x y:Operand}{va vi:VA}(he:Zas g a e)(hx:cA x=some va)(hy:cA y=some vi)(hu:P.underlying t=some .string)
  (hok:Ztt (va.ev e) (vi.ev e)):∃v,(Instr.index t (a.eval x) (a.eval y)).run P w=.ok v w∧Rep g v (Z92 (va.ev e) (vi.ev e)):=by
 obtain⟨hi,h0,hlt,hm⟩:=hok;have hv:=Zat he hx;have hiv:=Zat he hy;cases hpi:vi.ev e<;>simp only[hpi,isInt]at hi<;>rw[hpi]at hiv
 rename_i k n;have hiv:=hiv.int_inv;simp only[hpi,numOf]at h0 hlt hm⊢;cases hp:va.ev e<;>simp only[hp,Zmo,Z92]at hm hlt⊢<;>rw[hp]at hv
 rename_i l;obtain⟨s,hv,hs⟩:=hv.str_inv;have hsz:s.size=l.length:=by rw[←hs,Array.length_toList];rfl
 have hn:n.toNat<s.size:=by omega
 have hb:s[n.toNat]?=some (l.getD n.toNat 0):=by
  have h1:s[n.toNat]?=s.data[n.toNat]?:=by
   rw[getElem?_pos s n.toNat hn,Array.getElem?_eq_getElem hn];rfl
  rw[h1,←Array.getElem?_toList,hs,Zye (by omega),Zx1,Zye (show n.toNat<l.length by omega)];rfl
 rw[hiv,hv];have hrun:(Instr.index t (.string s) (.int k n)).run P w=.ok (.int .u8 ((l.getD n.toNat 0).toNat:Int)) w:=by
  simp only[Instr.index,asIntOf,Sem.run_bind,Sem.run_pure,Result.andThen_ok,run_underlying hu,if_pos h0,hb]
 exact⟨_,hrun,.int _ _⟩
theorem Zjg{k:IntKind}{n:Int}{y:Nat}{code:BoundsCode}(h0:0≤n)(h1:n.toNat≤y)(w:World):(Instr.sliceBound (.int k n) y code).run P w=.ok n.toNat w:=
 run_sliceBound w k n y code h0 (by omega)
theorem Ztx{o:Option Operand}{va:Option VA}(h:cAo o=some va):(o=none∧va=none)∨∃x v,o=some x∧va=some v∧cA x=some v:=by
 cases o with
 |none=>simp only[cAo,Zx0]at h;exact .inl ⟨rfl,h.symm⟩
 |some x=>
  simp only[cAo,Option.map_eq_some_iff]at h;obtain⟨v,hv,rfl⟩:=h;exact .inr ⟨x,v,rfl,rfl,hv⟩
theorem Zqb{lo hi:Option Operand}{vl vh:Option VA}(he:Zas g a e)(hl:cAo lo=some vl)(hh:cAo hi=some vh)(sl:Bool)(len cap:Nat)(hlc:len≤cap)
  (b1:Zds (vl.map (VA.ev e)))(b2:Zds (vh.map (VA.ev e)))(b3:loV (vl.map (VA.ev e))≤hiV len (vh.map (VA.ev e)))(b4:hiV len (vh.map (VA.ev e))≤len):
  (Instr.sliceBounds sl len cap (lo.map a.eval) (hi.map a.eval) none).run P w=.ok (loV (vl.map (VA.ev e)),hiV len (vh.map (VA.ev e)),cap) w:=by
 have key:∀{x:Operand} {v:VA},cA x=some v→Zds (some (v.ev e))→∃k n,a.eval x=.int k n∧v.ev e=.int k n∧0≤n:=by
  intro x v hx hb;have hr:=Zat he hx;cases hp:v.ev e<;>simp only[hp,Zds]at hb
  rw[hp]at hr;exact⟨_,_,hr.int_inv,rfl,hb⟩
 rcases Ztx hl with⟨rfl,rfl⟩|⟨x,v,rfl,rfl,hx⟩<;>rcases Ztx hh with⟨rfl,rfl⟩|⟨y,u,rfl,rfl,hy⟩
 ·simp[Instr.sliceBounds,loV,hiV]
 ·obtain⟨k,n,e1,e2,h0⟩:=key hy b2;simp only[Zys,Option.map_none,e1,e2,loV,hiV,numOf]at*;simp[Instr.sliceBounds,Zjg (P:=P) h0 (show n.toNat≤cap by omega)]
 ·obtain⟨k,n,e1,e2,h0⟩:=key hx b1;simp only[Zys,Option.map_none,e1,e2,loV,hiV,numOf]at*;simp[Instr.sliceBounds,Zjg (P:=P) h0 b3]
 ·obtain⟨k,n,e1,e2,h0⟩:=key hx b1;obtain⟨k',n',e1',e2',h0'⟩:=key hy b2;simp only[Zys,Option.map_none,e1,e2,e1',e2',loV,hiV,numOf]at*;simp[Instr.sliceBounds,Zjg (P:=P) h0 b3,Zjg (P:=P) h0' (show n'.toNat≤cap by omega)]
theorem extract_toList(s:ByteArray)(a b:Nat):(s.extract a b).data.toList=(s.data.toList.drop a).take (b-a):=Lib.extract_data s a b
theorem Znh {t:TypeId}{z:Nat}{x:Operand}{va:VA}{lo hi:Option Operand}{vl vh:Option VA}(hr:Rel g w h)(he:Zas g a e)(hx:cA x=some va)(hl:cAo lo=some vl)(hh:cAo hi=some vh)
    {st:Bool}(hu:(P.underlying t=some .string∧st=true)∨st=false∧∃ty,P.underlying t=some (.slice ty)∧Zc2 P ty=some z)
    (hok:Zer st z h (va.ev e) (vl.map (VA.ev e)) (vh.map (VA.ev e))):
    ∃v,(Instr.sliceAt t (a.eval x) (lo.map a.eval) (hi.map a.eval) none).run P w=.ok v w∧Rep g v (Zgq (va.ev e) (vl.map (VA.ev e)) (vh.map (VA.ev e))):=by
  obtain⟨b1,b2,b3,b4,hm⟩:=hok;have hv:=Zat he hx;generalize a.eval x=vx at hv⊢;rcases hu with⟨hu,rfl⟩|⟨rfl,ty,hu,hz⟩
  · have hpl:∃l,va.ev e= .str l:=by
      cases hp:va.ev e<;>simp only[hp]at hm<;>first|exact⟨_,rfl⟩|(simp at hm;done)
    obtain⟨l,hp⟩:=hpl;rw[hp]at hv b3 b4⊢;obtain⟨s,rfl,rfl⟩:=hv.str_inv;have hsz:s.size=s.data.toList.length:=by rw[Array.length_toList];rfl
    have hb:=Zqb (P:=P) (w:=w) he hl hh false s.size s.size (Nat.le_refl _) b1 b2 (by rw[hsz];exact b3) (by rw[hsz];exact b4);refine⟨.string (s.extract (loV (vl.map (VA.ev e))) (hiV s.size (vh.map (VA.ev e)))),?_,.str _ _ ?_⟩
    ·simp[Instr.sliceAt,Instr.slice,run_underlying hu,hb]
    ·rw[extract_toList,hsz]
  · have run:∀(ao:Option Addr) (len cap:Nat),len≤cap→loV (vl.map (VA.ev e))≤hiV len (vh.map (VA.ev e))→hiV len (vh.map (VA.ev e))≤len→
        (Instr.sliceAt t (.slice ao len cap) (lo.map a.eval) (hi.map a.eval) none).run P w=
          .ok (.slice (if cap=loV (vl.map (VA.ev e))then ao else ao.map (·.add (loV (vl.map (VA.ev e))*z))) (hiV len (vh.map (VA.ev e))-loV (vl.map (VA.ev e))) (cap-loV (vl.map (VA.ev e)))) w:=by
      intro ao len cap h1 h2 h3;have hb:=Zqb (P:=P) (w:=w) he hl hh true len cap h1 b1 b2 h2 h3;simp only[Instr.sliceAt,Instr.slice,Sem.run_bind,run_underlying hu,Result.andThen_ok,hb,Zeb hz,Sem.run_pure]
    cases hp:va.ev e<;>simp only[hp,Zmo,Zgq]at hm b3 b4⊢<;>rw[hp]at hv
    case str l=>simp at hm
    case nilsl=>
      cases hv;refine⟨_,run none 0 0 (Nat.le_refl _) b3 b4,?_⟩;have e1:hiV 0 (vh.map (VA.ev e))=0:=by omega
      rw[e1]at b3⊢;have e2:loV (vl.map (VA.ev e))=0:=by omega
      rw[e2];exact .nilsl
    case sl z' es=>
      obtain⟨_,rfl⟩:=hm;generalize loV (vl.map (VA.ev e))=L at*;cases hv with
      | slE ao cap=>
        refine⟨_,run ao 0 cap (Zyw _) b3 b4,?_⟩;simp only[Zyn]at b3 b4⊢;generalize hiV 0 (vh.map (VA.ev e))=H at*;obtain rfl:H=0:=by omega
        obtain rfl:L=0:=by omega
        simpa using Rep.slE _ _ _
      | sl b o len cap z a' es vs ha hl' hc hz' hmm hrr=>
        subst ha hl';refine⟨_,run _ _ cap hc b3 b4,?_⟩;generalize hiV es.length (vh.map (VA.ev e))=H at*;by_cases hE:H-L=0
        ·rw[hE];simp only[List.take_zero];exact .slE _ _ _
        · have hne:cap≠L:=by omega
          rw[if_neg hne];refine .sl b (o+L*z') (H-L) (cap-L) z' _ _ (fun i j=>vs (L+i) j) ?_ (by simp;omega) (by omega) (fun i hi=>?_) (fun i j hi hj=>?_) (fun i j hi hj=>?_)
          ·by_cases h0:L*z'=0<;>simp[Addr.add,h0]
          ·rw[Zhv _ _ _ hi,Zhu];exact hz' _ (by omega)
          ·rw[←hmm (L+i) j (by omega) hj,Nat.add_mul];congr 1;omega
          ·rw[Zhv _ _ _ hi,Zhu];exact hrr _ _ (by omega) hj
    case own id off len=>
      generalize loV (vl.map (VA.ev e))=L at*;cases hv with
      | ownE ao=>
        refine⟨_,run ao 0 0 (Nat.le_refl _) b3 b4,?_⟩;generalize hiV 0 (vh.map (VA.ev e))=H at*;obtain rfl:H=0:=by omega
        obtain rfl:L=0:=by omega
        simpa using Rep.ownE _ _ _
      | own _ _ _ cap b o n' z2 a' hb ha hc hn=>
        subst ha;obtain⟨_,hm⟩:=hm;split at hm
        case h_2=>exact hm.elim
        rename_i fz z' es hg;subst hm;rcases hr.blk id _ hg with⟨hb0,_⟩|⟨b',o',n'',z'',hb',_,_,hokk⟩
        ·rw[hb]at hb0;cases hb0
        · rw[hb]at hb'
          simp only[Zx0,Prod.mk.injEq]at hb';obtain⟨rfl,rfl,rfl,rfl⟩:=hb';have hz2:=hokk.1;subst hz2;refine⟨_,run _ _ cap hc b3 b4,?_⟩;generalize hiV len (vh.map (VA.ev e))=H at*;by_cases hE:cap=L
          · have:H-L=0:=by omega
            rw[this,hE,Nat.sub_self];exact .ownE _ _ _
          · rw[if_neg hE]
            have e1:(off+L)*z'=off*z'+L*z':=Nat.add_mul _ _ _;have e2:(cap-L)*z'+L*z'=cap*z':=by rw[←Nat.add_mul];congr 1;omega
            refine .own id (off+L) (H-L) (cap-L) b o n' z' _ hb ?_ (by omega) (by omega);by_cases h0:L*z'=0<;>simp[Addr.add,h0]<;>omega
theorem Z2y{p:PV}{n:Nat}(h:p.fits n=true):p.cells.length=n:=by
 cases p<;>simp[PV.fits]at h<;>simp[PV.cells]<;>omega
theorem Zni(cs:List PV)(o:Nat)(new:List PV)(h:o+new.length≤cs.length):(overlay cs o new).length=cs.length:=by
 simp[overlay];omega
theorem Zit(cs:List PV)(o:Nat)(new:List PV)(h:o+new.length≤cs.length)(j:Nat):
  PV.nth (overlay cs o new) j=if o≤j∧j<o+new.length then PV.nth new (j-o)else PV.nth cs j:=by
 simp only[overlay,PV.nth,Zx1];by_cases h1:j<o
 ·rw[if_neg (by omega),List.append_assoc,List.getElem?_append_left (by simp;omega),List.getElem?_take,if_pos h1]
 ·by_cases h2:j<o+new.length
  ·rw[if_pos ⟨by omega,h2⟩,List.append_assoc,List.getElem?_append_right (by simp;omega),List.getElem?_append_left (by simp;omega)]
   congr 2;simp;omega
  ·rw[if_neg (by omega),List.getElem?_append_right (by simp;omega),List.getElem?_drop]
   congr 2;simp;omega
theorem fold_size(o:Nat):∀(new:List Value) (k:Nat) (cs:Array Value),((new.zipIdx k).foldl (fun(cs:Array Value) (p:Value×Nat)=>cs.setIfInBounds (o+p.2) p.1) cs).size=cs.size
 | [],_,_=>rfl
 |v::r,k,cs=>by simp only[List.zipIdx_cons,List.foldl_cons];rw[fold_size o r];simp
theorem Z03(o:Nat):∀(new:List Value) (k:Nat) (cs:Array Value),o+k+new.length≤cs.size→∀j,
  ((new.zipIdx k).foldl (fun(cs:Array Value) (p:Value×Nat)=>cs.setIfInBounds (o+p.2) p.1) cs).getD j Go.undef=
   if o+k≤j∧j<o+k+new.length then new.getD (j-(o+k)) Go.undef else cs.getD j Go.undef
 | [],k,cs,h,j=>by simp;intro h1 h2;omega
 | v::r,k,cs,h,j=>by
  simp only[List.zipIdx_cons,List.foldl_cons];simp only[Zyd]at h;rw[Z03 o r (k+1) _ (by simp;omega)];by_cases h1:j=o+k
  ·subst h1;rw[if_neg (by omega),if_pos ⟨by omega,by simp⟩];have:o+k<cs.size:=by omega
   simp[Array.getD,this]
  ·by_cases h2:o+(k+1)≤j∧j<o+(k+1)+r.length
   ·rw[if_pos h2,if_pos ⟨by omega,by simp;omega⟩];have e1:j-(o+k)=(j-(o+(k+1)))+1:=by omega
    rw[e1];simp
   ·rw[if_neg h2,if_neg (by simp;omega)];simp only[Zx6];rw[Array.getElem?_setIfInBounds_ne (by omega)]
theorem Zk1(he:Zas g a e)(place:Nat→Option (Nat×Nat)):∀(ps:List (Nat×Operand)) (qs:List (Nat×Nat×VA)) (cells:Array Value) (cs:List PV),
  ps.length=qs.length→(∀(i:Nat) (p:Nat×Operand) (q:Nat×Nat×VA),ps[i]?=some p→qs[i]?=some q→place p.1=some (q.1,q.2.1)∧cA p.2=some q.2.2)→
  cells.size=cs.length→(∀j,j<cs.length→(cells.getD j Go.undef).oneCell'=true∧Rep g (cells.getD j Go.undef) (PV.nth cs j))→Ze5 e cs.length qs→
  ∃out,Instr.fill place cells (ps.map fun p=>(p.1,a.eval p.2))=some out∧out.size=cs.length∧(Zgx e cs qs).length=cs.length∧∀j,j<cs.length→(out.getD j Go.undef).oneCell'=true∧Rep g (out.getD j Go.undef) (PV.nth (Zgx e cs qs) j)
 | [],[],cells,cs,_,_,hs,hr,_=>⟨cells,rfl,hs,rfl,hr⟩
 | p::ps,q::qs,cells,cs,hl,hp,hs,hr,hok=>by
  obtain⟨o,s,va⟩:=q;obtain⟨hf,hle,hok⟩:=hok;obtain⟨h1,h2⟩:=hp 0 p _ rfl rfl;have hv:=Zat he h2;obtain⟨z1,z2,z4,z3⟩:=hv.cells_size hf;simp only at h1 z1 z2 z3 z4;have hL:(overlay cs o (va.ev e).cells).length=cs.length:=Zni _ _ _ (by omega);simp only[List.map_cons,Instr.fill,h1,Zgx];rw[if_neg (by simp;omega)];have hnew:∀(C:Array Value),C=((a.eval p.2).cells.zipIdx.foldl (fun(cs:Array Value) (x:Value×Nat)=>cs.setIfInBounds (o+x.2) x.1) cells)→
    C.size=cs.length∧∀j,j<cs.length→(C.getD j Go.undef).oneCell'=true∧Rep g (C.getD j Go.undef) (PV.nth (overlay cs o (va.ev e).cells) j):=by
   intro C hC;have e0:C=(((a.eval p.2).cells.toList.zipIdx 0).foldl (fun(cs:Array Value) (x:Value×Nat)=>cs.setIfInBounds (o+x.2) x.1) cells):=by
    rw[hC,←Array.foldl_toList,Array.toList_zipIdx]
   refine⟨by rw[e0,fold_size,hs],fun j hj=>?_⟩;rw[e0,Z03 o _ 0 cells (by simp;omega),Zit _ _ _ (by omega)];simp only[Nat.add_zero,Array.length_toList,z1,z2];split
   ·rename_i hh;have:=And.intro (z4 (j-o) (by omega)) (z3 (j-o) (by omega))
    simpa[Zx6]using this
   ·exact hr j hj
  obtain⟨c1,c2⟩:=hnew _ rfl;obtain⟨out,r1,r2,r3,r4⟩:=Zk1 he place ps qs _ (overlay cs o (va.ev e).cells) (by simpa using hl) (fun i=>by simpa using hp (i+1)) (by rw[hL];exact c1) (by rw[hL];exact c2) (by rw[hL];exact hok);rw[hL]at r2 r3 r4;exact⟨out,r1,r2,r3,r4⟩
end pure
end Go.VM
