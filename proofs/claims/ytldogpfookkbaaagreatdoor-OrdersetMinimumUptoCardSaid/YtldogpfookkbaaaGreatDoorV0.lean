import Derived.Test.YtldogpfookkbaaaGreatDoorVmAj
import Derived.Test.YtldogpfookkbaaaGreatDoorChecked
set_option linter.all false
namespace Go.VM
open Go
theorem Xdn{cap:List PV}{j:Nat}(hj:j<cap.length):PV.nth cap j∈cap:=by
 simp[PV.nth,Zx1,hj]
theorem Zbr{f:Fn}{cap:List PV}(h:Za8 cap):Closed (.fn f [] cap):=fun g v hv=>by
 cases hv with
 |fn f fs cs pf pc h1 h2 hf hc=>exact .fn f fs cs [] cap h1 h2 (fun j hj=>by simp at hj) (fun j hj=>h _ (Xdn hj) g _ (hc j hj))
def Zuh{α:Type}(p:α→Bool)(l:List α):Int:=if l.any p then(l.findIdx p:Int)else -1
theorem Zix{α:Type}(p:α→Bool)(l:List α)(k:Nat)(hk:k<l.length)(hpre:∀(j:Nat) (hj:j<l.length),j<k→p l[j]=false)(h:p l[k]=true):Zuh p l=(k:Int):=by
 have e:l.findIdx p=k:=(List.findIdx_eq hk).2 ⟨h,fun j hj=>by rw[hpre j (by omega) hj]⟩;unfold Zuh;rw[if_pos (List.any_eq_true.2 ⟨_,Zyl hk,h⟩),e]
theorem Zew{α:Type}(p:α→Bool)(l:List α)(h:∀(j:Nat) (hj:j<l.length),p l[j]=false):Zuh p l= -1:=by
 unfold Zuh;rw[if_neg];intro ha;obtain⟨x,hx,hp⟩:=List.any_eq_true.1 ha;obtain⟨j,hj,rfl⟩:=List.mem_iff_getElem.1 hx;rw[h j hj]at hp;cases hp
theorem Zgf{α:Type}(p:α→Bool)(l:List α):decide ((0:Int)≤Zuh p l)=l.any p:=by
 unfold Zuh;cases h:l.any p with
 |true=>rw[if_pos rfl];exact Vt
 |false=>rfl
theorem ad1{a:Nat}(h:a≤1000000000):IntKind.i64.wrap ((a:Int)+1)=((a+1:Nat):Int):=by rw[w64 (by omega) (by omega)];omega
structure Idt where
 act:Int
 item:Int
 n:Int
 deriving DecidableEq,Inhabited
def Idt.enc(x:Idt):List PV:=[pI x.act,pI x.item,pI x.n]
theorem Idt.closed(x:Idt):∀y∈x.enc,Closed y:=by
 intro y hy;simp only[Idt.enc,Zyb,Zya,or_false]at hy;rcases hy with rfl|rfl|rfl<;>exact cI _
theorem Z6h(x:Idt):List.take 3 x.enc=x.enc:=rfl
theorem Z6i(x:Idt):x.enc.length=3:=rfl
theorem Xab(x:Wd):List.take 4 x.enc=x.enc:=rfl
theorem Xac(x:Wd):x.enc.length=4:=rfl
theorem Zaq(x:Un):List.take 8 x.enc=x.enc:=by rw[Un.Zaf];rfl
theorem Zao(x:Un):x.enc.length=8:=by rw[Un.Zaf];rfl
mutual
def unitsT:Un→List Un
 | .mk a i n k l h w ks=> .mk a i n k l h w ks::unitsL ks
def unitsL:List Un→List Un
 | []=>[]
 |k::r=>unitsT k++unitsL r
end
theorem Zap(u:Un):unitsT u=u::unitsL u.kids:=by cases u;rw[unitsT];rfl
theorem Za5:∀l:List Un,unitsL l=l.flatMap unitsT
 | []=>by rw[unitsL];rfl
 |k::r=>by rw[unitsL,Za5 r,List.flatMap_cons]
theorem Zex{l:List Un}{k:Nat}(h:k<l.length):unitsL (l.take (k+1))=unitsL (l.take k)++unitsT l[k]:=by
 rw[Za5,Za5,List.take_add_one,Zye h,List.flatMap_append];simp
theorem Zey(l:List Un)(k:Nat):(unitsL (l.take k)).length≤(unitsL l).length:=by
 have:unitsL l=unitsL (l.take k)++unitsL (l.drop k):=by rw[Za5,Za5,Za5,←List.flatMap_append,List.take_append_drop]
 rw[this];simp
theorem Zeo(u:Un):1≤(unitsT u).length:=by rw[Zap];simp
theorem Zgg:∀l:List Un,l.length≤(unitsL l).length
 | []=>by simp[unitsL]
 |k::r=>by rw[unitsL,Zx5,Zyd];have:=Zeo k;have:=Zgg r;omega
theorem Zbk{l:List Un}{k:Un}(h:k∈l):(unitsT k).length≤(unitsL l).length:=by
 induction l with
 |nil=>cases h
 |cons a r ih=>
  rw[unitsL,Zx5];rcases List.mem_cons.1 h with rfl|h
  ·omega
  ·have:=ih h;omega
theorem Zft(p:Un→Bool)(u:Un):(unitsT u).all p=(p u&&u.kids.all fun k=>(unitsT k).all p):=by
 rw[Zap,List.all_cons,Za5,List.all_flatMap]
theorem Za0(u:Un):u∈unitsT u:=by rw[Zap];exact List.mem_cons_self
theorem Zbq{u k x:Un}(hk:k∈u.kids)(hx:x∈unitsT k):x∈unitsT u:=by
 rw[Zap,Za5];exact Zx7 _ (List.mem_flatMap.2 ⟨k,hk,hx⟩)
def Zcb(f:Un→Int→Int)(m:Int)(n:Int)(k:Un):Int:=if n≤m then n+f k (m-n)else n
def Zic:Nat→Un→Int→Int
 |0,_,m=>m+1
 |d+1,u,m=>u.kids.foldl (Zcb (Zic d) m) 1
theorem Zsg{f:Un→Int→Int}{m:Int}(hf:∀k m',0≤m'→1≤f k m'∧f k m'≤m'+1):∀(l:List Un) (n:Int),1≤n→n≤m+1→n≤l.foldl (Zcb f m) n∧l.foldl (Zcb f m) n≤m+1
 | [],n,_,h2=>⟨Int.le_refl _,h2⟩
 | k::r,n,h1,h2=>by
  rw[List.foldl_cons];have hs:n≤Zcb f m n k∧Zcb f m n k≤m+1:=by
   unfold Zcb;split
   ·have:=hf k (m-n) (by omega);omega
   ·exact⟨Int.le_refl _,h2⟩
  have:=Zsg hf r (Zcb f m n k) (by omega) hs.2;omega
theorem Zsh:∀(d:Nat) (u:Un) (m:Int),0≤m→1≤Zic d u m∧Zic d u m≤m+1
 |0,_,m,h=>by unfold Zic;omega
 |d+1,u,m,h=>by
  have:=Zsg (m:=m) (fun k m' h'=>Zsh d k m' h') u.kids 1 (Int.le_refl _) (by omega);rw[Zic];exact this
theorem Z3e(f:Un→Int→Int)(m:Int){l:List Un}{k:Nat}(h:k<l.length):(l.take (k+1)).foldl (Zcb f m) 1=Zcb f m ((l.take k).foldl (Zcb f m) 1) l[k]:=by
 rw[List.take_add_one,Zye h,List.foldl_append];rfl
theorem Zfu(f:Un→Int→Int)(m:Int):∀(l:List Un) (n:Int),m<n→l.foldl (Zcb f m) n=n
 | [],_,_=>rfl
 |k::r,n,h=>by
  rw[List.foldl_cons];have:Zcb f m n k=n:=by unfold Zcb;rw[if_neg (by omega)]
  rw[this];exact Zfu f m r n h
theorem Znz{f:Un→Int→Int}{m:Int}(hf:∀k m',0≤m'→1≤f k m'):∀(l:List Un) (n:Int),l.foldl (Zcb f m) n≤m→n+l.length≤l.foldl (Zcb f m) n
 | [],n,_=>by simp
 | k::r,n,h=>by
  rw[List.foldl_cons]at h⊢;by_cases hn:n≤m
  ·have e:Zcb f m n k=n+f k (m-n):=by unfold Zcb;rw[if_pos hn]
   have h1:=hf k (m-n) (by omega);have:=Znz hf r (Zcb f m n k) h;rw[Zyd]
   push_cast
   omega
  ·have e:Zcb f m n k=n:=by unfold Zcb;rw[if_neg hn]
   rw[e,Zfu f m r n (by omega)]at h;omega
theorem Zn0:∀(d:Nat) (u:Un) (m:Int),0≤m→Zic d u m≤m→((unitsT u).length:Int)=Zic d u m
 |0,u,m,_,h=>by unfold Zic at h;omega
 | d+1,u,m,h0,h=>by
  have hb:=fun k m' h=>Zsh d k m' h;have ih:=fun k m' a b=>Zn0 d k m' a b;rw[Zic]at h⊢;rw[Zap];generalize Zic d=f at hb ih h⊢;have key:∀(l:List Un) (n:Int),1≤n→l.foldl (Zcb f m) n≤m→n+((unitsL l).length:Int)=l.foldl (Zcb f m) n:=by
   intro l
   induction l with
   |nil=>intro n _ _;simp[unitsL]
   | cons k r ihr=>
    intro n hn hle;rw[List.foldl_cons]at hle⊢;by_cases hnm:n≤m
    ·have e:Zcb f m n k=n+f k (m-n):=by unfold Zcb;rw[if_pos hnm]
     have h1:=hb k (m-n) (by omega);have hmono:Zcb f m n k≤r.foldl (Zcb f m) (Zcb f m n k):=by
      by_cases hgt:m<Zcb f m n k
      ·rw[Zfu f m r _ hgt];exact Int.le_refl _
      ·have:=Znz (f:=f) (m:=m) (fun k m' h=>(hb k m' h).1) r (Zcb f m n k) hle;omega
     have h2:=ihr (Zcb f m n k) (by omega) hle;have h3:=ih k (m-n) (by omega) (by omega);rw[unitsL,Zx5]
     push_cast
     omega
    ·have e:Zcb f m n k=n:=by unfold Zcb;rw[if_neg hnm]
     rw[e,Zfu f m r n (by omega)]at hle;omega
  have:=key u.kids 1 (Int.le_refl _) h;rw[Zyd]
  push_cast
  omega
def Zg8(l:List Wd):Bool:=(l.all fun w=>decide (w.text.length≤100))&&decide (l.length≤300)
def Zui(u:Un):Bool:=decide (u.label.length≤30)&&(Zg8 u.head&&Zg8 u.words)
def Zjv(u:Un):Bool:=(unitsT u).all Zui
def Z3f(u:Un)(m:Int):Bool:=decide (Zic 21 u m≤m)&&Zjv u
structure WdB (w:Wd):Prop where
 text:w.text.length≤1048576
 ok:i64 w.act∧i64 w.item∧i64 w.at'
inductive UnB:Un→Prop
 |mk (u:Un) (h:i64 u.act∧i64 u.item∧i64 u.n∧i64 u.kind) (hl:u.label.length≤1048576) (hh:u.head.length≤1048576∧ ∀w∈u.head,WdB w) (hw:u.words.length≤1048576∧ ∀w∈u.words,WdB w) (hk:u.kids.length≤1048576) (hs:∀k∈u.kids,UnB k):UnB u
structure SmU (u:Un):Prop where
 ok:i64 u.act∧i64 u.item∧i64 u.n∧i64 u.kind
 label:u.label.length≤30
 head:u.head.length≤300∧ ∀w∈u.head,w.text.length≤100
 words:u.words.length≤300∧ ∀w∈u.words,w.text.length≤100
inductive SmT:Un→Prop
 |mk (u:Un) (h:SmU u) (hk:u.kids.length≤1000) (hs:∀k∈u.kids,SmT k):SmT u
theorem SmT.u{u:Un}(h:SmT u):SmU u:=by cases h with|mk _ h _ _=>exact h
theorem SmT.kids{u:Un}(h:SmT u):u.kids.length≤1000∧∀k∈u.kids,SmT k:=by cases h with|mk _ _ hk hs=>exact⟨hk,hs⟩
theorem SmT.units{u:Un}(h:SmT u):∀x∈unitsT u,SmT x:=by
 induction h with
 |mk u h hk hs ih=>
  intro x hx;rw[Zap]at hx;rcases List.mem_cons.1 hx with rfl|hx
  ·exact .mk _ h hk hs
  ·rw[Za5]at hx;obtain⟨k,h1,h2⟩:=List.mem_flatMap.1 hx;exact ih k h1 x h2
theorem Zqw{l:List Wd}:Zg8 l=true↔l.length≤300∧∀w∈l,w.text.length≤100:=by
 unfold Zg8;simp only[Zx4,Zx3,List.all_eq_true];exact⟨fun h=>⟨h.2,h.1⟩,fun h=>⟨h.2,h.1⟩⟩
theorem smT_of{u:Un}(hu:UnB u)(hn:(unitsT u).length≤1000)(hw:Zjv u=true):SmT u:=by
 induction hu with
 |mk u h hl hh hww hk hs ih=>
  unfold Zjv at hw;rw[Zft]at hw;simp only[Zx4,Zui,Zx3,List.all_eq_true (l:=u.kids)]at hw;obtain⟨⟨h1,h2,h3⟩,h4⟩:=hw;rw[Zap,Zyd]at hn;have:=Zgg u.kids;exact .mk u ⟨h,h1,Zqw.1 h2,Zqw.1 h3⟩ (by omega) fun k hkk=>ih k hkk (by have:=Zbk hkk;omega) (h4 k hkk)
theorem Zg9{u:Un}{m:Int}(hu:UnB u)(h0:0≤m)(h1:m≤1000)(h:Z3f u m=true):SmT u∧((unitsT u).length:Int)≤m:=by
 unfold Z3f at h;simp only[Zx4,Zx3]at h;have:=Zn0 21 u m h0 h.1;exact⟨smT_of hu (by omega) h.2,by omega⟩
mutual
def depthT:Un→Nat
 | .mk _ _ _ _ _ _ _ ks=>depthL 0 ks
def depthL:Nat→List Un→Nat
 |d,[]=>d
 |d,k::r=>depthL (max d (1+depthT k)) r
end
def dpF(d:Nat)(k:Un):Nat:=max d (1+depthT k)
theorem Zn1:∀(l:List Un) (d:Nat),depthL d l=l.foldl dpF d
 | [],d=>by rw[depthL];rfl
 |k::r,d=>by rw[depthL,Zn1 r];rfl
theorem Zha(u:Un):depthT u=u.kids.foldl dpF 0:=by cases u;rw[depthT,Zn1];rfl
theorem Z1k:∀(l:List Un) (d m:Nat),d≤m→(∀k∈l,1+depthT k≤m)→l.foldl dpF d≤m
 | [],d,m,h,_=>h
 |k::r,d,m,h,hk=>by
  rw[List.foldl_cons];refine Z1k r _ m ?_ (fun x hx=>hk x (Zx7 _ hx));have:=hk k List.mem_cons_self;unfold dpF;omega
theorem Zjw{u:Un}(h:SmT u):depthT u+1≤(unitsT u).length:=by
 induction h with
 |mk u h hk hs ih=>
  rw[Zha,Zap,Zyd];have:=Z1k u.kids 0 (unitsL u.kids).length (Zyw _) (fun k hk=>by have:=ih k hk;have:=Zbk hk;omega);omega
theorem Z1l{l:List Un}{k:Nat}(h:k<l.length):(l.take (k+1)).foldl dpF 0=max ((l.take k).foldl dpF 0) (1+depthT l[k]):=by
 rw[List.take_add_one,Zye h,List.foldl_append];rfl
def idU(u:Un):Idt:=⟨u.act,u.item,u.n⟩
def Zbc(u:Un):List Idt:=(unitsT u).map idU
theorem Zld(u:Un):Zbc u=idU u::(unitsL u.kids).map idU:=by unfold Zbc;rw[Zap];rfl
theorem Zhy(l:List Idt):Closed (.sl 3 (l.map Idt.enc)):=Zaj fun u _ y hy=>Idt.closed u y hy
end Go.VM
