import Derived.Test.YtldogpfookkbaaaGreatDoorC7
import Derived.Test.YtldogpfookkbaaaGreatDoorVmAm
import Derived.Test.YtldogpfookkbaaaGreatDoorVmBa
import Derived.Test.YtldogpfookkbaaaGreatDoorVmC
import Derived.Test.YtldogpfookkbaaaGreatDoorVmZ
import Derived.Test.YtldogpfookkbaaaGreatDoorRows
import Derived.Test.YtldogpfookkbaaaGreatDoorChecked
import Derived.Lib.LaidTab
import Derived.LaidSub
import Derived.KernelRfl
import Derived.OpenShut
import Derived.LaidMore
import Derived.LaidHandle
set_option linter.all false
set_option maxRecDepth 20000
set_option maxHeartbeats 0
namespace Go.VM
open Go
def mpZ (l:List Int):List (PV×PV):=l.map fun x=>(pI x,.bool true)
theorem mpZ_len (l:List Int):(mpZ l).length=l.length:=List.length_map _
theorem keyEq_pI (a b:Int):keyEq (pI a) (pI b)=(a==b):=by simp [keyEq,PV.cells,Zai,Za6]
theorem mapPut_mpZ {x:Int}:∀ {l:List Int},x ∉ l→mapPut (pI x) (.bool true) (mpZ l)=mpZ (l++[x])
 | [],_=>rfl
 | a::r,h=>by
  have ih:=mapPut_mpZ (x:=x) (l:=r) (fun hh=>h (List.mem_cons_of_mem _ hh));have e:(x==a)=false:=by rw [beq_eq_false_iff_ne];rintro rfl;exact h List.mem_cons_self
  unfold mpZ at *;simp only [List.map_cons,mapPut,keyEq_pI,e,Bool.false_eq_true,if_false,List.cons_append];rw [ih]
theorem mapFind_mpZ (x:Int):∀ l:List Int,Zbh (pI x) (mpZ l)=if x∈l then some (.bool true) else none
 | []=>rfl
 | a::r=>by
  have ih:=mapFind_mpZ x r;unfold mpZ at *;simp only [List.map_cons,Zbh,keyEq_pI];by_cases e:x=a
  ·subst e;simp
  ·have e2:(x==a)=false:=by simpa using e
   rw [e2];simp only [Bool.false_eq_true,if_false];rw [ih];by_cases h:x∈r
   ·rw [if_pos h,if_pos (List.mem_cons_of_mem _ h)]
   ·rw [if_neg h,if_neg (by rw [List.mem_cons];rintro (h3|h3);exact e h3;exact h h3)]
theorem keysOk_mpZ (x:Int) (l:List Int):keysOk (.one .i) (pI x) (mpZ l):=by
 refine ⟨rfl,fun p hp=>?_⟩;simp only [mpZ,List.mem_map] at hp;obtain ⟨y,_,rfl⟩:=hp;rfl
theorem keysFlat_mpZ (l:List Int):keysFlat (mpZ l):=fun p hp=>by
 simp only [mpZ,List.mem_map] at hp;obtain ⟨y,_,rfl⟩:=hp;rfl
theorem mpZ_at {l:List Int} {i:Nat} (h:i<(mpZ l).length):(mpZ l)[i]=(pI (l[i]'(by rw [mpZ_len] at h;exact h)),.bool true):=by simp [mpZ]
theorem closed_mpZ (l:List Int):Closed (.rmp (mpZ l)):=closed_rmp fun e he=>by
 simp only [mpZ,List.mem_map] at he;obtain ⟨y,_,rfl⟩:=he;exact ⟨cI _,cB _⟩
theorem seen_len {seen:List Nat} {n:Nat} (h:seen.Nodup) (hb:∀ i∈seen,i<n):seen.length≤n:=by
 have:=List.Nodup.length_le_of_subset h (l₂:=List.range n) (fun i hi=>List.mem_range.2 (hb i hi))
 simpa using this
theorem ahP_at {l:List Int} {x:Int} {k:Nat} (hk:k<l.length) (h:l[k]=x) (hpre:∀ (j:Nat) (hj:j<l.length),j<k→l[j]≠x):ahP l x=l.take k:=by
 have hm:x∈l:=h▸List.getElem_mem hk;have:=plP_at hk h hpre;unfold plP at this;rw [if_pos hm] at this;unfold ahP;rw [if_pos hm,show l.idxOf x=k by omega]
theorem ahP_no {l:List Int} {x:Int} (hpre:∀ (j:Nat) (hj:j<l.length),l[j]≠x):ahP l x=[]:=by
 unfold ahP;rw [if_neg];intro hm;obtain ⟨j,hj,h⟩:=List.getElem_of_mem hm;exact hpre j hj h
theorem nd_take {l:List Int} (h:l.Nodup) {k:Nat} (hk:k<l.length):l[k] ∉ l.take k:=by
 intro hm;obtain ⟨j,hj,e⟩:=List.getElem_of_mem hm;rw [List.length_take] at hj;rw [List.getElem_take] at e;have:=(List.getElem_inj h).1 e;omega
end Go.VM
namespace Go.Proofs.YtldogpfookkbaaaGreatDoor.w
open Go Go.VM
def c_pandectlaw38_ahead:VC:=(ZR [ZO 4 (.mv (.c .nilmp))] (ZR [ZO 7 .mkmap,ZM 5 7] (.seq (ZR [ZO 6 (.mv (.c (.int .i64 0)))] (.block 0 (.loop (.seq (ZR [ZM 8 6,ZM 9 0,ZO 10 (.len false (.t 9)),ZO 11 (.bin .lss (.t 8) (.t 10))] (.cond (.t 11) .skip (.exit 0))) (.seq (.block 1 (.seq (ZR [ZM 14 0,ZM 15 6,ZO 16 (.iaddr 1 (.t 14) (.t 15)),ZO 17 (.load false 1 (.t 16)),ZM 18 1,ZO 19 (.bin .eql (.t 17) (.t 18))] (.cond (.t 19) (ZR [ZM 20 5,ZM 4 20] .ret) .skip)) (.region [ZM 21 5,ZM 22 0,ZM 23 6,ZO 24 (.iaddr 1 (.t 22) (.t 23)),ZO 25 (.load false 1 (.t 24)),ZN (.mapset (.one .i) (.t 21) (.t 25) (.c (.bool true)))] false))) (.region [ZM 12 6,ZO 13 (.bin .add (.t 12) (.c (.int .i64 1))),ZM 6 13] false)))))) (ZR [ZO 26 .mkmap,ZM 4 26] .ret))))
def c_pandectlaw38_same : VC := (ZR [ZO 4 (.mv (.c (.bool false)))] (.seq (ZR [ZM 6 0,ZO 7 (.mlen (.t 6)),ZM 8 1,ZO 9 (.mlen (.t 8)),ZO 10 (.bin .neq (.t 7) (.t 9))] (.cond (.t 10) (ZR [ZO 4 (.mv (.c (.bool false)))] .ret) .skip)) (.seq (ZR [ZM 11 0,ZO 12 (.other ({ dst := some 12,op := Op.range 31 (Operand.tmp 11),type := 0,pos := "law.go:78",after := #[{ on := 0,ground := Ground.data }],guard := none } : Oper))] (.block 0 (.loop (ZR [ZO 13 (.other ({ dst := some 13,op := Op.next (Operand.tmp 12) false,type := 0,pos := "law.go:78",after := #[],guard := none } : Oper)),ZO 14 (.ext (.t 13) 0)] (.seq (.cond (.t 14) .skip (.exit 0)) (.block 1 (ZR [ZO 15 (.other ({ dst := some 15,op := Op.entry (Operand.tmp 12),type := 0,pos := "law.go:78",after := #[],guard := none } : Oper)),ZO 16 (.ext (.t 15) 0),ZM 5 16] (ZR [ZM 17 1,ZM 18 5,ZO 19 (.lookup (.one .i) (.bool false) false (.t 17) (.t 18)),ZO 20 (.un .not (.t 19))] (.cond (.t 20) (ZR [ZO 4 (.mv (.c (.bool false)))] .ret) .skip))))))))) (ZR [ZO 4 (.mv (.c (.bool true)))] .ret))))
theorem sp_ahead (l:List Int) (x:Int) (hn:l.Nodup) (hl:l.length≤1000000):Zan Tryz.prog 16 [.sl 1 (zR l),pI x] (.rmp (mpZ (ahP l x))):=by
 have hlen:=zR_len l;refine Zag ?_ (closed_mpZ _) (by intro y hy;simp only [List.mem_cons,List.not_mem_nil,or_false] at hy;rcases hy with rfl|rfl;exact Zaz _;exact cI _);refine Gn (vc:=c_pandectlaw38_ahead) [.t 4] Tryz.func16 ?_;unfold c_pandectlaw38_ahead;try dsimp only [ZM,ZO,ZN,ZG,ZR,ZU]
 refine Rp0 [0,1] ?_;refine Rp0 [0,1,5] ?_;refine Zac ?_;refine Rp0 [0,1,5,6] ?_;refine Zad ?_;refine Zbc (σ:={ k:Nat//k≤l.length∧∀ (j:Nat) (hj:j<l.length),j<k→l[j]≠x }) (fun k=>([(0,.sl 1 (zR l)),(1,pI x),(5,.mp 0),(6,pI k.1)],⟨[(0,.map (mpZ (l.take k.1)))],1⟩)) (fun k=>l.length-k.1) ⟨0,Nat.zero_le _,fun j _ h=>by cases h⟩ ?_ ?_ ?_
 ·exact Fn0
 ·simp only [vmL,Nat.reduceEqDiff,Nat.reduceAdd,Nat.reduceLT,Nat.reduceLeDiff,Nat.reduceSub,Nat.reduceMul,reduceIte,reduceCtorEq,Int.reduceToNat,List.take_zero,mpZ,List.map_nil]
  try trivial
 rintro ⟨k,hk,hpre⟩;simp only [];refine Zac ?_;refine Rp1 [0,1,5,6,11] hlen ?_;refine Zap rfl (fun h1=>?_) (fun h1=>?_)
 ·have ka:k<l.length:=by simp only [decide_eq_true_eq] at h1;omega
  have hrow:=zR_at ka;have hnt:=nd_take hn ka;have hput:=mapPut_mpZ hnt;have hkeys:=keysOk_mpZ l[k] (l.take k);have htk:l.take (k+1)=l.take k++[l[k]]:=by rw [List.take_add_one,List.getElem?_eq_getElem ka];rfl
  rw [← htk] at hput;generalize hx:l[k]=y at hrow hput hkeys;refine Kp0 ?_;refine Zac ?_;refine Zad ?_;refine Zac ?_;refine Rp1 [0,1,5,6,19] (x2 hlen hrow) ?_;refine Ok ?_;refine Zap rfl (fun h2=>?_) (fun h2=>?_)
  ·have e:y=x:=by simpa using h2
   refine Rp0 [4] ?_;refine Tp0 ?_;rw [ahP_at ka (hx.trans e) hpre];exact View.map (by simp [Heap.get,HL.get]) rfl (fun i a b h1 h2=>by rw [h1] at h2;cases h2;exact ⟨View.refl _ _,View.refl _ _⟩)
  have e:y≠x:=by simpa using h2
  refine Kp0 ?_;refine Zay [0,1,5,6] ?_;simp only [OpsW_nil,OpsW_n,OpsW_y,OpsW_xt,OpsW_xf,OpsW_u,Zah,guardOf,DrawW_nil,DrawW_n,DrawW_y,DrawW_xt,DrawW_xf,DrawW_u,DrawH,VOp.isIaddr,QW,dok,dval,VOp.pure,VOp.simple,VOp.det,pok,pval,VA.ev,Env.get,Env.put,Env.keep,Zbt,thenQ,blockQ,retQ,resV,resOk,RS.ev,RS.ok,gd,pickV,isBool,aggV,intV,binV,Zbn,strV,binbV,boolV,binbOk,unV,unOk,convV,isInt,isStr,numOf,loV,hiV,lenV,Zbr,sliceV,sliceOk,faddrV,isAddr,Zau,locOk,Zaj,isAggP,iaddrV,iaddrOk,idxV,idxOk,lenOk,extV,extOk,fillV,fillOk,mmV,PV.cells,PV.fits,overlay,PV.nth,PV.row,lookV,Za2,mapOk,keyOk,keyEq,Zbh,mapHas,Zbi,Heap.get,Heap.set,Heap.del,Heap.le,HL.get,HL.set,HL.del,HL.le,Heap.push,Heap.nil,Nat.le_refl,Nat.add_eq_left,Nat.left_eq_add,Nat.succ_ne_self,Nat.one_ne_zero,Env.le,Zav,oldId,Za3,oldOk,Zam,srcOk,Za4,Zbb,eqOk,ekOk,Zai,Za6,Zbo,storeOk,AB.live,pxV,pxOk,fxV,fxOk,isPtr,slLike,isNil,notNil,List.map,List.set,List.replicate,List.length,List.getD_cons_zero,List.getD_cons_succ,List.getD_nil,List.take,List.drop,List.take_zero,List.drop_zero,List.take_succ_cons,List.drop_succ_cons,List.append,List.cons_append,List.nil_append,Option.map,Nat.reduceEqDiff,Nat.reduceAdd,Nat.reduceLT,Nat.reduceLeDiff,Nat.reduceSub,Nat.reduceMul,reduceIte,Bool.false_eq_true,Bool.true_eq_false,ite_true,ite_false,if_true,if_false,true_and,and_true,implies_true,forall_const,ne_eq,not_false_eq_true,reduceCtorEq,BEq.rfl,beq_self_eq_true,Option.some.injEq,Nat.zero_add,Nat.add_zero,List.length_cons,List.length_nil,true_implies,imp_self,Int.reduceToNat,Int.toNat_natCast,Bool.not_false,Bool.not_true,hlen,hrow,hput,hkeys];refine Ok ?_;refine rp1 [0,1,5,6] (ad1 (a:=k) (by omega)) ?_;refine ⟨⟨k+1,ka,fun j hj hj2=>?_⟩,?_⟩
  ·by_cases e2:j=k
   ·subst e2;rw [hx];exact e
   ·exact hpre j hj (by omega)
  ·exact Fn0
 ·have ka:k=l.length:=by simp only [decide_eq_false_iff_not] at h1;omega
  subst ka;refine Ep0 ?_;refine Rp0 [4] ?_;refine Tp0 ?_;rw [ahP_no (fun j hj=>hpre j hj hj)];have e0:mpZ []=[]:=rfl;rw [e0];exact View.map (by simp [Heap.get,HL.get]) rfl (fun i a b h1 h2=>by rw [h1] at h2;cases h2;exact ⟨View.refl _ _,View.refl _ _⟩)
theorem sp_same (a b:List Int) (ha:a.length≤1000000) (hb:b.length≤1000000):Zan Tryz.prog 15 [.rmp (mpZ a),.rmp (mpZ b)] (.bool (sameP a b)):=by
 have hla:=mpZ_len a;have hlb:=mpZ_len b;refine Zag ?_ (cB _) (by intro y hy;simp only [List.mem_cons,List.not_mem_nil,or_false] at hy;rcases hy with rfl|rfl;exact closed_mpZ _;exact closed_mpZ _);refine Gn (vc:=c_pandectlaw38_same) [.t 4] Tryz.func15 ?_;unfold c_pandectlaw38_same;try dsimp only [ZM,ZO,ZN,ZG,ZR,ZU]
 refine Rp0 [0,1] ?_;refine Zac ?_;refine Rp1 [0,1,10] (x2 hla hlb) ?_;refine Zap rfl (fun h1=>?_) (fun h1=>?_)
 ·have e:¬ a.length=b.length:=by simp only [bne_iff_ne,ne_eq] at h1;intro e;apply h1;rw [e]
  refine Rp0 [4] ?_;refine Tp0 ?_;unfold sameP;rw [decide_eq_false e];exact View.refl _ _
 have hle:a.length=b.length:=by have:(a.length:Int)=b.length:=(by simpa using h1);omega
 refine Kp0 ?_;refine Zac ?_;refine Rp0 [1,12] ?_;refine OpS_rangeR (es:=mpZ a) rfl Tryz.underlying31 rfl rfl (keysFlat_mpZ a) ?_;refine Sp0 ?_;refine Zad ?_;refine Zbc (σ:={ s:List Nat//s.Nodup∧(∀ i∈s,i<a.length)∧∀ i∈s,∀ h:i<a.length,a[i]∈b }) (fun s=>([(1,.rmp (mpZ b)),(12,.loc 0 0 0)],⟨[(0,.miter (mpZ a) s.1)],1⟩)) (fun s=>a.length-s.1.length) ⟨[],.nil,by simp,by simp⟩ ?_ ?_ ?_
 ·exact Fn0
 ·simp only [vmL,Nat.reduceEqDiff,Nat.reduceAdd,Nat.reduceLT,Nat.reduceLeDiff,Nat.reduceSub,Nat.reduceMul,reduceIte,reduceCtorEq,Int.reduceToNat]
  try trivial
 rintro ⟨seen,hsn,hsb,hin⟩;simp only [];have hsl:=seen_len hsn hsb;refine Rp0 [1,12,14] ?_;refine OpS_next (es:=mpZ a) (seen:=seen) rfl rfl rfl (by simp [Heap.get,HL.get]) (fun hall=>?_) (fun i hi hns=>?_)
 ·refine Sp0 ?_;refine Zac ?_;refine Zap (b:=false) rfl (fun h=>by cases h) (fun _=>?_);refine Ep0 ?_;refine Rp0 [4] ?_;refine Tp0 ?_;have e:sameP a b=true:=by
   unfold sameP;rw [decide_eq_true hle,Bool.true_and,List.all_eq_true];intro x hx;obtain ⟨j,hj,rfl⟩:=List.getElem_of_mem hx;rw [List.contains_iff_mem];exact hin j (hall j (by rw [mpZ_len];exact hj)) hj
  rw [e];exact View.refl _ _
 ·have hi':i<a.length:=by rw [mpZ_len] at hi;exact hi
  have hea:=mpZ_at hi;rw [hea];have hmf:=mapFind_mpZ a[i] b;have hko:=keysOk_mpZ a[i] b;have hsn2:(seen++[i]).Nodup:=by
   rw [List.nodup_append];exact ⟨hsn,by simp,fun p hp q hq=>by rw [List.mem_singleton] at hq;rw [hq];exact fun e=>hns (e▸hp)⟩
  have hsb2:∀ j∈seen++[i],j<a.length:=fun j hj=>by
   rcases List.mem_append.1 hj with h|h
   ·exact hsb j h
   ·rw [List.mem_singleton] at h;omega
  have hsl2:=seen_len hsn2 hsb2;rw [List.length_append,List.length_singleton] at hsl2;have hget:a[i]∈b→∀ j∈seen++[i],∀ h:j<a.length,a[j]∈b:=fun hm j hj h=>by
   rcases List.mem_append.1 hj with h2|h2
   ·exact hin j h2 h
   ·rw [List.mem_singleton] at h2;subst h2;exact hm
  have hno:a[i] ∉ b→sameP a b=false:=fun hm=>by
   unfold sameP;rw [Bool.and_eq_false_iff];refine .inr (List.all_eq_false.2 ⟨a[i],List.getElem_mem hi',?_⟩);rw [List.contains_iff_mem];exact hm
  generalize a[i]=x at *;refine Sp0 ?_;refine Zac ?_;refine Zap (b:=true) rfl (fun _=>?_) (fun h=>by cases h);refine Kp0 ?_;refine Zad ?_;refine Rp0 [1,5,12] ?_;refine OpS_entry (es:=mpZ a) (seen:=seen) (i:=i) rfl rfl rfl (by simp [Heap.get,HL.get]) hi ?_;rw [hea];refine Sp0 ?_;by_cases hm:x∈b
  ·rw [if_pos hm] at hmf;refine Zac (Zay [1,12,20] ?_);simp only [OpsW_nil,OpsW_n,OpsW_y,OpsW_xt,OpsW_xf,OpsW_u,Zah,guardOf,DrawW_nil,DrawW_n,DrawW_y,DrawW_xt,DrawW_xf,DrawW_u,DrawH,VOp.isIaddr,QW,dok,dval,VOp.pure,VOp.simple,VOp.det,pok,pval,VA.ev,Env.get,Env.put,Env.keep,Zbt,thenQ,blockQ,retQ,resV,resOk,RS.ev,RS.ok,gd,pickV,isBool,aggV,intV,binV,Zbn,strV,binbV,boolV,binbOk,unV,unOk,convV,isInt,isStr,numOf,loV,hiV,lenV,Zbr,sliceV,sliceOk,faddrV,isAddr,Zau,locOk,Zaj,isAggP,iaddrV,iaddrOk,idxV,idxOk,lenOk,extV,extOk,fillV,fillOk,mmV,PV.cells,PV.fits,overlay,PV.nth,PV.row,lookV,Za2,mapOk,keyOk,keyEq,Zbh,mapPut,mapHas,Zbi,Heap.get,Heap.set,Heap.del,Heap.le,HL.get,HL.set,HL.del,HL.le,Heap.push,Heap.nil,Nat.le_refl,Nat.add_eq_left,Nat.left_eq_add,Nat.succ_ne_self,Nat.one_ne_zero,Env.le,Zav,oldId,Za3,oldOk,Zam,srcOk,Za4,Zbb,eqOk,ekOk,Zai,Za6,Zbo,storeOk,AB.live,pxV,pxOk,fxV,fxOk,isPtr,slLike,isNil,notNil,List.map,List.set,List.replicate,List.length,List.getD_cons_zero,List.getD_cons_succ,List.getD_nil,List.take,List.drop,List.take_zero,List.drop_zero,List.take_succ_cons,List.drop_succ_cons,List.append,List.cons_append,List.nil_append,Option.map,Nat.reduceEqDiff,Nat.reduceAdd,Nat.reduceLT,Nat.reduceLeDiff,Nat.reduceSub,Nat.reduceMul,reduceIte,Bool.false_eq_true,Bool.true_eq_false,ite_true,ite_false,if_true,if_false,true_and,and_true,implies_true,forall_const,ne_eq,not_false_eq_true,reduceCtorEq,BEq.rfl,beq_self_eq_true,Option.some.injEq,Nat.zero_add,Nat.add_zero,List.length_cons,List.length_nil,true_implies,imp_self,Int.reduceToNat,Int.toNat_natCast,Bool.not_false,Bool.not_true,hmf];refine ⟨hko,?_⟩;refine Zap (b:=false) rfl (fun h=>by cases h) (fun _=>?_);refine Kp0 ?_;refine ⟨⟨seen++[i],hsn2,hsb2,hget hm⟩,?_⟩;try simp only [vmL,Nat.reduceEqDiff,Nat.reduceAdd,Nat.reduceLT,Nat.reduceLeDiff,Nat.reduceSub,Nat.reduceMul,reduceIte,reduceCtorEq,Int.reduceToNat]
   all_goals (repeat' (first|rfl|trivial|omega|(simp only [];omega)|refine And.intro ?_ ?_))
   rw [List.length_append,List.length_singleton];omega
  ·rw [if_neg hm] at hmf;refine Zac (Zay [1,12,20] ?_);simp only [OpsW_nil,OpsW_n,OpsW_y,OpsW_xt,OpsW_xf,OpsW_u,Zah,guardOf,DrawW_nil,DrawW_n,DrawW_y,DrawW_xt,DrawW_xf,DrawW_u,DrawH,VOp.isIaddr,QW,dok,dval,VOp.pure,VOp.simple,VOp.det,pok,pval,VA.ev,Env.get,Env.put,Env.keep,Zbt,thenQ,blockQ,retQ,resV,resOk,RS.ev,RS.ok,gd,pickV,isBool,aggV,intV,binV,Zbn,strV,binbV,boolV,binbOk,unV,unOk,convV,isInt,isStr,numOf,loV,hiV,lenV,Zbr,sliceV,sliceOk,faddrV,isAddr,Zau,locOk,Zaj,isAggP,iaddrV,iaddrOk,idxV,idxOk,lenOk,extV,extOk,fillV,fillOk,mmV,PV.cells,PV.fits,overlay,PV.nth,PV.row,lookV,Za2,mapOk,keyOk,keyEq,Zbh,mapPut,mapHas,Zbi,Heap.get,Heap.set,Heap.del,Heap.le,HL.get,HL.set,HL.del,HL.le,Heap.push,Heap.nil,Nat.le_refl,Nat.add_eq_left,Nat.left_eq_add,Nat.succ_ne_self,Nat.one_ne_zero,Env.le,Zav,oldId,Za3,oldOk,Zam,srcOk,Za4,Zbb,eqOk,ekOk,Zai,Za6,Zbo,storeOk,AB.live,pxV,pxOk,fxV,fxOk,isPtr,slLike,isNil,notNil,List.map,List.set,List.replicate,List.length,List.getD_cons_zero,List.getD_cons_succ,List.getD_nil,List.take,List.drop,List.take_zero,List.drop_zero,List.take_succ_cons,List.drop_succ_cons,List.append,List.cons_append,List.nil_append,Option.map,Nat.reduceEqDiff,Nat.reduceAdd,Nat.reduceLT,Nat.reduceLeDiff,Nat.reduceSub,Nat.reduceMul,reduceIte,Bool.false_eq_true,Bool.true_eq_false,ite_true,ite_false,if_true,if_false,true_and,and_true,implies_true,forall_const,ne_eq,not_false_eq_true,reduceCtorEq,BEq.rfl,beq_self_eq_true,Option.some.injEq,Nat.zero_add,Nat.add_zero,List.length_cons,List.length_nil,true_implies,imp_self,Int.reduceToNat,Int.toNat_natCast,Bool.not_false,Bool.not_true,hmf];refine ⟨hko,?_⟩;refine Zap (b:=true) rfl (fun _=>?_) (fun h=>by cases h);refine Rp0 [4] ?_;refine Tp0 ?_;rw [hno hm];exact View.refl _ _
end Go.Proofs.YtldogpfookkbaaaGreatDoor.w
namespace Go.VM
open Go
theorem zR_app (a:List Int) (x:Int):zR (a++[x])=zR a++[[pI x]]:=by unfold zR;rw [List.map_append];rfl
theorem contains_step {L:List (List Int)} {i:Nat} (h:i<L.length) (b:List Int):(L.take (i+1)).contains b=((L.take i).contains b||decide (L[i]=b)):=by
 rw [Bool.eq_iff_iff,Bool.or_eq_true,decide_eq_true_eq,List.contains_iff_mem,List.contains_iff_mem,List.take_add_one,List.getElem?_eq_getElem h,List.mem_append];simp only [Option.toList_some,List.mem_singleton];exact ⟨fun hh=>hh.imp id Eq.symm,fun hh=>hh.imp id Eq.symm⟩
theorem nd_ord {l:List Int} {n:Nat} (h:ordB l n=true):l.Nodup∧l.length=n:=by
 have h1:=ord_nat h;have h2:=Zbm n _ h1.2;refine ⟨?_,by rw [← h1.1,nz_len];exact h1.2.1⟩;rw [← h1.1];unfold nz;refine List.Pairwise.map _ ?_ h2.1;intro a b hab e;exact hab (by omega)
end Go.VM
namespace Go.Proofs.YtldogpfookkbaaaGreatDoor.w
open Go Go.VM
def Zbe:VC:=(ZR [ZO 8 (.mv (.c (.bool false)))] (.seq (ZR [ZO 14 (.call 9 []),ZO 15 (.un .not (.t 14))] (.cond (.t 15) (ZR [ZO 8 (.mv (.c (.bool false)))] .ret) .skip)) (.seq (ZR [ZM 16 0,ZO 17 (.bin .lss (.t 16) (.c (.int .i64 0))),ZM 18 17,ZG 19 (.mv (.t 0)) 18 false,ZG 20 (.bin .gtr (.t 19) (.c (.int .i64 5))) 18 false,ZO 21 (.pick (.t 18) (.c (.bool true)) (.t 20)),ZM 22 21,ZG 23 (.mv (.t 1)) 22 false,ZG 24 (.len false (.t 23)) 22 false,ZG 25 (.bin .gtr (.t 24) (.c (.int .i64 20))) 22 false,ZO 26 (.pick (.t 22) (.c (.bool true)) (.t 25)),ZM 27 26,ZG 28 (.mv (.t 2)) 27 false,ZG 29 (.mv (.t 0)) 27 false,ZG 30 (.call 13 [.t 28,.t 29]) 27 false,ZG 31 (.un .not (.t 30)) 27 false,ZO 32 (.pick (.t 27) (.c (.bool true)) (.t 31))] (.cond (.t 32) (ZR [ZO 8 (.mv (.c (.bool true)))] .ret) .skip)) (ZR [ZM 33 0,ZM 34 1,ZM 35 2,ZO 36 (.call 11 [.t 33,.t 34,.t 35]),ZM 9 36] (ZR [ZO 10 (.mv (.c (.bool false)))] (.seq (ZR [ZO 11 (.mv (.c (.int .i64 0)))] (.block 0 (.loop (.seq (ZR [ZM 37 11,ZM 38 9,ZO 39 (.len false (.t 38)),ZO 40 (.bin .lss (.t 37) (.t 39))] (.cond (.t 40) .skip (.exit 0))) (.seq (.block 1 (.seq (ZR [ZM 43 9,ZM 44 11,ZO 45 (.iaddr 1 (.t 43) (.t 44)),ZO 46 (.load false 1 (.t 45)),ZM 47 0,ZO 48 (.call 13 [.t 46,.t 47]),ZO 49 (.un .not (.t 48))] (.cond (.t 49) (ZR [ZO 8 (.mv (.c (.bool false)))] .ret) .skip)) (ZR [ZM 50 10,ZM 51 50,ZG 52 (.mv (.t 9)) 51 false,ZG 53 (.mv (.t 11)) 51 false,ZG 54 (.iaddr 1 (.t 52) (.t 53)) 51 false,ZG 55 (.load false 1 (.t 54)) 51 false,ZG 56 (.mv (.t 2)) 51 false,ZG 57 (.call 14 [.t 55,.t 56]) 51 false,ZO 58 (.pick (.t 51) (.c (.bool true)) (.t 57)),ZM 10 58] (ZR [ZO 12 (.mv (.c (.int .i64 0)))] (.block 2 (.loop (.seq (ZR [ZM 59 12,ZM 60 1,ZO 61 (.len false (.t 60)),ZO 62 (.bin .lss (.t 59) (.t 61))] (.cond (.t 62) .skip (.exit 2))) (.seq (.block 3 (.seq (.region [ZM 65 9,ZM 66 11,ZO 67 (.iaddr 1 (.t 65) (.t 66)),ZO 68 (.load false 1 (.t 67)),ZM 69 1,ZM 70 12,ZO 71 (.iaddr 1 (.t 69) (.t 70)),ZO 72 (.load false 1 (.t 71)),ZO 73 (.call 16 [.t 68,.t 72]),ZM 74 2,ZM 75 1,ZM 76 12,ZO 77 (.iaddr 1 (.t 75) (.t 76)),ZO 78 (.load false 1 (.t 77)),ZO 79 (.call 16 [.t 74,.t 78]),ZO 80 (.call 15 [.t 73,.t 79]),ZO 81 (.un .not (.t 80))] true) (.cond (.t 81) (ZR [ZO 8 (.mv (.c (.bool false)))] .ret) .skip))) (.region [ZM 63 12,ZO 64 (.bin .add (.t 63) (.c (.int .i64 1))),ZM 12 64] false))))))))) (.region [ZM 41 11,ZO 42 (.bin .add (.t 41) (.c (.int .i64 1))),ZM 11 42] false)))))) (ZR [ZM 82 0,ZO 83 (.fx (.mk0 1) []),ZM 84 1,ZO 85 (.app 1 8 [.int .i64 0] false (.t 83) (.t 84)),ZM 86 3,ZO 87 (.bslice 1 1 [.int .i64 0] [(0,(.t 86))]),ZO 88 (.app 1 8 [.int .i64 0] false (.t 85) (.t 87)),ZM 89 2,ZO 90 (.call 11 [.t 82,.t 88,.t 89]),ZM 13 90] (ZR [ZM 91 10,ZM 92 91,ZG 93 (.mv (.t 13)) 92 true,ZG 94 (.len false (.t 93)) 92 true,ZG 95 (.mv (.t 9)) 92 true,ZG 96 (.len false (.t 95)) 92 true,ZG 97 (.bin .leq (.t 94) (.t 96)) 92 true,ZO 98 (.pick (.t 92) (.t 97) (.c (.bool false))),ZM 99 98,ZG 100 (.mv (.t 1)) 99 true,ZG 101 (.len false (.t 100)) 99 true,ZG 102 (.bin .gtr (.t 101) (.c (.int .i64 0))) 99 true,ZG 103 (.mv (.t 102)) 99 true,ZG 104 (.mv (.t 9)) 103 false,ZG 105 (.len false (.t 104)) 103 false,ZG 106 (.bslice 1 6 [.int .i64 0] [(0,(.c (.int .i64 1))),(1,(.c (.int .i64 1))),(2,(.c (.int .i64 2))),(3,(.c (.int .i64 6))),(4,(.c (.int .i64 24))),(5,(.c (.int .i64 120)))]) 103 false,ZG 107 (.mv (.t 0)) 103 false,ZG 108 (.iaddr 1 (.t 106) (.t 107)) 103 false,ZG 109 (.load false 1 (.t 108)) 103 false,ZG 110 (.bin .eql (.t 105) (.t 109)) 103 false,ZG 111 (.pick (.t 103) (.c (.bool true)) (.t 110)) 99 true,ZO 112 (.pick (.t 99) (.t 111) (.c (.bool false))),ZM 8 112] .ret))))))))
theorem sp_Order_any (l:List Int) (n:Int) (h5:n≤5) (hn:i64 n):Zan Tryz.prog 13 [.sl 1 (zR l),pI n] (.bool (ordB l n)):=by
 by_cases he:(l.length:Int)=n
 ·exact sp_Order l n (by omega) hn
 have hL:=zR_len l;refine Zag ?_ (cB _) (by intro y hy;simp only [List.mem_cons,List.not_mem_nil,or_false] at hy;rcases hy with rfl|rfl;exact Zaz _;exact cI _);refine Gn (vc:=Zba) [.t 4] Tryz.func13 ?_;unfold Zba;try dsimp only [ZM,ZO,ZN,ZG,ZR,ZU]
 generalize zR l=ZL at *;refine Rp0 [0,1] ?_;refine Zac ?_;have g1:((l.length:Int) != n)=true:=by rw [bne_iff_ne];exact he
 have hB:ordB l n=false:=by unfold ordB;rw [decide_eq_false he,Bool.false_and]
 refine Rp1 [0,1,9] (x2 hL g1) ?_;refine Ct ?_;refine Rp0 [4] ?_;refine Tp0 ?_;rw [hB];exact View.refl _ _
theorem law_OrdersetRespects (n:Int) (K b:List Int) (x:Int) (hn:i64 n) (hK:K.length≤1048576) (hb:b.length≤1048576) (hx:i64 x):Zan Tryz.prog 4 [pI n,.sl 1 (zR K),.sl 1 (zR b),pI x] (.bool true):=by
 have AW:=sp_awake;have hKl:=zR_len K;have hbl:=zR_len b;refine Zag ?_ (cB _) (by intro y hy;simp only [List.mem_cons,List.not_mem_nil,or_false] at hy;rcases hy with rfl|rfl|rfl|rfl;exact cI _;exact Zaz _;exact Zaz _;exact cI _);refine Gn (vc:=Zbe) [.t 8] Tryz.func4 ?_;unfold Zbe;try dsimp only [ZM,ZO,ZN,ZG,ZR,ZU]
 refine Rp0 [0,1,2,3] ?_;refine Zac ?_;refine Rp0 [0,1,2,3,15] ?_;refine Ap0 AW ?_;refine Zap rfl (fun h1=>by cases h1) (fun _=>?_);refine Kp0 ?_;refine Zac ?_;by_cases c1:n<0
 ·have g1:decide (n<0)=true:=decide_eq_true c1;refine Rp1 [0,1,2,3,32] g1 ?_;refine Zap rfl (fun _=>?_) (fun h1=>by cases h1);exact Rv0 [8]
 by_cases c2:5<n
 ·have g1:decide (n<0)=false:=decide_eq_false c1;have g2:decide (5<n)=true:=decide_eq_true c2;refine Rp1 [0,1,2,3,32] (x2 g1 g2) ?_;refine Zap rfl (fun _=>?_) (fun h1=>by cases h1);exact Rv0 [8]
 by_cases c3:20<K.length
 ·have g1:decide (n<0)=false:=decide_eq_false c1;have g2:decide (5<n)=false:=decide_eq_false c2;have g3:decide ((20:Int)<(K.length:Int))=true:=decide_eq_true (by omega);refine Rp1 [0,1,2,3,32] (x4 g1 g2 g3 hKl) ?_;refine Zap rfl (fun _=>?_) (fun h1=>by cases h1);exact Rv0 [8]
 have g1:decide (n<0)=false:=decide_eq_false c1;have g2:decide (5<n)=false:=decide_eq_false c2;have g3:decide ((20:Int)<(K.length:Int))=false:=decide_eq_false (by omega);have OR:=sp_Order_any b n (by omega) hn;cases ho:ordB b n with
 | false =>
  rw [ho] at OR;refine Rp1 [0,1,2,3,32] (x4 g1 g2 g3 hKl) ?_;refine Ap0 OR ?_;refine Zap rfl (fun _=>?_) (fun h1=>by cases h1);exact Rv0 [8]
 | true =>
  rw [ho] at OR;refine Rp1 [0,1,2,3,32] (x4 g1 g2 g3 hKl) ?_;refine Ap0 OR ?_;refine Zap rfl (fun h1=>by cases h1) (fun _=>?_);refine Kp0 ?_;obtain ⟨m,rfl⟩:∃ m:Nat,n=(m:Int):=⟨n.toNat,by omega⟩;have hm:m≤5:=by omega
  obtain ⟨hbn,hbm⟩:=nd_ord ho;have O1:=sp_Orders (m:Int) K b (by omega) (by omega);have O2:=sp_Orders (m:Int) (K++[x]) b (by simp only [List.length_append,List.length_singleton];omega) (by omega);rw [zR_app] at O2;obtain ⟨s1,s2⟩:=ordsP_small (m:Int) K b;have rO:=resp_order hm (K:=K) ho;have rW:=resp_own hm (K:=K) ho;have rS:=fun (r:List Int) (hr:r∈(ordsP (m:Int) K b).map nz) (y:Int) (hy:y∈K)=>resp_same hm ho hr hy;have rM:=resp_more hm (K:=K) ho x;have rN:=resp_none hm ho;obtain ⟨q1,_⟩:=ordsP_small (m:Int) (K++[x]) b;have hKc:K.length=0→K=[]:=List.eq_nil_of_length_eq_zero;have rN':K.length=0→((((ordsP (m:Int) K b).map nz).length:Nat):Int)=([1,1,2,6,24,120]:List Int).getD m 0:=fun h=>by rw [hKc h];exact rN
  generalize (ordsP (m:Int) (K++[x]) b).map nz=M at *;generalize (ordsP (m:Int) K b).map nz=L at *;have hLl:=llR_len L;have hMl:=llR_len M;refine Rp0 [0,1,2,3,9] ?_;refine Ap0 O1 ?_;refine Rp0 [0,1,2,3,9,10] ?_;refine Zac ?_;refine Rp0 [0,1,2,3,9,10,11] ?_;refine Zad ?_;refine Zbc (σ:={ i:Nat//i≤L.length }) (fun i=>([(0,pI m),(1,.sl 1 (zR K)),(2,.sl 1 (zR b)),(3,pI x),(9,.sl 1 (llR L)),(10,.bool ((L.take i.1).contains b)),(11,pI i.1)],⟨[],0⟩)) (fun i=>L.length-i.1) ⟨0,Nat.zero_le _⟩ ?_ ?_ ?_
  ·exact Fn0
  ·simp only [vmL,Nat.reduceEqDiff,Nat.reduceAdd,Nat.reduceLT,Nat.reduceLeDiff,Nat.reduceSub,Nat.reduceMul,reduceIte,reduceCtorEq,Int.reduceToNat,List.take_zero,List.contains_nil]
   try trivial
  rintro ⟨i,hi⟩;simp only [];refine Zac ?_;refine Rp1 [0,1,2,3,9,10,11,40] hLl ?_;refine Zap rfl (fun h3=>?_) (fun h3=>?_)
  ·have ia:i<L.length:=by simp only [decide_eq_true_eq] at h3;omega
   have hrow:=llR_at ia;have hmem:L[i]∈L:=List.getElem_mem ia;have hst:=contains_step ia b;have ro:=rO _ hmem;have rs:=rS _ hmem;have h2:=s2 _ hmem;obtain ⟨rn,rl⟩:=nd_ord ro;generalize hr:L[i]=r at hrow hst ro rs h2 rn rl;have P1:=sp_Order r (m:Int) h2 hn;rw [ro] at P1;have P2:=sp_Ints r b (by omega);refine Kp0 ?_;refine Zac ?_;refine Zad ?_;refine Zac ?_;refine Rp1 [0,1,2,3,9,10,11,49] (x2 hLl hrow) ?_;refine Ok ?_;refine Ap0 P1 ?_;refine Fp0 ?_;refine Zac (VW_mid (σ:={ c:Bool//c=(L.take (i+1)).contains b }) (fun c=>([(0,pI m),(1,.sl 1 (zR K)),(2,.sl 1 (zR b)),(3,pI x),(9,.sl 1 (llR L)),(10,.bool c.1),(11,pI i)],⟨[],0⟩)) ?_ ?_)
   ·rw [hst];cases ho1:(L.take i).contains b with
    | true =>
     refine rp0 [0,1,2,3,9,10,11] ?_;exact ⟨⟨true,rfl⟩,by trivial⟩
    | false =>
     refine rp1 [0,1,2,3,9,10,11] (x2 hLl hrow) ?_;refine Ok ?_;refine Ap0 P2 ?_;exact ⟨⟨_,rfl⟩,by trivial⟩
   rintro ⟨c,rfl⟩;simp only [];refine Rp0 [0,1,2,3,9,10,11,12] ?_;refine Zad ?_;refine Zbc (σ:={ k:Nat//k≤K.length }) (fun k=>([(0,pI m),(1,.sl 1 (zR K)),(2,.sl 1 (zR b)),(3,pI x),(9,.sl 1 (llR L)),(10,.bool ((L.take (i+1)).contains b)),(11,pI i),(12,pI k.1)],⟨[],0⟩)) (fun k=>K.length-k.1) ⟨0,Nat.zero_le _⟩ ?_ ?_ ?_
   ·exact Fn0
   ·simp only [vmL,Nat.reduceEqDiff,Nat.reduceAdd,Nat.reduceLT,Nat.reduceLeDiff,Nat.reduceSub,Nat.reduceMul,reduceIte,reduceCtorEq,Int.reduceToNat]
    try trivial
   rintro ⟨k,hk⟩;simp only [];refine Zac ?_;refine Rp1 [0,1,2,3,9,10,11,12,62] hKl ?_;refine Zap rfl (fun h5=>?_) (fun h5=>?_)
   ·have kb:k<K.length:=by simp only [decide_eq_true_eq] at h5;omega
    have hkr:=zR_at kb;have hs:=rs _ (List.getElem_mem kb);generalize K[k]=y at hkr hs;have A1:=sp_ahead r y rn (by omega);have A2:=sp_ahead b y hbn (by omega);have ln:∀ l:List Int,l.length≤1000000→(ahP l y).length≤1000000:=fun l hl=>by
     unfold ahP;split
     ·rw [List.length_take];omega
     ·exact Nat.zero_le _
    have A3:=sp_same (ahP r y) (ahP b y) (ln _ (by omega)) (ln _ (by omega));rw [hs] at A3;refine Kp0 ?_;refine Zac ?_;refine Zad ?_;refine Zac (VW_drawS [0,1,2,3,9,10,11,12,81] (by simp [Heap.le,Heap.get,HL.le,HL.get]) ?_);refine Sp1 (x4 hLl hrow hKl hkr) ?_;refine Ok ?_;refine ⟨_,.inl A1,?_⟩;refine Sp0 ?_;refine ⟨⟨by omega,by omega⟩,?_⟩;refine ⟨_,.inl A2,?_⟩;refine Sp0 ?_;refine ⟨_,.inl A3,?_⟩;refine Sp0 ?_;refine Fp0 ?_;refine rp1 [0,1,2,3,9,10,11,12] (ad1 (a:=k) (by omega)) ?_;refine ⟨⟨k+1,kb⟩,?_⟩;exact Fn0
   ·refine Ep0 ?_;refine rp1 [0,1,2,3,9,10,11] (ad1 (a:=i) (by omega)) ?_;refine ⟨⟨i+1,ia⟩,?_⟩;exact Fn0
  ·have ia:i=L.length:=by simp only [decide_eq_false_iff_not] at h3;omega
   subst ia;refine Ep0 ?_;rw [List.take_length];have hw:L.contains b=true:=by rw [List.contains_iff_mem];exact rW
   rw [hw];have htk:List.take K.length (zR K)=zR K:=by rw [← hKl,List.take_length]
   refine Rp1 [0,1,9,10,13] (x2 hKl htk) ?_;refine Ok ?_;refine ACall_f [pI m,.sl 1 (zR K++[[pI x]]),.sl 1 (zR b)] ⟨View.refl _ _,View.own_all (fz:=false) (by simp [Heap.get,HL.get]) (by simp [hKl]),View.refl _ _,trivial⟩ (ACall_p O2 ?_);refine Sp0 ?_;have gle:decide ((M.length:Int)≤(L.length:Int))=true:=decide_eq_true (by omega);by_cases k0:K.length=0
   ·have e0:=rN' k0;have gk:decide ((0:Int)<(K.length:Int))=false:=decide_eq_false (by omega);have hm6:m=0∨m=1∨m=2∨m=3∨m=4∨m=5:=by omega
    have gq:((L.length:Int)==([1,1,2,6,24,120]:List Int).getD m 0)=true:=by rw [beq_iff_eq];exact e0
    rcases hm6 with rfl|rfl|rfl|rfl|rfl|rfl
    all_goals
     simp only [List.getD_cons_zero,List.getD_cons_succ] at gq;refine Zac (Zay [8] ?_);simp only [vmL,Nat.reduceEqDiff,Nat.reduceAdd,Nat.reduceLT,Nat.reduceLeDiff,Nat.reduceSub,Nat.reduceMul,reduceIte,reduceCtorEq,Int.reduceToNat,hMl,hLl,gle,hKl,gk,gq];refine ⟨⟨by decide,by decide⟩,?_⟩;exact Tv0
   ·have gk:decide ((0:Int)<(K.length:Int))=true:=decide_eq_true (by omega);refine Rp1 [8] (x5 hMl hLl gle hKl gk) ?_;exact Tv0
end Go.Proofs.YtldogpfookkbaaaGreatDoor.w
namespace Go.VM
open Go
def kindNames:List Str:=[[98,111,111,107],[112,97,114,116],[115,101,99,116,105,111,110],[112,97,114,97,103,114,97,112,104],[116,97,98,108,101],[114,111,119],[99,101,108,108],[110,111,116,101]]
def belowT:List (List Int):=[[1,2],[2],[3,4,7],[3,4,7],[5],[6],[],[]]
end Go.VM
namespace Go.VM
open Go
end Go.VM
namespace Go.Proofs.YtldogpfookkbaaaGreatDoor.w
open Go Go.VM
theorem trod_str {H : Type} {enc : TypeId × Value → H} {P : Program} {W : World} {base : Nat} {sp : Nat → Bool} {held : Bool} {m : Nat} {e : TypeId} {cs : List Value} {bs : List UInt8} {q : List MemPlace} (he : P.underlying e = some .string)
  (h:DataW.trod enc P W base sp held m e cs=some (.lit (.string bs),q)):cs=[.string ⟨bs.toArray⟩]:=by
 cases m with
 | zero=>simp [DataW.trod] at h
 | succ m =>
  unfold DataW.trod at h;rw [he] at h;split at h<;>try (simp_all;done)
  rename_i s heq;split at h
  ·simp only [Option.some.injEq,Prod.mk.injEq,DataW.lit.injEq,Lit.string.injEq] at h;obtain ⟨rfl,_⟩:=h;rfl
  ·cases h
abbrev cW (W:World) (b o:Nat):Option Value:=match W.cell? ⟨b,o,none⟩ with
 | some v=>if v.oneCell'=true then some v else none
 | none=>none
theorem trod_ints {H : Type} {enc : TypeId × Value → H} {P : Program} {W : World} {base : Nat} {sp : Nat → Bool} {held : Bool} {m : Nat} {t e : TypeId} {cs : List Value} {zs : List Int} {rest : List (DataW H)} {q : List MemPlace} (ht : P.underlying t = some (.slice e)) (he : P.underlying e = some (.int .i64)) (hc : P.cellsOf e = 1) (hz : zs ≠ [])
    (h:DataW.trod enc P W base sp held m t cs=some (.slice (zs.map fun z=>.lit (.int .i64 z)) rest,q)):∃ v,cs=[v]∧v.oneCell'=true∧SlIs (cW W) v zs:=by
  rcases DataW.trod_slice ht h with ⟨_,h2⟩|⟨a,len,cap,elems,rs,m',hm,rfl,hx,hb,hlc,hcap,hel,hread,_,_⟩
  · simp at h2
  simp only [Prod.mk.injEq,DataW.slice.injEq] at hx;obtain ⟨⟨hx,_⟩,_⟩:=hx;have hzl:zs.length=len:=by
    have:=congrArg List.length hx;simp at this;omega
  have hlen:0<len:=by rw [← hzl];exact List.length_pos_iff.2 hz
  have each:∀ i,i<len→W.cell? (a.add i)=some (.int .i64 (zs.getD i 0)):=by
    intro i hi;have hr:=hread i hi;rw [List.getElem?_eq_getElem (by omega),hc,Nat.mul_one] at hr;obtain ⟨ci,hc1,hc2⟩:=Option.bind_eq_some_iff.1 hr;obtain ⟨_,hcl,hcells⟩:=World.cells?_some hc1;obtain ⟨n,rfl,hn,_⟩:=DataW.trod_int he hc2;have h1:=hcells 0 (by omega);have e0:∀ b:Addr,b.add 0=b:=fun b=>by simp [Addr.add]
    rw [e0] at h1;rw [h1];have h2:(elems.map (·.1))[i]?=some (DataW.lit (.int .i64 n)):=by
      rw [List.getElem?_map,List.getElem?_eq_getElem (by omega),Option.map_some,hn]
    rw [← hx,List.getElem?_map,List.getElem?_eq_getElem (by omega),Option.map_some] at h2;simp only [Option.some.injEq,DataW.lit.injEq,Lit.int.injEq,true_and] at h2;have e3:zs.getD i 0=n:=by rw [← h2];simp [List.getD,show i<zs.length by omega]
    rw [e3];rfl
  have hspot:a.spot=none:=by
    have hv:=each 0 hlen;have e0:a.add 0=a:=by simp [Addr.add]
    rw [e0] at hv;unfold World.cell? at hv;split at hv
    · split at hv
      · cases hv
      · rename_i hs;simpa using hs
    · cases hv
  have hadd:∀ i,a.add i=⟨a.block,a.off+i,none⟩:=by
    intro i;obtain ⟨b,o,s⟩:=a;simp only at hspot;subst hspot;by_cases hi:i=0<;>simp [Addr.add,hi]
  refine ⟨_,rfl,rfl,.inr ⟨a.block,a.off,cap,by omega,?_,fun i hi=>?_⟩⟩
  · obtain ⟨b,o,s⟩:=a
    simp only at hspot;subst hspot;rw [hzl]
  · have:=each i (by omega)
    rw [hadd] at this;simp only [cW];rw [this];rfl
def orderF:List Value:=[.func (.func 299) #[] #[],.func (.func 300) #[] #[]]
theorem known_tab (b:Nat) (l:List Value) (h:known.lookup b=some l):(b=4∧l=kindNames.map fun s=>Value.string ⟨s.toArray⟩)∨(b=0∧l=orderF):=by
 have e:known=[(0,orderF),(4,kindNames.map fun s=>Value.string ⟨s.toArray⟩)]:=by kernel_rfl
 rw [e] at h;simp only [List.lookup] at h;split at h
 ·rename_i hb;simp only [Option.some.injEq] at h;exact .inr ⟨by simpa using hb,h.symm⟩
 ·split at h
  ·rename_i hb;simp only [Option.some.injEq] at h;exact .inl ⟨by simpa using hb,h.symm⟩
  ·cases h
def namesD {H:Type}:DataW H:=.agg (kindNames.map fun s=>.lit (.string s))
def slD {H:Type} (zs:List Int):DataW H:=if zs=[] then .nil else .slice (zs.map fun z=>.lit (.int .i64 z)) []
def belowD {H:Type}:DataW H:=.agg (belowT.map slD)
def orderD : DataW Unit := .agg [.iface "func" (.lit (.string [112, 97, 110, 100, 101, 99, 116, 47, 115, 121, 110, 116, 97, 120, 46, 111, 114, 100, 101, 114, 36, 49])), .iface "func" (.lit (.string [112, 97, 110, 100, 101, 99, 116, 47, 115, 121, 110, 116, 97, 120, 46, 111, 114, 100, 101, 114, 36, 50]))]
theorem knownW_of {W : World} {rest : List (String × DataW Unit)} (ho : ("pandect/syntax.order", DataW.iface "func table" orderD) ∈ rest) (h : laidMetH Tryz.prog rest W) (hf : (((rest.filter fun x => x.2.handleName?.isNone)).filter (fun x => x.1 == "pandect/unit.names"), ((rest.filter fun x => x.2.handleName?.isNone)).filter (fun x => x.1 == "pandect/unit.below")) = ([("pandect/unit.names", namesD)], [("pandect/unit.below", belowD)])) : Zbw W := by
  obtain ⟨f1,f2⟩:=Prod.mk.inj hf
  have h1:=(laidMetH_iff.1 h).1
  have h2 := h1.filter (fun x => x.1 == "pandect/unit.names")
  rw [f1] at h2
  have h3 := h1.filter (fun x => x.1 == "pandect/unit.below")
  rw [f2] at h3
  have g1 : Tryz.prog.globalNamed "pandect/unit.names" = some 4 := by kernel_rfl
  have g2 : Tryz.prog.globalNamed "pandect/unit.below" = some 1 := by kernel_rfl
  have t1:(Tryz.prog.globals[4]?).map (·.type)=some 290:=by kernel_rfl
  have t2:(Tryz.prog.globals[1]?).map (·.type)=some 236:=by kernel_rfl
  have cs1:Tryz.prog.cellsOf 9=1:=by kernel_rfl
  have cs2:Tryz.prog.cellsOf 290=8:=by kernel_rfl
  have cs3:Tryz.prog.cellsOf 22=1:=by kernel_rfl
  have cs4:Tryz.prog.cellsOf 236=8:=by kernel_rfl
  have cs5:Tryz.prog.cellsOf 3=1:=by kernel_rfl
  have var_heap:∀ {name:String} {b:Nat} {cs:Array Value},Tryz.prog.globalNamed name=some b→W.var? Tryz.prog name=some cs→∃ t fr,W.heap[b]?=some (.cells cs t fr):=by
    intro name b cs hg hv
    unfold World.var? at hv
    rw [hg] at hv
    simp only [Option.bind_some] at hv
    split at hv
    · rename_i c t fr hh
      simp only [Option.some.injEq] at hv
      exact ⟨t,fr,by rw [hh,hv]⟩
    · cases hv
  refine ⟨⟨fun b l hl=>?_,fun b k hb=>?_⟩,fun b ls hb j hj=>?_⟩
  · rcases known_tab b l hl with ⟨rfl,rfl⟩|⟨rfl,rfl⟩
    rotate_left
    · obtain ⟨g',t',cs,fuel,p,hg',ht',hvar,hd⟩:=h.funcs ho
      have g3 : Tryz.prog.globalNamed "pandect/syntax.order" = some 0 := by kernel_rfl
      have t3:(Tryz.prog.globals[0]?).map (·.type)=some 145:=by kernel_rfl
      obtain rfl:=Option.some.inj (g3.symm.trans hg')
      obtain rfl:=Option.some.inj (t3.symm.trans ht')
      obtain ⟨t,fr,hh⟩:=var_heap g3 hvar
      obtain ⟨xs,m,_,hx,hlen,hxs,hread⟩:=DataW.trod_struct Tryz.underlying145 hd
      have cf1:Tryz.prog.cellsOf 143=1:=by kernel_rfl
      have cf2:Tryz.prog.cellsOf 107=1:=by kernel_rfl
      have hc2:Tryz.prog.cellsOf 145=2:=by kernel_rfl
      rw [hc2] at hlen
      have hx1:=(Prod.mk.inj hx).1
      have r0:DataW.trod (funcToken Tryz.prog) Tryz.prog W 0 (fun _=>true) true m 143 ((cs.toList.drop 0).take (Tryz.prog.cellsOf 143))=xs[0]?:=hread 0 _ rfl
      have r1:DataW.trod (funcToken Tryz.prog) Tryz.prog W 0 (fun _=>true) true m 107 ((cs.toList.drop 1).take (Tryz.prog.cellsOf 107))=xs[1]?:=hread 1 _ rfl
      rw [cf1] at r0
      rw [cf2] at r1
      have hxl:xs.length=2:=hxs
      match xs,hxl with
      | [x0,x1],_ =>
      have e0:x0.1=.held [112,97,110,100,101,99,116,47,115,121,110,116,97,120,46,111,114,100,101,114,36,49]:=by
        have:(DataW.agg [.held [112,97,110,100,101,99,116,47,115,121,110,116,97,120,46,111,114,100,101,114,36,49],.held [112,97,110,100,101,99,116,47,115,121,110,116,97,120,46,111,114,100,101,114,36,50]]:DataW (List UInt8))=.agg [x0.1,x1.1]:=hx1
        simp only [DataW.agg.injEq,List.cons.injEq] at this
        exact this.1.symm
      have e1:x1.1=.held [112,97,110,100,101,99,116,47,115,121,110,116,97,120,46,111,114,100,101,114,36,50]:=by
        have:(DataW.agg [.held [112,97,110,100,101,99,116,47,115,121,110,116,97,120,46,111,114,100,101,114,36,49],.held [112,97,110,100,101,99,116,47,115,121,110,116,97,120,46,111,114,100,101,114,36,50]]:DataW (List UInt8))=.agg [x0.1,x1.1]:=hx1
        simp only [DataW.agg.injEq,List.cons.injEq] at this
        exact this.2.1.symm
      match hcl:cs.toList,hlen with
      | [v0,v1],_ =>
      rw [hcl] at r0 r1
      have k0:=func_of_trod (ps:=#[84]) (rs:=#[84]) (va:=false) (f0:=299) (q:=x0.2) (by kernel_rfl) (by kernel_rfl) (r0.trans (by rw [← e0];rfl))
      have k1:=func_of_trod (ps:=#[84]) (rs:=#[4]) (va:=false) (f0:=300) (q:=x1.2) (by kernel_rfl) (by kernel_rfl) (r1.trans (by rw [← e1];rfl))
      subst k0 k1
      have hcs:cs=orderF.toArray:=Array.ext' hcl
      exact ⟨⟨t,fr,by rw [hh,hcs]⟩,fun v hv=>by simp only [orderF,List.mem_cons,List.not_mem_nil,or_false] at hv;rcases hv with rfl|rfl<;>rfl⟩
    refine ⟨?_,fun v hv=>by obtain ⟨s,_,rfl⟩:=List.mem_map.1 hv;rfl⟩
    obtain ⟨ps,⟨g',t',cs,fuel,p,q,hg',ht',hvar,hd,_,_⟩,_⟩:=h2
    obtain rfl:=Option.some.inj (g1.symm.trans hg')
    obtain rfl:=Option.some.inj (t1.symm.trans ht')
    obtain ⟨t,fr,hh⟩:=var_heap g1 hvar
    refine ⟨t,fr,?_⟩
    suffices hcs:cs=(kindNames.map fun s=>Value.string ⟨s.toArray⟩).toArray by rw [hh,hcs]
    obtain ⟨xs,m,_,hx,hlen,hxs,hread⟩:=DataW.trod_array Tryz.underlying290 hd
    rw [cs2] at hlen
    simp only [Prod.mk.injEq] at hx
    have hx1:kindNames.map (fun s=>(DataW.lit (.string s):DataW _))=xs.map (·.1):=by
      have:=hx.1
      unfold namesD at this
      simpa using this
    apply Array.ext'
    apply List.ext_getElem?
    intro i
    by_cases hi:i<8
    · have hr:=hread i hi
      rw [cs1,Nat.mul_one,List.getElem?_eq_getElem (by omega)] at hr
      have hk:i<kindNames.length:=hi
      have h5:(xs.map (·.1))[i]?=some xs[i].1:=by rw [List.getElem?_map,List.getElem?_eq_getElem (by omega)];rfl
      rw [← hx1,List.getElem?_map,List.getElem?_eq_getElem hk] at h5
      simp only [Option.map_some,Option.some.injEq] at h5
      have h6:xs[i]=(.lit (.string kindNames[i]),xs[i].2):=Prod.ext h5.symm rfl
      rw [h6] at hr
      have h7:=trod_str Tryz.underlying9 hr
      have h8:=congrArg (·[0]?) h7
      simp only [List.getElem?_take,List.getElem?_drop] at h8
      simp only [List.getElem?_map,List.getElem?_eq_getElem hk,Option.map_some]
      simpa using h8
    · rw [List.getElem?_eq_none (by omega)]
      symm
      apply List.getElem?_eq_none
      show (List.map _ kindNames).length≤i
      rw [List.length_map]
      show 8≤i
      omega
  · exfalso
    have:knownG=[]:=by kernel_rfl
    rw [this] at hb;cases hb
  · have hS:knownS=[(1,belowT)]:=by kernel_rfl
    rw [hS] at hb
    simp only [List.lookup] at hb
    split at hb
    · rename_i hbb
      simp only [Option.some.injEq] at hb
      subst hb
      have hb':b=1:=by simpa using hbb
      subst hb'
      obtain ⟨ps,⟨g',t',cs,fuel,p,q,hg',ht',hvar,hd,_,_⟩,_⟩:=h3
      obtain rfl:=Option.some.inj (g2.symm.trans hg')
      obtain rfl:=Option.some.inj (t2.symm.trans ht')
      obtain ⟨t,fr,hh⟩:=var_heap g2 hvar
      obtain ⟨xs,m,_,hx,hlen,hxs,hread⟩:=DataW.trod_array Tryz.underlying236 hd
      rw [cs4] at hlen
      simp only [Prod.mk.injEq] at hx
      have hx1:belowT.map slD=xs.map (·.1):=by
        have:=hx.1
        unfold belowD at this
        simpa using this
      have hj8:j<8:=hj
      have hr:=hread j hj8
      rw [cs3,Nat.mul_one,List.getElem?_eq_getElem (by omega)] at hr
      have h5:(xs.map (·.1))[j]?=some xs[j].1:=by rw [List.getElem?_map,List.getElem?_eq_getElem (by omega)];rfl
      rw [← hx1,List.getElem?_map,List.getElem?_eq_getElem hj] at h5
      simp only [Option.map_some,Option.some.injEq] at h5
      have h6:xs[j]=(slD belowT[j],xs[j].2):=Prod.ext h5.symm rfl
      rw [h6] at hr
      have hgD:belowT.getD j []=belowT[j]:=by rw [List.getD_eq_getElem?_getD,List.getElem?_eq_getElem hj];rfl
      have hcell:∀ v,(cs.toList.drop j).take 1=[v]→W.cell? ⟨1,j,none⟩=some v:=by
        intro v hv
        have h8:=congrArg (·[0]?) hv
        simp only [List.getElem?_take,List.getElem?_drop] at h8
        unfold World.cell?
        rw [hh]
        simpa using h8
      rw [hgD]
      generalize belowT[j]=zs at hr
      unfold slD at hr
      by_cases hz:zs=[]
      · rw [if_pos hz] at hr
        rcases DataW.trod_slice Tryz.underlying22 hr with ⟨h7,_⟩|⟨a,len,cap,elems,rs,m',_,_,h8,_⟩
        · refine ⟨.slice none 0 0,?_,.inl ⟨hz,rfl⟩⟩
          simp only []
          rw [hcell _ h7];rfl
        · simp at h8
      · rw [if_neg hz] at hr
        obtain ⟨v,h7,h8,h9⟩:=trod_ints (W:=W) Tryz.underlying22 Tryz.underlying3 cs5 hz hr
        refine ⟨v,?_,h9⟩
        simp only []
        rw [hcell _ h7]
        simp only []
        rw [if_pos h8]
    · cases hb
end Go.Proofs.YtldogpfookkbaaaGreatDoor.w
namespace Go.Proofs.YtldogpfookkbaaaGreatDoor.rd
open Go Go.VM
variable {W : World}
theorem k3:Tryz.prog.cellsOf 3=1:=by kernel_rfl
theorem rI (n:Nat):Reads Tryz.prog W n 3 i64 (fun a=>[pI a]):=reads_int Tryz.underlying3
theorem rS (n:Nat):Reads Tryz.prog W n 9 okS (fun a=>[.str a]):=reads_string Tryz.underlying9
end Go.Proofs.YtldogpfookkbaaaGreatDoor.rd
