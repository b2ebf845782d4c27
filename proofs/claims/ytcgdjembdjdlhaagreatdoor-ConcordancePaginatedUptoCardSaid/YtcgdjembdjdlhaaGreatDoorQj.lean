import Derived.Test.YtcgdjembdjdlhaaGreatDoorNf
import Derived.Test.YtcgdjembdjdlhaaGreatDoorShQ
import Derived.Test.YtcgdjembdjdlhaaGreatDoorVmAh
import Derived.Test.YtcgdjembdjdlhaaGreatDoorVmE
import Derived.Test.YtcgdjembdjdlhaaGreatDoorVmPk
import Derived.Test.YtcgdjembdjdlhaaGreatDoorYl
import Derived.Test.YtcgdjembdjdlhaaGreatDoorVmBd
import Derived.Test.YtcgdjembdjdlhaaGreatDoorVmBc
import Derived.Test.YtcgdjembdjdlhaaGreatDoorYp
import Derived.Test.YtcgdjembdjdlhaaGreatDoorRows
import Derived.Test.YtcgdjembdjdlhaaGreatDoorChecked
import Derived.Lib.LaidTab
import Derived.LaidSub
import Derived.KernelRfl
import Derived.Test.YtcgdjembdjdlhaaGreatDoorY4
import Derived.OpenShut
import Derived.Lib.ItoaNum
set_option linter.all false
set_option maxRecDepth 20000
set_option maxHeartbeats 0
namespace Go.Proofs.w
open Go Go.VM
def c_concordance_Index:VC:=(ZR [ZO 2 (.mv (.c .nilsl))] (ZR [ZO 12 .mkmap,ZM 3 12] (.seq (ZR [ZM 13 0,ZO 14 (.len false (.t 13)),ZO 15 (.mv (.c (.int .i64 0)))] (.block 0 (.loop (ZR [ZO 16 (.bin .lss (.t 15) (.t 14))] (.seq (.cond (.t 16) .skip (.exit 0)) (.seq (.block 1 (ZR [ZO 17 (.iaddr 4 (.t 13) (.t 15)),ZO 18 (.load true 4 (.t 17)),ZO 5 (.alloc [.int .i64 0,(.str []),.nilsl,.nilsl]),ZN (.store 4 (.t 5) (.t 18))] (ZR [ZO 19 (.load true 4 (.t 5)),ZO 20 (.bslice 4 1 [.int .i64 0,(.str []),.nilsl,.nilsl] [(0,(.t 19))]),ZO 21 (.call 21 [.t 20]),ZO 22 (.len false (.t 21)),ZO 23 (.mv (.c (.int .i64 0)))] (.block 2 (.loop (ZR [ZO 24 (.bin .lss (.t 23) (.t 22))] (.seq (.cond (.t 24) .skip (.exit 2)) (.seq (.block 3 (ZR [ZO 25 (.iaddr 1 (.t 21) (.t 23)),ZO 26 (.load false 1 (.t 25)),ZM 7 26] (ZR [ZM 27 7,ZO 28 (.call 94 [.t 27]),ZM 8 28] (ZR [ZM 29 8,ZO 30 (.bin .neq (.t 29) (.c (.str [])))] (.cond (.t 30) (.region [ZM 31 3,ZM 32 8,ZM 33 3,ZM 34 8,ZO 35 (.lookup (.one .s) .nilsl false (.t 33) (.t 34)),ZO 36 (.faddr 0 (.t 5)),ZO 37 (.load false 1 (.t 36)),ZO 38 (.bslice 1 1 [.int .i64 0] [(0,(.t 37))]),ZO 39 (.app 1 8 [.int .i64 0] false (.t 35) (.t 38)),ZN (.mapset (.one .s) (.t 31) (.t 32) (.t 39))] false) .skip))))) (.region [ZO 40 (.bin .add (.t 23) (.c (.int .i64 1))),ZM 23 40] false))))))))) (.region [ZO 41 (.bin .add (.t 15) (.c (.int .i64 1))),ZM 15 41] false))))))) (ZR [ZO 9 (.mv (.c .nilsl))] (.seq (ZR [ZM 42 3,ZO 43 (.call 96 [.t 42]),ZO 44 (.call 95 [.t 43]),ZO 45 (.len false (.t 44)),ZO 46 (.mv (.c (.int .i64 0)))] (.block 4 (.loop (ZR [ZO 47 (.bin .lss (.t 46) (.t 45))] (.seq (.cond (.t 47) .skip (.exit 4)) (.seq (.block 5 (ZR [ZO 48 (.iaddr 1 (.t 44) (.t 46)),ZO 49 (.load false 1 (.t 48)),ZM 11 49] (.region [ZM 50 9,ZM 51 11,ZM 52 3,ZM 53 11,ZO 54 (.lookup (.one .s) .nilsl false (.t 52) (.t 53)),ZO 55 (.call 97 [.t 54]),ZO 56 (.build [(.str []),.nilsl] [(0,(1,(.t 51))),(1,(1,(.t 55)))]),ZO 57 (.bslice 2 1 [(.str []),.nilsl] [(0,(.t 56))]),ZO 58 (.app 2 40 [(.str []),.nilsl] false (.t 50) (.t 57)),ZM 9 58] false))) (.region [ZO 59 (.bin .add (.t 46) (.c (.int .i64 1))),ZM 46 59] false))))))) (ZR [ZM 60 9,ZM 2 60] .ret))))))
theorem HL.del_sub:∀ {L:List (Nat×AB)} {t:Nat} {q:Nat×AB},q∈HL.del L t→q∈L
 | [],_,_,h=>by cases h
 | (k,v)::r,t,q,h=>by
  simp only [HL.del] at h;split at h
  ·exact Zx7 _ (HL.del_sub h)
  ·rcases List.mem_cons.1 h with rfl|h
   ·exact List.mem_cons_self
   ·exact Zx7 _ (HL.del_sub h)
def encK (l:List Pg) (s:Str):List PV:=encEn (s,Zbv (pagesS l s))
theorem mapK_step {α β:Type} (f:α→β) {K:List α} {k:Nat} (h:k<K.length):(K.take (k+1)).map f=(K.take k).map f++[f K[k]]:=by
 rw [List.take_add_one,List.getElem?_eq_getElem h,List.map_append];rfl
theorem sortsS (m:Nat):AnyZ.SortsIn Tryz.prog Tryz.sortedS_ren Fence.wide m :=
  ⟨fun blk off cap ss W hH hblk hsz=>callsIn_wide.2 (Tryz.slices_Sort_string blk off cap ss W hH hblk hsz),
   fun p cap W=>callsIn_wide.2 (Tryz.slices_Sort_string_none p cap W)⟩
theorem sp_concordance_Index (l:List Pg) (hs:SmalQ l):Zam Tryz.prog 56 [.sl 4 (l.map Pg.enc)] (.sl 2 ((indexS l).map encEn)):=by
  have hll:=hs.len;have cP:Closed (.sl 4 (l.map Pg.enc)):=Zai (fun p _ x hx=>by
    simp only [Pg.enc,List.mem_cons,List.not_mem_nil,or_false] at hx;rcases hx with rfl|rfl|rfl|rfl
    · exact cI _
    · exact cS _
    · exact Zbs _
    · exact Zbs _)
  have cR:Closed (.sl 2 ((indexS l).map encEn)):=Zai (fun e _ x hx=>by
    simp only [encEn,List.mem_cons,List.not_mem_nil,or_false] at hx;rcases hx with rfl|rfl
    · exact cS _
    · exact Zai fun _ _ y hy=>by rw [List.mem_singleton] at hy;subst hy;exact cI _)
  refine Zad ?_ cR (by intro y hy;rw [List.mem_singleton] at hy;subst hy;exact cP);refine Gn (vc:=c_concordance_Index) [.t 2] Tryz.func56 ?_;unfold c_concordance_Index;try dsimp only [ZM,ZO,ZN,ZG,ZR,ZU]
  refine Rp0 [0] ?_;refine Rp0 [0,3] ?_;refine Zaa ?_;refine Rp1 [3,13,14,15] @xlm ?_;refine Zab ?_;refine Zak (σ:={ s:Nat×List Ent×Nat//s.1≤l.length∧OkE 0 s.2.2 s.2.1∧viewE s.2.1=onS (occL (l.take s.1)) [] }) (fun s=>([(3,.mp 0),(13,.sl 4 (l.map Pg.enc)),(14,pI l.length),(15,pI s.1.1)],⟨canH 0 s.1.2.1,s.1.2.2⟩)) (fun s=>l.length-s.1.1) ⟨(0,[],1),Nat.zero_le _,⟨.nil,by simp,by simp,by simp,by simp⟩,rfl⟩ ?_ ?_ ?_
  · exact Fn0
  · refine Sp0 ?_
    exact ⟨rfl,trivial⟩
  rintro ⟨⟨k,E,t⟩,hk,hE,hv⟩;simp only [] at hk hE hv ⊢;have htm:=hE.m;have ot:Off (tailE E) t:=tail_off fun e he=>by have:=hE.lt e he;omega
  have ot1:Off (tailE E) (t+1):=tail_off fun e he=>by have:=hE.lt e he;omega
  have o0:Off (tailE E) 0:=tail_off hE.ne;have g0:=o0.get;have d0:=o0.del;have gt:=ot.get;have dt:=ot.del;have gt1:=ot1.get;have dt1:=ot1.del;unfold canH;have qq:=N3 0 t (t+1);refine Rp1 [3,13,14,15,16] qq ?_;refine Zaa ?_;refine Zac rfl (fun h1=>?_) (fun h1=>?_)
  · simp only [Zx3] at h1
    have ka:k<l.length:=by omega
    have hst:=occL_step ka;refine Kp0 ?_;refine Zaa ?_;refine Zab ?_;refine Zaa (Zae [3,5,13,14,15] ?_);simp only [vmL,Nat.reduceEqDiff,Nat.reduceAdd,Nat.reduceLT,Nat.reduceLeDiff,Nat.reduceSub,Nat.reduceMul,reduceIte,reduceCtorEq,Int.reduceToNat,List.length_map,rowm ka,Pg.enc,qq];refine ⟨by omega,?_⟩;generalize hpg:l[k]=pg at hst;have hpm:pg∈l:=hpg▸List.getElem_mem ka;refine Rp1 [3,5,13,14,15,21,22,23] (x3 dt dt1 qq) ?_;have hW:=sp_paginate_Words [pg] (hs.one hpm);rw [wdsL_one] at hW;have hWl:(wdsP pg).length≤100000:=by have:=(hs.one hpm).words;rw [wdsL_one] at this;exact this
    have hfull:=hE.full;have C:Zal Tryz.prog 21 [.own (t+1) 0 1] ⟨[(t+1,.arr false 4 [pg.enc])]++((t,.arr false 4 [pg.enc])::canH 0 E),t+1+1⟩ (fun p h'=>p=.sl 1 (strR (wdsP pg))∧h'=⟨(t,.arr false 4 [pg.enc])::canH 0 E,t+1+1⟩):=by
      refine Zal.frameL ?_ ?_ (ACall_f [.sl 4 ([pg].map Pg.enc)] ⟨View.own_all (fz:=false) (by simp [Heap.get,HL.get]) rfl,trivial⟩ (Zaq hW ⟨Nat.le_refl _,by simp,by simp,rfl,rfl⟩))
      · intro q hq r hr
        simp only [List.mem_singleton] at hr;subst hr;simp only [List.mem_cons,canH] at hq;rcases hq with rfl|rfl|hq
        · simp
        · simp
        · exact ot1 q hq
      · intro q hq fz z
        simp only [List.mem_cons,canH] at hq;rcases hq with rfl|rfl|hq
        · simp
        · simp
        · obtain ⟨e,he,rfl⟩:=List.mem_map.1 hq
          have:=hfull e he;simp [encI,this]
    refine Zal.mono C ?_;rintro p h' ⟨rfl,rfl⟩;have hocc:occP pg=occW pg.number (wdsP pg):=rfl;have hcount:(occL (l.take k)).length+(wdsP pg).length≤200000:=by
      have:=occL_take l k;have:=hs.words;omega
    rw [hocc] at hst;have hpe:pg.enc=[pI pg.number,.str pg.head,.sl 1 (strR pg.lines),.sl 1 (strR pg.notes)]:=rfl;have hWm:∀ w∈wdsP pg,w.length≤100000:=wdsP_len (hs.line _ hpm);generalize wdsP pg=W at hst hWl hWm hcount ⊢;generalize occL (l.take k)=O at hst hv hcount;refine Sp1 (x4 gt dt dt1 qq) ?_;refine Zab ?_;refine Zak (σ:={ s:Nat×List Ent×Nat//s.1≤W.length∧OkE 0 s.2.2 s.2.1∧t<s.2.2∧(∀ e∈s.2.1,e.id≠t)∧viewE s.2.1=onS (O++occW pg.number (W.take s.1)) [] }) (fun s=>([(3,.mp 0),(5,.loc t 0 0),(13,.sl 4 (l.map Pg.enc)),(14,pI l.length),(15,pI k),(21,.sl 1 (strR W)),(22,pI W.length),(23,pI s.1.1)],⟨(t,.arr false 4 [pg.enc])::canH 0 s.1.2.1,s.1.2.2⟩)) (fun s=>W.length-s.1.1) ⟨(0,E,t+1+1),Nat.zero_le _,hE.mono (by show t≤t+1+1;omega),by show t<t+1+1;omega,fun e he=>by have:=hE.lt e he;omega,by simpa [occW] using hv⟩ ?_ ?_ ?_
    · exact Fn1 (x2 @Za7 qq)
    · refine Sp1 qq ?_
      exact ⟨by show HL.get _ 0=_;simp only [canH,HL.get];rw [if_neg (by omega)];rfl,HL.le_tail2 (by unfold Nod tailE;rw [List.map_map];exact hE.nod) ot o0 _⟩
    rintro ⟨⟨j,F,n⟩,hj,hF,htn,hFt,hFv⟩;simp only [] at hj hF htn hFt hFv ⊢;have pt:Off (tailE F) t:=tail_off hFt;have pn:Off (tailE F) n:=tail_off fun e he=>by have:=hF.lt e he;omega
    have pn1:Off (tailE F) (n+1):=tail_off fun e he=>by have:=hF.lt e he;omega
    have p0:Off (tailE F) 0:=tail_off hF.ne;have g0:=p0.get;have d0:=p0.del;have gt:=pt.get;have dt:=pt.del;have gn:=pn.get;have dn:=pn.del;have gn1:=pn1.get;have dn1:=pn1.del;unfold canH;have qq:=N4 0 t n (n+1);refine Rp1 [3,5,13,14,15,21,22,23,24] qq ?_;refine Zaa ?_;refine Zac rfl (fun h2=>?_) (fun h2=>?_)
    · simp only [Zx3] at h2
      have ja:j<W.length:=by omega
      have hstW:=occW_step pg.number ja;have hwl:=Za7 W;have hrow:(strR W).getD j []=[PV.str W[j]]:=rowm ja;refine Kp0 ?_;refine Zaa ?_;refine Zab ?_;refine Rp1 [3,5,7,13,14,15,21,22,23] (x3 hwl hrow qq) ?_;refine Ok ?_;have hWj:W[j].length≤100000:=hWm _ (List.getElem_mem ja);generalize W[j]=w at hstW hWj ⊢;refine Rp1 [3,5,8,13,14,15,21,22,23] qq ?_;refine Ap1 (sp_concordance_bare w (by omega)) qq ?_;refine Rp1 [3,5,8,13,14,15,21,22,23,30] qq ?_;refine Zac rfl (fun h3=>?_) (fun h3=>?_)
      · have hb:bareS w≠[]:=by simpa using h3
        have hstB:wordBc pg.number w=[(bareS w,pg.number)]:=by unfold wordBc;rw [if_neg hb]
        refine Zae [3,5,13,14,15,21,22,23] ?_;have hko:=keysOk_enc (bareS w) F;have hmf:=mapFind_enc (bareS w) F;generalize bareS w=s at hb hstB hko hmf ⊢;cases hf:findE F s with
        | none =>
          rw [hf] at hmf;have hmp:mapPut (.str s) (.own (n+1) 0 1) (encE F)=encE (updE (n+1) s pg.number F):=by have:=mapPut_enc (n+1) s pg.number F;rw [hf] at this;exact this
          simp only [vmL,Nat.reduceEqDiff,Nat.reduceAdd,Nat.reduceLT,Nat.reduceLeDiff,Nat.reduceSub,Nat.reduceMul,reduceIte,reduceCtorEq,Int.reduceToNat,hmf,hpe,g0,d0,gt,dt,gn,dn,gn1,dn1,qq];refine ⟨hko.2,hko.2,?_⟩;refine Zae [3,5,13,14,15,21,22,23] ?_;simp only [vmL,Nat.reduceEqDiff,Nat.reduceAdd,Nat.reduceLT,Nat.reduceLeDiff,Nat.reduceSub,Nat.reduceMul,reduceIte,reduceCtorEq,Int.reduceToNat,ad1 (a:=j) (by omega),hmp,g0,d0,gt,dt,gn,dn,gn1,dn1,qq];refine ⟨⟨(j+1,updE (n+1) s pg.number F,n+1+1),ja,hF.upd (n+1) s pg.number (by omega),by show t<n+1+1;omega,?_,?_⟩,?_⟩
          · intro e' he'
            rcases upd_mem _ _ _ F e' he' with ⟨h5,_⟩|⟨h5,_⟩
            · exact hFt e' h5
            · omega
          · show viewE (updE _ _ _ _)=_
            rw [view_upd,hFv,hstW,hstB,← List.append_assoc,onS_app _ [(s,pg.number)]];rfl
          · try simp only [vmL,Nat.reduceEqDiff,Nat.reduceAdd,Nat.reduceLT,Nat.reduceLeDiff,Nat.reduceSub,Nat.reduceMul,reduceIte,reduceCtorEq,Int.reduceToNat,hpe,g0,d0,gt,dt,gn,dn,gn1,dn1,qq]
            all_goals (repeat' (first|rfl|trivial|omega|(simp only [];omega)|refine And.intro ?_ ?_))
            refine (canH_le hF s pg.number (Nat.le_succ n) _ ?_ ?_ ?_).2
            · simp only [Heap.get,HL.get,if_neg (show ¬ n+1=0 by omega),if_neg (show ¬ n=0 by omega),if_neg (show ¬ t=0 by omega),if_true]
            · rw [hf];simp only [Heap.get,HL.get,if_true];rfl
            · intro e' he' _
              have h5:=hF.lt e' he';have h6:=hF.ne e' he';have h7:=hFt e' he';simp only [Heap.get,HL.get,if_neg (show ¬ n+1=e'.id by omega),if_neg (show ¬ n=e'.id by omega),if_neg (show ¬ t=e'.id by omega),if_neg (show ¬ 0=e'.id by omega)];exact tail_get hF.nod he'
        | some e =>
          rw [hf] at hmf;have hem:e∈F:=List.mem_of_find?_eq_some hf;have hek:e.key=s:=by have:=List.find?_some hf;simpa using this
          have he0:=hF.ne e hem;have het:=hFt e hem;have hen:=hF.lt e hem;have heg:=tail_get hF.nod hem;have hel:=ent_len hFv hem;have hmp:mapPut (.str s) (.own (n+1) 0 (e.ns.length+1)) (encE F)=encE (updE (n+1) s pg.number F):=by have:=mapPut_enc (n+1) s pg.number F;rw [hf] at this;exact this
          have hol:(O++occW pg.number (W.take j)).length≤1000000:=by have:=occW_len pg.number (W.take j);rw [Zx5];simp at this ⊢;omega
          simp only [Option.map_some] at hmf;generalize hid:e.id=id at he0 het hen heg hmf;have hgd:∀ x,x≠id→HL.get (HL.del (tailE F) id) x=HL.get (tailE F) x:=fun x hx=>by rw [HL.get_del,if_neg (Ne.symm hx)]
          have hgd0:=hgd 0 (Ne.symm he0);have hgdt:=hgd t (Ne.symm het);have hgdn:=hgd n (by omega);have hgdn1:=hgd (n+1) (by omega);have edd:HL.del (HL.del (tailE F) id) 0=HL.del (tailE F) id:=(show Off (HL.del (tailE F) id) 0 from fun q hq=>p0 q (HL.del_sub hq)).del;have qq:=N5 0 t n (n+1) id;simp only [vmL,Nat.reduceEqDiff,Nat.reduceAdd,Nat.reduceLT,Nat.reduceLeDiff,Nat.reduceSub,Nat.reduceMul,reduceIte,reduceCtorEq,Int.reduceToNat,hmf,hpe,g0,d0,gt,dt,gn,dn,gn1,dn1,heg,hgd0,hgdt,hgdn,hgdn1,encI_len,encI_take,encI_app,edd,qq];refine ⟨hko.2,by omega,by omega,hko.2,?_⟩;refine Zae [3,5,13,14,15,21,22,23] ?_;simp only [vmL,Nat.reduceEqDiff,Nat.reduceAdd,Nat.reduceLT,Nat.reduceLeDiff,Nat.reduceSub,Nat.reduceMul,reduceIte,reduceCtorEq,Int.reduceToNat,ad1 (a:=j) (by omega),hmp,hpe,g0,d0,gt,dt,gn,dn,gn1,dn1,hgd0,hgdt,hgdn,hgdn1,edd,qq];refine ⟨⟨(j+1,updE (n+1) s pg.number F,n+1+1),ja,hF.upd (n+1) s pg.number (by omega),by show t<n+1+1;omega,?_,?_⟩,?_⟩
          · intro e' he'
            rcases upd_mem _ _ _ F e' he' with ⟨h5,_⟩|⟨h5,_⟩
            · exact hFt e' h5
            · omega
          · show viewE (updE _ _ _ _)=_
            rw [view_upd,hFv,hstW,hstB,← List.append_assoc,onS_app _ [(s,pg.number)]];rfl
          · try simp only [vmL,Nat.reduceEqDiff,Nat.reduceAdd,Nat.reduceLT,Nat.reduceLeDiff,Nat.reduceSub,Nat.reduceMul,reduceIte,reduceCtorEq,Int.reduceToNat,hpe,g0,d0,gt,dt,gn,dn,gn1,dn1,qq]
            all_goals (repeat' (first|rfl|trivial|omega|(simp only [];omega)|refine And.intro ?_ ?_))
            refine (canH_le hF s pg.number (Nat.le_succ n) _ ?_ ?_ ?_).2
            · simp only [Heap.get,HL.get,if_neg (show ¬ n+1=0 by omega),if_neg (show ¬ n=0 by omega),if_neg (show ¬ t=0 by omega),if_true]
            · rw [hf];simp only [Heap.get,HL.get,if_true];rfl
            · intro e' he' h8
              have h5:=hF.lt e' he';have h6:=hF.ne e' he';have h7:=hFt e' he';have h9:e'.id≠id:=hid▸h8 e hf;simp only [Heap.get,HL.get,if_neg (show ¬ n+1=e'.id by omega),if_neg (show ¬ n=e'.id by omega),if_neg (show ¬ t=e'.id by omega),if_neg (show ¬ 0=e'.id by omega)];rw [hgd _ h9];exact tail_get hF.nod he'
      · have qq:=N4 0 t n (n+1)
        have hb:bareS w=[]:=by simpa using h3
        have hstB:wordBc pg.number w=[]:=by unfold wordBc;rw [if_pos hb]
        refine Kp0 ?_;refine rp1 [3,5,13,14,15,21,22,23] (x2 (ad1 (a:=j) (by omega)) qq) ?_;refine ⟨⟨(j+1,F,n),ja,hF,htn,hFt,?_⟩,?_⟩
        · show viewE F=_
          rw [hstW,hstB,List.append_nil];exact hFv
        · try simp only [vmL,Nat.reduceEqDiff,Nat.reduceAdd,Nat.reduceLT,Nat.reduceLeDiff,Nat.reduceSub,Nat.reduceMul,reduceIte,reduceCtorEq,Int.reduceToNat,hpe,qq]
          all_goals (repeat' (first|rfl|trivial|omega|(simp only [];omega)|refine And.intro ?_ ?_))
          exact HL.le_tail2 (by unfold Nod tailE;rw [List.map_map];exact hF.nod) pt p0 _
    simp only [Zx2] at h2;obtain rfl:j=W.length:=by omega
    rw [List.take_length] at hFv;refine Ep0 ?_;refine rp1 [3,13,14,15] (x2 (ad1 (a:=k) (by omega)) qq) ?_;refine ⟨⟨(k+1,F,n),ka,hF,?_⟩,?_⟩
    · show viewE F=_
      rw [hst];exact hFv
    · try simp only [vmL,Nat.reduceEqDiff,Nat.reduceAdd,Nat.reduceLT,Nat.reduceLeDiff,Nat.reduceSub,Nat.reduceMul,reduceIte,reduceCtorEq,Int.reduceToNat,qq]
      all_goals (repeat' (first|rfl|trivial|omega|(simp only [];omega)|refine And.intro ?_ ?_))
      exact HL.le_tail2 (by unfold Nod tailE;rw [List.map_map];exact hF.nod) pt p0 _
  simp only [Zx2] at h1;obtain rfl:k=l.length:=by omega
  rw [List.take_length] at hv;refine Ep0 ?_;have qq:=N3 0 t (t+1);refine Rp1 [3,9] qq ?_;refine Zaa ?_;refine Rp1 [3,9,44,45,46] qq ?_;refine Zal.mono (ACall_keysS (P:=Tryz.prog) Tryz.keysS (by kernel_rfl) 0 _) ?_;rintro p h' ⟨rfl,rfl⟩;refine Sp0 ?_;have hword:=hs.words;have hol:=occL_len l;have hkl:=keysS_len l;have hkeys:E.map Ent.key=(onS (occL l) []).map (·.1):=by rw [← hv];unfold viewE;rw [List.map_map];rfl
  have hEl:E.length≤100000:=by
    have h1:E.length=(onS (occL l) []).length:=by rw [← hv];unfold viewE;rw [List.length_map]
    have h2:=onS_len (occL l) [];simp only [List.length_nil] at h2;omega
  have hsrt:=ACall_sortedKeysS (P:=Tryz.prog) Tryz.keysS Tryz.sortedS (by kernel_rfl) (sortsS 4) (enters_of Tryz.func22 (by kernel_rfl) rfl) (enters_of Tryz.func154 (by kernel_rfl) rfl)
    0 ⟨canH 0 E,t⟩ (E.map fun e=>(e.key,.own e.id 0 e.ns.length)) (by simp [Heap.get,HL.get,canH,encE]) (fun p hp=>by
      obtain ⟨e,he,rfl⟩:=List.mem_map.1 hp;have h1:e.key∈(onS (occL l) []).map (·.1):=by rw [← hkeys];exact List.mem_map.2 ⟨e,he,rfl⟩
      obtain ⟨y,hy,e1⟩:=((on_all (occL l)).keys e.key).1 h1;have h2:=hs.key y hy;have:maxLen=9223372036854775807:=rfl;show e.key.length≤_;rw [← e1];omega) (by rw [List.length_map];omega)
  have hkk:((E.map fun e=>((e.key,.own e.id 0 e.ns.length):Str×PV)).map (·.1)).mergeSort leB=keysS l:=by
    unfold keysS;rw [← hkeys,List.map_map];rfl
  rw [hkk] at hsrt;refine Zal.mono hsrt ?_;rintro p h' ⟨rfl,rfl⟩;have hfind:∀ s∈keysS l,Za8 (.str s) (rowsE E)=some (.sl 1 (encI (pagesS l s))):=fun s hs=>rows_find hv hs;have hpl:∀ s,(pagesS l s).length≤100000:=fun s=>by have:=pagesS_len l s;omega
  have hkrow:∀ s,keysOk (.one .s) (.str s) (rowsE E):=fun s=>⟨trivial,fun p hp=>by
    simp only [rowsE,List.mem_map] at hp;obtain ⟨x,_,rfl⟩:=hp;trivial⟩
  refine Sp0 ?_;refine Zaw [(3,.rmp (rowsE E)),(9,.nilsl),(44,.sl 1 ((keysS l).map fun x=>[.str x])),(45,pI (keysS l).length),(46,pI 0)] ⟨?_,View.refl _ _,View.refl _ _,?_,View.refl _ _,trivial⟩ ?_
  · show View _ (.mp 0) _
    refine View.map (es:=encE E) (by simp [Heap.get,HL.get,canH]) (by simp [encE,rowsE]) (fun i a b ha hb=>?_);unfold encE at ha;unfold rowsE at hb;rw [List.getElem?_map,Option.map_eq_some_iff] at ha hb;obtain ⟨e,he,rfl⟩:=ha;obtain ⟨e2,he2,rfl⟩:=hb;rw [he] at he2;cases he2;have hem:e∈E:=List.mem_of_getElem? he;refine ⟨View.refl _ _,View.own_all (fz:=false) ?_ (by rw [encI_len])⟩;simp only [Heap.get,canH,HL.get,if_neg (show ¬ 0=e.id from fun h=>hE.ne e hem h.symm)];exact tail_get hE.nod hem
  · show View _ (.int .i64 _) _
    rw [List.length_map];exact View.refl _ _
  refine Zcx 9 2 rfl ?_;refine Sp0 ?_;have hidx:(indexS l).map encEn=(keysS l).map (encK l):=by unfold indexS;rw [List.map_map];rfl
  rw [hidx];generalize keysS l=K at hfind hkl ⊢;refine Zab ?_;refine Zak (σ:={ s:Nat×Nat×Nat//s.1≤K.length∧s.2.1<s.2.2 }) (fun s=>([(3,.rmp (rowsE E)),(9,.own s.1.2.1 0 s.1.1),(44,.sl 1 (strR K)),(45,pI K.length),(46,pI s.1.1)],⟨[(s.1.2.1,.arr false 2 ((K.take s.1.1).map (encK l)))],s.1.2.2⟩)) (fun s=>K.length-s.1.1) ⟨(0,t,t+1),Nat.zero_le _,by show t<t+1;omega⟩ ?_ ?_ ?_
  · try simp only [vmL,Nat.reduceEqDiff,Nat.reduceAdd,Nat.reduceLT,Nat.reduceLeDiff,Nat.reduceSub,Nat.reduceMul,reduceIte,reduceCtorEq,Int.reduceToNat,strR,qq]
    all_goals (repeat' (first|rfl|trivial|omega|(simp only [];omega)|refine And.intro ?_ ?_))
  · exact Sc1 qq
  rintro ⟨⟨k,id,n⟩,hk,hid⟩;simp only [] at hk hid ⊢;have qq:=N3 id n (n+1);refine Rp1 [3,9,44,45,46,47] qq ?_;refine Zaa ?_;refine Zac rfl (fun h4=>?_) (fun h4=>?_)
  · simp only [Zx3] at h4
    have ka:k<K.length:=by omega
    have hwl:=Za7 K;have hrow:(strR K).getD k []=[PV.str K[k]]:=rowm ka;have hfk:=hfind _ (List.getElem_mem ka);have hst:=mapK_step (encK l) ka;refine Kp0 ?_;refine Zaa ?_;refine Zab ?_;refine Rp1 [3,9,11,44,45,46] (x3 hwl hrow qq) ?_;refine Ok ?_;have hkr:=hkrow K[k];generalize K[k]=s at hfk hkr hst ⊢;have htk:(K.take k).length=k:=by rw [List.length_take];omega
    have hml:((K.take k).map (encK l)).length=k:=by rw [List.length_map,htk]
    have hmt:List.take k ((K.take k).map (encK l))=(K.take k).map (encK l):=List.take_of_length_le (by omega);have hOnce:=sp_concordance_once (pagesS l s) (by have:=hpl s;omega);have hen:(K.take k).map (encK l)++[[.str s,.sl 1 ((Zbv (pagesS l s)).map fun x=>[pI x])]]=(K.take (k+1)).map (encK l):=hst.symm;generalize (K.take k).map (encK l)=M at hml hmt hen ⊢;refine rp1 [3,9,44,45,46] (x2 hfk qq) ?_;refine ⟨hkr.2,?_⟩;refine Ap1 hOnce (x4 hml hmt hen qq) ?_;refine ⟨by omega,by omega,?_⟩;refine rp1 [3,9,44,45,46] (x3 (ad1 (a:=k) (by omega)) hen qq) ?_;refine ⟨⟨(k+1,n+1,n+1+1),ka,by show n+1<n+1+1;omega⟩,?_⟩;exact Fn1 (x2 hen qq)
  simp only [Zx2] at h4;obtain rfl:k=K.length:=by omega
  rw [List.take_length];refine Ep0 ?_;refine Rp0 [2] ?_;refine Tp0 ?_;exact View.own_all (fz:=false) (by simp [Heap.get,HL.get]) (by rw [List.length_map])
def c_concordance_Format:VC:=(ZR [ZO 4 (.mv (.c .nilsl))] (ZR [ZO 5 (.mv (.c .nilsl))] (.seq (ZR [ZM 10 1,ZO 11 (.len false (.t 10)),ZO 12 (.mv (.c (.int .i64 0)))] (.block 0 (.loop (ZR [ZO 13 (.bin .lss (.t 12) (.t 11))] (.seq (.cond (.t 13) .skip (.exit 0)) (.seq (.block 1 (ZR [ZO 14 (.iaddr 2 (.t 10) (.t 12)),ZO 15 (.load true 2 (.t 14)),ZO 7 (.alloc [(.str []),.nilsl]),ZN (.store 2 (.t 7) (.t 15))] (ZR [ZO 16 (.faddr 1 (.t 7)),ZO 17 (.load false 1 (.t 16)),ZO 18 (.call 57 [.t 17]),ZM 8 18] (ZR [ZM 19 0,ZO 20 (.mm false [.t 19,(.c (.int .i64 200))]),ZO 21 (.mm true [.t 20,(.c (.int .i64 0))]),ZO 22 (.faddr 0 (.t 7)),ZO 23 (.load false 1 (.t 22)),ZO 24 (.len true (.t 23)),ZO 25 (.bin .sub (.t 21) (.t 24)),ZM 26 8,ZO 27 (.len true (.t 26)),ZO 28 (.bin .sub (.t 25) (.t 27)),ZO 29 (.bin .sub (.t 28) (.c (.int .i64 2))),ZM 9 29] (.draw2 [ZM 30 5,ZO 31 (.faddr 0 (.t 7)),ZO 32 (.load false 1 (.t 31)),ZO 33 (.bin .add (.t 32) (.c (.str [32]))),ZM 34 9,ZO 35 (.mm true [.t 34,(.c (.int .i64 2))]),ZO 36 (.call 93 [(.c (.str [46])),.t 35]),ZO 37 (.bin .add (.t 33) (.t 36)),ZO 38 (.bin .add (.t 37) (.c (.str [32]))),ZM 39 8,ZO 40 (.bin .add (.t 38) (.t 39)),ZO 41 (.bslice 1 1 [(.str [])] [(0,(.t 40))]),ZO 42 (.app 1 16 [(.str [])] false (.t 30) (.t 41)),ZM 5 42] [true,true,true,true,true,true,true,true,true,true,true,true,false,false]))))) (.region [ZO 43 (.bin .add (.t 12) (.c (.int .i64 1))),ZM 12 43] false))))))) (ZR [ZM 44 5,ZM 4 44] .ret))))
theorem parts_small:∀ (f:Nat) (l:List Int),(∀ x∈l,i64 x)→∀ s∈partsT f l,s.length≤44
 | 0,l,_,s,hs=>by simp [partsT] at hs
 | _+1,[],_,s,hs=>by simp [partsT] at hs
 | f+1,a::r,h,s,hs=>by
  unfold partsT at hs;rcases List.mem_append.1 hs with h1|h1
  ·have ha:=h a List.mem_cons_self;by_cases hk:Zbo a r=0
   ·rw [hk] at h1;simp only [runT,if_true,List.mem_singleton] at h1;subst h1;have:=itoa_len a ha;omega
   ·have hl:=runLen_le r a;have h2:=runLen_at r a 0 (by omega);have h3:=runLen_at r a (Zbo a r-1) (by omega);have i2:=h _ (Zx7 _ (List.getElem_mem (show 0<r.length by omega)));have i3:=h _ (Zx7 _ (List.getElem_mem (show Zbo a r-1<r.length by omega)));rw [h2] at i2;rw [h3] at i3;refine runT_small a _ ha (by simpa using i2) ?_ s h1;have e:a+1+((Zbo a r-1:Nat):Int)=a+(Zbo a r:Int):=by omega
    rw [← e];exact i3
  ·exact parts_small f _ (fun x hx=>h x (Zx7 _ (List.mem_of_mem_drop hx))) s h1
theorem ranges_len (l:List Int) (hl:l.length≤1000) (hi:∀ x∈l,i64 x):(rangesS l).length≤100000:=by
 have h1:=join_lenS sepT 44 (partsI (Zbv l)) (parts_small _ _ fun x hx=>hi x ((mem_onceI l x).1 hx));have h2:=partsT_len (Zbv l).length (Zbv l);have h3:=onceI_len l;have h4:(partsI (Zbv l)).length*(44+sepT.length)≤1000*(44+2):=Nat.mul_le_mul (by unfold partsI;omega) (by decide);unfold rangesS;omega
def widthN (w:Int) (e:Str×List Int):Int:=max (min w 200) 0-e.1.length-(rangesS e.2).length-2
def lineS (w:Int) (e:Str×List Int):Str:=e.1++[32]++Lib.repeatL [46] (max (widthN w e) 2).toNat++[32]++rangesS e.2
theorem closed_ints (l:List Int):Closed (.sl 1 (l.map fun x=>[pI x])):=Zai fun _ _ y hy=>by rw [List.mem_singleton] at hy;subst hy;exact cI _
theorem closed_ens (l : List (Str × List Int)) : Closed (.sl 2 (l.map encEn)) := Zai (fun e _ x hx => by
  simp only [encEn,List.mem_cons,List.not_mem_nil,or_false] at hx;rcases hx with rfl|rfl
  ·exact cS _
  ·exact closed_ints _)
theorem sp_concordance_Format (w:Int) (l:List (Str×List Int)) (hw:i64 w) (hl:l.length≤1000) (hs:∀ e∈l,e.1.length≤1000∧e.2.length≤1000∧∀ x∈e.2,i64 x):Zam Tryz.prog 55 [pI w,.sl 2 (l.map encEn)] (.sl 1 (strR (l.map (lineS w)))):=by
 refine Zad ?_ (Zbs _) (by intro y hy;simp only [List.mem_cons,List.not_mem_nil,or_false] at hy;rcases hy with rfl|rfl;exact cI _;exact closed_ens l);refine Gn (vc:=c_concordance_Format) [.t 4] Tryz.func55 ?_;unfold c_concordance_Format
 try dsimp only [ZM,ZO,ZN,ZG,ZR,ZU]
 refine Rp0 [0,1] ?_;refine Rp0 [0,1,5] ?_;refine Zcx 5 1 rfl ?_;refine Sp0 ?_;refine Zaa ?_;refine Rp1 [0,5,10,11,12] @xlm ?_;refine Zab ?_;refine Zak (σ:={ s:Nat×Nat×Nat//s.1≤l.length∧s.2.1<s.2.2 }) (fun s=>([(0,pI w),(5,.own s.1.2.1 0 s.1.1),(10,.sl 2 (l.map encEn)),(11,pI l.length),(12,pI s.1.1)],⟨[(s.1.2.1,.arr false 1 (strR ((l.take s.1.1).map (lineS w))))],s.1.2.2⟩)) (fun s=>l.length-s.1.1) ⟨(0,0,1),Nat.zero_le _,by simp⟩ ?_ ?_ ?_
 ·try simp only [vmL,Nat.reduceEqDiff,Nat.reduceAdd,Nat.reduceLT,Nat.reduceLeDiff,Nat.reduceSub,Nat.reduceMul,reduceIte,reduceCtorEq,Int.reduceToNat,strR,true_and]
  all_goals (repeat' (first|rfl|trivial|omega|(simp only [];omega)|refine And.intro ?_ ?_))
 ·refine Sp0 ?_;rfl
 rintro ⟨⟨k,id,t⟩,hk,hid⟩;simp only [] at hk hid ⊢;have qq:=N4 id t (t+1) (t+1+1);refine Rp1 [0,5,10,11,12,13] qq ?_;refine Zaa ?_;refine Zac rfl (fun h1=>?_) (fun h1=>?_)
 ·simp only [Zx3] at h1;have ka:k<l.length:=by omega
  refine Kp0 ?_;refine Zaa ?_;refine Zab ?_;refine Zaa (Zae [0,5,7,10,11,12] ?_);simp only [vmL,Nat.reduceEqDiff,Nat.reduceAdd,Nat.reduceLT,Nat.reduceLeDiff,Nat.reduceSub,Nat.reduceMul,reduceIte,reduceCtorEq,Int.reduceToNat,List.length_map,rowm ka,encEn,qq];refine Ok ?_;have hst:=mapK_step (lineS w) ka;obtain ⟨g1,g2,g3⟩:=hs _ (List.getElem_mem ka);generalize l[k]=e at hst g1 g2 g3 ⊢;refine Rp1 [0,5,7,8,10,11,12] qq ?_;have hR:=Zck e.2 (by omega) g3;refine ACall_v [.sl 1 (e.2.map fun x=>[pI x])] ⟨View.refl _ _,trivial⟩ hR (Zcy _) ?_;refine Sp1 qq ?_;refine Zaa (Zae [0,5,7,8,9,10,11,12] ?_);have hrl:=ranges_len e.2 (by omega) g3;have hwN:widthN w e=max (min w 200) 0-e.1.length-(rangesS e.2).length-2:=rfl;have hlS:lineS w e=e.1++[32]++Lib.repeatL [46] (max (widthN w e) 2).toNat++[32]++rangesS e.2:=rfl;generalize rangesS e.2=R at hrl hwN hlS ⊢;generalize widthN w e=N at hwN hlS;generalize lineS w e=Ln at hlS hst;have hwi:=i64_iff.1 hw;have e1:IntKind.i64.wrap (IntKind.i64.wrap (IntKind.i64.wrap (max (min w 200) 0-(e.1.length:Int))-(R.length:Int))-2)=N:=by
   rw [w64 (n:=max (min w 200) 0-(e.1.length:Int)) (by omega) (by omega),w64 (n:=max (min w 200) 0-(e.1.length:Int)-(R.length:Int)) (by omega) (by omega),w64 (by omega) (by omega)];omega
  have e0:(if 0>(if 200<w then 200 else w) then 0 else if 200<w then 200 else w)=max (min w 200) 0:=by
   split<;>(try split)<;>omega
  refine Sp1 (x3 e0 e1 qq) ?_;have hmx:max N 2=(((max N 2).toNat:Nat):Int):=by omega
  have hRp:=sp_strings_Repeat [46] (max N 2).toNat (by omega) (by simp);have hrpl:(Lib.repeatL [46] (max N 2).toNat).length≤300:=by rw [Lib.repeatL_length,List.length_singleton];omega
  generalize (max N 2).toNat=rn at hmx hRp hlS hrpl;generalize Lib.repeatL [46] rn=D at hRp hlS hrpl;have htk:(l.take k).length=k:=by rw [List.length_take];omega
  have hml:(strR ((l.take k).map (lineS w))).length=k:=by rw [Za7,List.length_map,htk]
  have hmt:List.take k (strR ((l.take k).map (lineS w)))=strR ((l.take k).map (lineS w)):=List.take_of_length_le (by omega);have hen:strR ((l.take k).map (lineS w))++[[.str Ln]]=strR ((l.take (k+1)).map (lineS w)):=by rw [hst,← strR_app];rfl
  generalize strR ((l.take k).map (lineS w))=M at hml hmt hen ⊢;have e2:(if 2>N then 2 else N)=((rn:Nat):Int):=by rw [← hmx];split<;>omega
  refine VW_draw2Q [0,5,10,11,12] ⟨[(t,.arr false 2 [[.str e.1,.sl 1 (e.2.map fun x=>[pI x])]])],t+20⟩ (by simp [Heap.le,Heap.get,HL.le,HL.get]) ?_;refine Sp1 (x2 e2 qq) ?_;refine ⟨by omega,_,.inl hRp,?_⟩;have hpl2:e.1++[32]++D++[32]++R=Ln:=hlS.symm;refine Sp1 (x5 hml hmt hpl2 hen qq) ?_;refine ⟨by simp;omega,by simp;omega,by simp;omega,by omega,by omega,by omega,?_⟩;refine rp1 [0,5,10,11,12] (x2 (ad1 (a:=k) (by omega)) qq) ?_;refine ⟨⟨(k+1,t+1,t+1+1),ka,by show t+1<t+1+1;omega⟩,?_⟩;exact Fn1 qq
 simp only [Zx2] at h1;obtain rfl:k=l.length:=by omega
 rw [List.take_length];refine Ep0 ?_;refine Rp0 [4] ?_;refine Tp0 ?_;exact View.own_all (fz:=false) (by simp [Heap.get,HL.get]) (by rw [Za7,List.length_map])
def c_pandectlaw56_awake:VC:=(ZR [ZO 0 (.mv (.c (.bool false)))] (ZR [ZO 3 (.bslice 1 2 [.int .i64 0] [(0,(.c (.int .i64 1))),(1,(.c (.int .i64 3)))]),ZO 4 (.build [(.str []),.nilsl] [(0,(1,(.c (.str [116,97,120])))),(1,(1,(.t 3)))]),ZO 5 (.bslice 2 1 [(.str []),.nilsl] [(0,(.t 4))]),ZO 6 (.call 55 [(.c (.int .i64 14)),.t 5]),ZM 1 6] (ZR [ZO 7 (.bslice 1 1 [(.str [])] [(0,(.c (.str [40,116,97,120,44,32,111,102,32,116,97,120])))]),ZO 8 (.build [.int .i64 0,(.str []),.nilsl,.nilsl] [(0,(1,(.c (.int .i64 3)))),(2,(1,(.t 7)))]),ZO 9 (.bslice 4 1 [.int .i64 0,(.str []),.nilsl,.nilsl] [(0,(.t 8))]),ZO 10 (.call 56 [.t 9]),ZM 2 10] (.seq (ZR [ZM 11 1,ZO 12 (.len false (.t 11)),ZO 13 (.bin .neq (.t 12) (.c (.int .i64 1))),ZM 14 13,ZG 15 (.mv (.t 2)) 14 false,ZG 16 (.len false (.t 15)) 14 false,ZG 17 (.bin .neq (.t 16) (.c (.int .i64 2))) 14 false,ZO 18 (.pick (.t 14) (.c (.bool true)) (.t 17))] (.cond (.t 18) (ZR [ZO 0 (.mv (.c (.bool false)))] .ret) .skip)) (ZR [ZO 19 (.bslice 1 7 [.int .i64 0] [(0,(.c (.int .i64 5))),(1,(.c (.int .i64 1))),(2,(.c (.int .i64 2))),(3,(.c (.int .i64 3))),(4,(.c (.int .i64 5))),(5,(.c (.int .i64 7))),(6,(.c (.int .i64 8)))]),ZO 20 (.call 57 [.t 19]),ZO 21 (.bin .eql (.t 20) (.c (.str [49,32,116,111,32,51,44,32,53,44,32,55,44,32,56]))),ZM 22 21,ZG 23 (.mv (.t 1)) 22 true,ZG 24 (.iaddr 1 (.t 23) (.c (.int .i64 0))) 22 true,ZG 25 (.load false 1 (.t 24)) 22 true,ZG 26 (.bin .eql (.t 25) (.c (.str [116,97,120,32,46,46,46,46,46,32,49,44,32,51]))) 22 true,ZO 27 (.pick (.t 22) (.t 26) (.c (.bool false))),ZM 28 27,ZG 29 (.mv (.t 2)) 28 true,ZG 30 (.iaddr 2 (.t 29) (.c (.int .i64 1))) 28 true,ZG 31 (.faddr 0 (.t 30)) 28 true,ZG 32 (.load false 1 (.t 31)) 28 true,ZG 33 (.bin .eql (.t 32) (.c (.str [116,97,120]))) 28 true,ZO 34 (.pick (.t 28) (.t 33) (.c (.bool false))),ZM 35 34,ZG 36 (.mv (.t 2)) 35 true,ZG 37 (.iaddr 2 (.t 36) (.c (.int .i64 1))) 35 true,ZG 38 (.faddr 1 (.t 37)) 35 true,ZG 39 (.load false 1 (.t 38)) 35 true,ZG 40 (.len false (.t 39)) 35 true,ZG 41 (.bin .eql (.t 40) (.c (.int .i64 1))) 35 true,ZO 42 (.pick (.t 35) (.t 41) (.c (.bool false))),ZM 43 42,ZG 44 (.mv (.t 2)) 43 true,ZG 45 (.iaddr 2 (.t 44) (.c (.int .i64 1))) 43 true,ZG 46 (.faddr 1 (.t 45)) 43 true,ZG 47 (.load false 1 (.t 46)) 43 true,ZG 48 (.iaddr 1 (.t 47) (.c (.int .i64 0))) 43 true,ZG 49 (.load false 1 (.t 48)) 43 true,ZG 50 (.bin .eql (.t 49) (.c (.int .i64 3))) 43 true,ZO 51 (.pick (.t 43) (.t 50) (.c (.bool false))),ZM 0 51] .ret)))))
def taxT:Str:=[116,97,120]
def exE:List (Str×List Int):=[(taxT,[1,3])]
def exP:List Pg:=[⟨3,[],[[40,116,97,120,44,32,111,102,32,116,97,120]],[]⟩]
theorem ex_r2:rangesS [1,3]=[49,44,32,51]:=by
 have h:Zbv [1,3]=[1,3]:=onceI_self (by decide);have h5:Lib.join (partsI [1,3]) sepT=[49,44,32,51]:=by kernel_rfl
 unfold rangesS;rw [h,h5]
theorem ex_line:exE.map (lineS 14)=[[116,97,120,32,46,46,46,46,46,32,49,44,32,51]]:=by
 have h5:taxT++[32]++Lib.repeatL [46] (max (max (min 14 200) 0-(taxT.length:Int)-(([49,44,32,51]:Str).length:Int)-2) 2).toNat++[32]++[49,44,32,51]=[116,97,120,32,46,46,46,46,46,32,49,44,32,51]:=by kernel_rfl
 simp only [exE,List.map_cons,List.map_nil,lineS,widthN,ex_r2];rw [h5]
theorem ex_ranges:rangesS [5,1,2,3,5,7,8]=[49,32,116,111,32,51,44,32,53,44,32,55,44,32,56]:=by
 have h1:Zbv [5,1,2,3,5,7,8]=Zbv [1,2,3,5,7,8]:=onceI_ext fun x=>by simp;omega
 have h2:Zbv [1,2,3,5,7,8]=[1,2,3,5,7,8]:=onceI_self (by decide);have h5:Lib.join (partsI [1,2,3,5,7,8]) sepT=[49,32,116,111,32,51,44,32,53,44,32,55,44,32,56]:=by kernel_rfl
 unfold rangesS;rw [h1,h2,h5]
theorem ex_keys:keysS exP=[[111,102],taxT]:=by
  have h:(onS (occL exP) []).map (·.1)=[taxT,[111,102]]:=by kernel_rfl
  unfold keysS;rw [h];have h2:¬ leB taxT [111,102]=true:=by decide
  simp [List.mergeSort,List.MergeSort.Internal.splitInTwo,List.merge,h2]
theorem ex_index:indexS exP=[([111,102],[3]),(taxT,[3])]:=by
 have h1:pagesS exP [111,102]=[3]:=by kernel_rfl
 have h2:pagesS exP taxT=[3,3]:=by kernel_rfl
 have h3:Zbv [3,3]=Zbv [3]:=onceI_ext fun x=>by simp
 have h4:Zbv [3]=[3]:=onceI_self (by decide);unfold indexS;rw [ex_keys];simp only [List.map_cons,List.map_nil,h1,h2,h3,h4]
theorem ex_smal:SmalQ exP:=by
 refine ⟨by decide,by decide,by decide,by decide⟩
theorem sp_awake56:Zam Tryz.prog 25 [] (.bool true):=by
 have i1:∀ x:Int,0≤x→x≤100→i64 x:=fun x h1 h2=>i64_iff.2 (by omega);have A:=sp_concordance_Format 14 exE (i1 _ (by decide) (by decide)) (by decide) (fun e he=>by
  simp only [exE,List.mem_singleton] at he;subst he;refine ⟨by decide,by decide,fun x hx=>?_⟩;simp only [List.mem_cons,List.not_mem_nil,or_false] at hx;rcases hx with rfl|rfl<;>exact i1 _ (by decide) (by decide))
 have B:=sp_concordance_Index exP ex_smal;have C:=Zck [5,1,2,3,5,7,8] (by decide) (fun x hx=>by
  simp only [List.mem_cons,List.not_mem_nil,or_false] at hx;rcases hx with rfl|rfl|rfl|rfl|rfl|rfl|rfl<;>exact i1 _ (by decide) (by decide))
 rw [ex_line] at A;rw [ex_index] at B;rw [ex_ranges] at C;have A':Zam Tryz.prog 55 [pI 14,.sl 2 (exE.map encEn)] (.sl 1 [[.str [116,97,120,32,46,46,46,46,46,32,49,44,32,51]]]):=A;have B':Zam Tryz.prog 56 [.sl 4 (exP.map Pg.enc)] (.sl 2 [[.str [111,102],.sl 1 [[pI 3]]],[.str [116,97,120],.sl 1 [[pI 3]]]]):=B;refine Gp (vc:=c_pandectlaw56_awake) [.t 0] (cB _) Tryz.func25 ?_;unfold c_pandectlaw56_awake;try dsimp only [ZM,ZO,ZN,ZG,ZR,ZU]
 refine Rp0 [] ?_;refine Rp0 [1] ?_;refine ACall_f [pI 14,.sl 2 (exE.map encEn)] ⟨View.refl _ _,?_,trivial⟩ (Zaq A' ?_)
 ·refine View.ownV (fz:=false) (es:=[[.str [116,97,120],.own 0 0 2]]) rfl (by decide) rfl (fun i hi=>?_) (fun i j hi hj=>?_)
  ·obtain rfl:i=0:=by omega
   rfl
  ·obtain rfl:i=0:=by omega
   obtain rfl|rfl:j=0∨j=1:=by omega
   ·exact View.refl _ _
   ·exact View.own_all (fz:=false) (es:=[[pI 1],[pI 3]]) rfl rfl
 refine Sp0 ?_;refine Rp0 [1,2] ?_;refine ACall_f [.sl 4 (exP.map Pg.enc)] ⟨?_,trivial⟩ (Zaq B' ?_)
 ·refine View.ownV (fz:=false) (es:=[[pI 3,.str [],.own 2 0 1,.nilsl]]) rfl (by decide) rfl (fun i hi=>?_) (fun i j hi hj=>?_)
  ·obtain rfl:i=0:=by omega
   rfl
  ·obtain rfl:i=0:=by omega
   obtain rfl|rfl|rfl|rfl:j=0∨j=1∨j=2∨j=3:=by omega
   ·exact View.refl _ _
   ·exact View.refl _ _
   ·exact View.own_all (fz:=false) (es:=[[.str [40,116,97,120,44,32,111,102,32,116,97,120]]]) rfl rfl
   ·exact View.nil _ _
 refine Sp0 ?_;refine Zaa ?_;have n1:(((1:Nat):Int) != 1)=false:=by decide
 have n2:(((2:Nat):Int) != 2)=false:=by decide
 have n3:(((1:Nat):Int)==1)=true:=by decide
 refine Rp1 [1,2,18] (x3 n1 n2 n3) ?_;refine Zac rfl (fun h1=>?_) (fun h1=>?_)
 ·cases h1
 refine Kp0 ?_;refine Rp0 [0] ?_;refine ACall_f [.sl 1 ([5,1,2,3,5,7,8].map fun x=>[pI x])] ⟨?_,trivial⟩ (Zaq C ?_)
 ·exact View.own_all (fz:=false) rfl rfl
 refine Sp1 (x3 n1 n2 n3) ?_;refine ⟨by decide,by decide,by decide,by decide,by decide,?_⟩;exact Tv0
end Go.Proofs.w
namespace Go.VM
open Go Go.Proofs.w
theorem pages_basic {m:Int} {B:List Ln} {P:List (List Ln)} (hp:pagesG m B=some P):(∀ l∈P,l≠[])∧∀ l∈P,l.length≤B.length:=by
 unfold pagesG at hp;obtain ⟨s,hs,rfl⟩:=Option.map_eq_some_iff.1 hp;have I:=pagG_inv (fun g hg=>grpG_ne B [] g hg) hs;have hf:=I.flat
 rw [grpG_flat,List.nil_append] at hf;obtain ⟨D,N⟩:=s;have h1:=I.ne;simp only [] at hf h1;have hE:endG (D,N)=if N=[] then D else D++[N]:=rfl;rw [hE];have hfl:(if N=[] then D else D++[N]).flatten=B:=by
  by_cases h:N=[]
  ·rw [if_pos h];rw [h,List.append_nil] at hf;exact hf
  ·rw [if_neg h,List.flatten_append];simpa using hf
 refine ⟨fun l hl=>?_,fun l hl=>?_⟩
 ·by_cases h:N=[]
  ·rw [if_pos h] at hl;exact h1 l hl
  ·rw [if_neg h] at hl;rcases List.mem_append.1 hl with hl|hl
   ·exact h1 l hl
   ·rw [List.mem_singleton] at hl;subst hl;exact h
 ·rw [← hfl];obtain ⟨a,b,e⟩:=List.append_of_mem hl;rw [e,List.flatten_append,List.flatten_cons,Zx5,Zx5];omega
theorem pages_few {m:Int} {B:List Ln} {P:List (List Ln)} (hp:pagesG m B=some P):P.length≤B.length:=by
 have h:=(pages_basic hp).1;have h2:=flat_count h;unfold pagesG at hp;obtain ⟨s,hs,rfl⟩:=Option.map_eq_some_iff.1 hp;have I:=pagG_inv (fun g hg=>grpG_ne B [] g hg) hs;have hf:=I.flat
 rw [grpG_flat,List.nil_append] at hf;obtain ⟨D,N⟩:=s;have hE:endG (D,N)=if N=[] then D else D++[N]:=rfl;rw [hE] at h2 ⊢;simp only [] at hf;have hfl:(if N=[] then D else D++[N]).flatten=B:=by
  by_cases h:N=[]
  ·rw [if_pos h];rw [h,List.append_nil] at hf;exact hf
  ·rw [if_neg h,List.flatten_append];simpa using hf
 rw [hfl] at h2;exact h2
end Go.VM
namespace Go.Proofs.w
open Go Go.VM
def Zbf:VC:=(ZR [ZO 3 (.box 8 (.t 0)),ZO 6 (.mv (.c (.bool false)))] (.seq (ZR [ZO 21 (.load true 8 (.t 3)),ZO 22 (.call 24 [.t 21,(.c (.int .i64 24))]),ZO 23 (.un .not (.t 22))] (.cond (.t 23) (ZR [ZO 24 (.call 25 []),ZM 6 24] .ret) .skip)) (ZR [ZO 26 (.load true 8 (.t 3)),ZM 27 1,ZM 28 2,ZO 29 (.call 11 [.t 26,.t 27,.t 28]),ZM 25 29,ZO 30 (.ext (.t 25) 0),ZO 31 (.ext (.t 25) 1),ZM 7 30,ZM 8 31] (.seq (ZR [ZM 32 8,ZO 33 (.bin .neq (.t 32) (.c (.int .i64 0)))] (.cond (.t 33) (ZR [ZM 34 7,ZO 35 (.len false (.t 34)),ZO 36 (.bin .eql (.t 35) (.c (.int .i64 0))),ZM 37 36,ZG 38 (.call 25 []) 37 true,ZO 39 (.pick (.t 37) (.t 38) (.c (.bool false))),ZM 6 39] .ret) .skip)) (ZR [ZO 40 (.load true 8 (.t 3)),ZM 41 7,ZO 42 (.call 26 [.t 40,.t 41]),ZM 9 42] (ZR [ZO 10 (.mv (.c (.int .i64 0)))] (.seq (ZR [ZO 43 (.load true 8 (.t 3)),ZO 44 (.call 27 [.t 43]),ZO 45 (.len false (.t 44)),ZO 46 (.mv (.c (.int .i64 0)))] (.block 0 (.loop (ZR [ZO 47 (.bin .lss (.t 46) (.t 45))] (.seq (.cond (.t 47) .skip (.exit 0)) (.seq (.block 1 (ZR [ZM 48 46,ZO 49 (.iaddr 8 (.t 44) (.t 46)),ZO 50 (.load true 8 (.t 49)),ZO 12 (.alloc ZU),ZM 11 48,ZN (.store 8 (.t 12) (.t 50))] (ZR [ZM 51 11,ZO 52 (.bin .gtr (.t 51) (.c (.int .i64 0))),ZM 53 52,ZG 54 (.faddr 3 (.t 12)) 53 true,ZG 55 (.load false 1 (.t 54)) 53 true,ZG 56 (.bin .eql (.t 55) (.c (.int .i64 1))) 53 true,ZG 57 (.mv (.t 56)) 53 true,ZG 58 (.faddr 3 (.t 12)) 57 false,ZG 59 (.load false 1 (.t 58)) 57 false,ZG 60 (.bin .eql (.t 59) (.c (.int .i64 2))) 57 false,ZG 61 (.pick (.t 57) (.c (.bool true)) (.t 60)) 53 true,ZO 62 (.pick (.t 53) (.t 61) (.c (.bool false)))] (.cond (.t 62) (.region [ZM 63 10,ZO 64 (.bin .add (.t 63) (.c (.int .i64 1))),ZM 10 64] false) .skip)))) (.region [ZO 65 (.bin .add (.t 46) (.c (.int .i64 1))),ZM 46 65] false))))))) (.seq (ZR [ZM 66 9,ZO 67 (.len false (.t 66)),ZO 68 (.mv (.c (.int .i64 0)))] (.block 2 (.loop (ZR [ZO 69 (.bin .lss (.t 68) (.t 67))] (.seq (.cond (.t 69) .skip (.exit 2)) (.seq (.block 3 (ZR [ZO 70 (.iaddr 2 (.t 66) (.t 68)),ZO 71 (.load true 2 (.t 70)),ZO 14 (.alloc [(.str []),.nilsl]),ZN (.store 2 (.t 14) (.t 71))] (.seq (ZR [ZO 72 (.faddr 1 (.t 14)),ZO 73 (.load false 1 (.t 72)),ZO 74 (.len false (.t 73)),ZO 75 (.bin .eql (.t 74) (.c (.int .i64 0)))] (.cond (.t 75) (ZR [ZO 6 (.mv (.c (.bool false)))] .ret) .skip)) (.seq (ZR [ZO 76 (.faddr 1 (.t 14)),ZO 77 (.load false 1 (.t 76)),ZO 78 (.len false (.t 77)),ZO 79 (.mv (.c (.int .i64 0)))] (.block 4 (.loop (ZR [ZO 80 (.bin .lss (.t 79) (.t 78))] (.seq (.cond (.t 80) .skip (.exit 4)) (.seq (.block 5 (ZR [ZM 81 79,ZO 82 (.iaddr 1 (.t 77) (.t 79)),ZO 83 (.load false 1 (.t 82)),ZM 15 81,ZM 16 83] (ZR [ZM 84 16,ZO 85 (.bin .lss (.t 84) (.c (.int .i64 1))),ZM 86 85,ZG 87 (.mv (.t 16)) 86 false,ZG 88 (.mv (.t 7)) 86 false,ZG 89 (.len false (.t 88)) 86 false,ZG 90 (.bin .gtr (.t 87) (.t 89)) 86 false,ZO 91 (.pick (.t 86) (.c (.bool true)) (.t 90)),ZM 92 91,ZG 93 (.mv (.t 15)) 92 false,ZG 94 (.bin .gtr (.t 93) (.c (.int .i64 0))) 92 false,ZG 95 (.mv (.t 94)) 92 false,ZG 96 (.mv (.t 16)) 95 true,ZG 97 (.faddr 1 (.t 14)) 95 true,ZG 98 (.load false 1 (.t 97)) 95 true,ZG 99 (.mv (.t 15)) 95 true,ZG 100 (.bin .sub (.t 99) (.c (.int .i64 1))) 95 true,ZG 101 (.iaddr 1 (.t 98) (.t 100)) 95 true,ZG 102 (.load false 1 (.t 101)) 95 true,ZG 103 (.bin .add (.t 102) (.c (.int .i64 1))) 95 true,ZG 104 (.bin .neq (.t 96) (.t 103)) 95 true,ZG 105 (.pick (.t 95) (.t 104) (.c (.bool false))) 92 false,ZO 106 (.pick (.t 92) (.c (.bool true)) (.t 105))] (.cond (.t 106) (ZR [ZO 6 (.mv (.c (.bool false)))] .ret) .skip)))) (.region [ZO 107 (.bin .add (.t 79) (.c (.int .i64 1))),ZM 79 107] false))))))) (ZR [ZO 108 (.faddr 0 (.t 14)),ZO 109 (.load false 1 (.t 108)),ZO 110 (.call 28 [.t 109]),ZO 111 (.iaddr 1 (.t 110) (.c (.int .i64 0))),ZO 112 (.load false 1 (.t 111)),ZM 17 112] (ZR [ZO 18 (.mv (.c (.bool false)))] (.seq (ZR [ZM 113 7,ZO 114 (.faddr 1 (.t 14)),ZO 115 (.load false 1 (.t 114)),ZO 116 (.iaddr 1 (.t 115) (.c (.int .i64 0))),ZO 117 (.load false 1 (.t 116)),ZO 118 (.bin .sub (.t 117) (.c (.int .i64 1))),ZO 119 (.iaddr 4 (.t 113) (.t 118)),ZO 120 (.faddr 2 (.t 119)),ZO 121 (.load false 1 (.t 120)),ZO 122 (.len false (.t 121)),ZO 123 (.mv (.c (.int .i64 0)))] (.block 6 (.loop (ZR [ZO 124 (.bin .lss (.t 123) (.t 122))] (.seq (.cond (.t 124) .skip (.exit 6)) (.seq (.block 7 (ZR [ZO 125 (.iaddr 1 (.t 121) (.t 123)),ZO 126 (.load false 1 (.t 125)),ZM 20 126] (.region [ZM 127 18,ZM 128 127,ZG 129 (.mv (.t 20)) 128 false,ZG 130 (.len true (.t 129)) 128 false,ZG 131 (.mv (.t 17)) 128 false,ZG 132 (.len true (.t 131)) 128 false,ZG 133 (.bin .geq (.t 130) (.t 132)) 128 false,ZG 134 (.mv (.t 133)) 128 false,ZG 135 (.mv (.t 20)) 134 true,ZG 136 (.mv (.t 17)) 134 true,ZG 137 (.len true (.t 136)) 134 true,ZG 138 (.slice true 0 (.t 135) none (some (.t 137))) 134 true,ZG 139 (.mv (.t 17)) 134 true,ZG 140 (.bin .eql (.t 138) (.t 139)) 134 true,ZG 141 (.pick (.t 134) (.t 140) (.c (.bool false))) 128 false,ZO 142 (.pick (.t 128) (.c (.bool true)) (.t 141)),ZM 18 142] false))) (.region [ZO 143 (.bin .add (.t 123) (.c (.int .i64 1))),ZM 123 143] false))))))) (ZR [ZM 144 18,ZO 145 (.un .not (.t 144))] (.cond (.t 145) (ZR [ZO 6 (.mv (.c (.bool false)))] .ret) .skip))))))))) (.region [ZO 146 (.bin .add (.t 68) (.c (.int .i64 1))),ZM 68 146] false))))))) (ZR [ZM 147 9,ZO 148 (.len false (.t 147)),ZM 149 10,ZO 150 (.bin .eql (.t 148) (.t 149)),ZM 151 150,ZG 152 (.call 25 []) 151 true,ZO 153 (.pick (.t 151) (.t 152) (.c (.bool false))),ZM 6 153] .ret)))))))))
theorem law_ConcordancePaginated (u:Un) (w m:Int) (hu:UnB u) (_:i64 w) (_:i64 m):Zam Tryz.prog 8 [.agg u.enc,pI w,pI m] (.bool true):=by
 have A:=sp_awake56;have F:=sp_ref06_Few hu 24 (by omega) (by omega);have X:fewB u 24=true→∃ (hs:SmT u) (hn:(unitsT u).length≤1000),Zam Tryz.prog 11 [.agg u.enc,pI w,pI m] (.tup [.sl 4 ((pagP u w m).1.map Pg.enc),pI (pagP u w m).2])∧Zam Tryz.prog 27 [.agg u.enc] (.sl 8 ((unitsT u).map Un.enc))∧∀ P:List (List Ln),P.length≤700000→(∀ k,cumP P k≤200000000)→(∀ s∈secsT u,Za1 P s P.length≠[])→(∀ (k:Nat) (hk:k<P.length),(P[k].map Ln.text).length≤1000∧∀ s∈P[k].map Ln.text,s.length≤100000)→Zam Tryz.prog 26 [.agg u.enc,.sl 4 ((pgsF u 0 P).map Pg.enc)] (.sl 2 ((secsT u).map (entR P))):=by
  intro h;obtain ⟨hs,hn⟩:=few_small hu (by omega) (by omega) h;have hn':(unitsT u).length≤1000:=by omega
  exact ⟨hs,hn',sp_Paginate hs hn' w m,sp_ref12_Units hs hn',fun P h1 h2 h3 h4=>sp_Contents hs hn' P h1 h2 h3 h4⟩
 refine Zad ?_ (cB _) (by intro y hy;simp only [List.mem_cons,List.not_mem_nil,or_false] at hy;rcases hy with rfl|rfl|rfl;exact Zao u;exact cI _;exact cI _);refine Gn (vc:=Zbf) [.t 6] Tryz.func8 ?_;unfold Zbf;try dsimp only [ZM,ZO,ZN,ZG,ZR,ZU]
 rw [Un.Zaf u] at F X ⊢;generalize u.head.map Wd.enc=EH at *;generalize u.words.map Wd.enc=EW at *;generalize u.kids.map Un.enc=EK at *;refine Rp0 [1,2,3] ?_;refine Zaw [(1,pI w),(2,pI m),(3,.ro [pI u.act,pI u.item,pI u.n,pI u.kind,.str u.label,.sl 4 EH,.sl 4 EW,.sl 8 EK])] ⟨View.refl _ _,View.refl _ _,View.loc (z:=8) (fz:=false) (es:=[[pI u.act,pI u.item,pI u.n,pI u.kind,.str u.label,.sl 4 EH,.sl 4 EW,.sl 8 EK]]) rfl (by simp) rfl (by simp),trivial⟩ ?_;refine Zaa ?_;cases hf:fewB u 24 with
 | false =>
  rw [hf] at F;refine Rp0 [23] ?_;refine Ap0 F ?_;refine Ct ?_;refine Rp0 [6] ?_;refine Ap0 A ?_;exact Tv0
 | true =>
  rw [hf] at F;obtain ⟨hs,hn,PP,UU,CC⟩:=X hf;refine Rp0 [1,2,3,23] ?_;refine Ap0 F ?_;refine Fp0 ?_;have e0:(((0:Nat):Int)==0)=true:=rfl;rcases pagP_cases hs w m with ⟨hE,h0⟩|⟨P,hP,hwr,hm1,hm2,hpg,hI⟩
  ·rw [h0] at PP;generalize (pagP u w m).2=E at *;have e1:(E != 0)=true:=by simpa using hE
   refine Rp0 [3,7,8] ?_;refine Ap0 PP ?_;refine Zaa ?_;refine Rp1 [3,7,33] e1 ?_;refine Ct ?_;refine Zaa (Zae [6] ?_);simp only [vmL,Nat.reduceEqDiff,Nat.reduceAdd,Nat.reduceLT,Nat.reduceLeDiff,Nat.reduceSub,Nat.reduceMul,reduceIte,reduceCtorEq,Int.reduceToNat,List.map_nil,List.length_nil,e0];refine Ap0 A ?_;exact Tv0
  rw [hP] at PP;have e1:((0:Int) != 0)=false:=rfl;have hPl:P.length≤602000:=by
   have h5:=pages_few hpg;have:=(body_le hs hn w).1;omega
  have hr:=(good_wrong hs hwr).1;have hw2:=(good_wrong hs hwr).2.2;have hok:∀ N∈P,∀ x∈N,lnOk w (unitsL u.kids) x:=fun N hN x hx=>kids_ok hs w x (by
   have:x∈bodyP u w:=by rw [← hI.flat];exact List.mem_flatten.2 ⟨N,hN,hx⟩
   exact this)
  have SI:=fun s (hs':s∈secsT u)=>secI hs hwr hI s hs';have hcum:∀ k,cumP P k≤200000000:=by
   intro k;have h1:=cum_bound (P:=P) (w:=200) (fun x hx=>by
    obtain ⟨N,hN,hx⟩:=List.mem_flatten.1 hx;have:=(hok N hN x hx).1;omega) k
   have h2:P.flatten.length≤602000:=by rw [hI.flat];exact (body_le hs hn w).1
   have h3:P.flatten.length*200≤602000*200:=Nat.mul_le_mul_right _ h2;omega
  have hln:∀ (k:Nat) (hk:k<P.length),(P[k].map Ln.text).length≤1000∧∀ s∈P[k].map Ln.text,s.length≤100000:=by
   intro k hk;have h1:=hI.hi _ (List.getElem_mem hk);have h2:=high_len P[k];refine ⟨by rw [List.length_map];omega,fun s hs'=>?_⟩;obtain ⟨x,hx,rfl⟩:=List.mem_map.1 hs';have:=(hok _ (List.getElem_mem hk) x hx).1;omega
  have hne:∀ s∈secsT u,Za1 P s P.length≠[]:=by
   intro s hs' h;obtain ⟨c,n,h1,h2,_⟩:=(SI s hs').pages;have:=(secE h1 h2).len;rw [h] at this;cases this
  have CC:=CC P (by omega) hcum hne hln;have hsc:=secs_count hs hr;have hcn:cntU (unitsT u) (unitsT u).length=(secsT u).length:=by
   rw [hsc];unfold cntU;rw [List.take_length,Zaj];rfl
  have hAl:((pgsF u 0 P).map Pg.enc).length=P.length:=by rw [List.length_map,pgsF_len]
  have hAg:=fun (k:Nat) (hk:k<P.length)=>pgs_row u hk;have hTL:=fun s (hs':s∈secsT u)=>by
   have hm:=List.mem_filter.1 hs';exact titleT_len (hs.units s.u (by rw [Zaj];exact Zx7 _ (st_mem hs 0 s hm.1).1)).u
  have hSec:∀ s∈secsT u,secB s.u=true:=fun s hs'=>(List.mem_filter.1 hs').2;have hSLl:(secsT u).length≤1000:=by
   have h1:=cntU_le (unitsT u) (unitsT u).length;omega
  clear hok hpg hI hP hwr hr F X hsc;generalize (pgsF u 0 P).map Pg.enc=AE at PP CC hAl hAg;refine Rp0 [3,7,8] ?_;refine Ap0 PP ?_;refine Zaa ?_;refine Rp1 [3,7,33] e1 ?_;refine Fp0 ?_;generalize secsT u=SL at *;have hErow:=fun (k:Nat) (hk:k<SL.length)=>(rowm hk:(SL.map (entR P)).getD k []=entR P SL[k]);have hEl:(SL.map (entR P)).length=SL.length:=List.length_map _;generalize SL.map (entR P)=ER at *;have hUrow:=fun (k:Nat) (hk:k<(unitsT u).length)=>(rowm hk:((unitsT u).map Un.enc).getD k []=(unitsT u)[k].enc);have hUl:((unitsT u).map Un.enc).length=(unitsT u).length:=List.length_map _;have hcs:=fun (k:Nat) (hk:k<(unitsT u).length)=>cntU_step hk;have hcl:=cntU_le (unitsT u);generalize (unitsT u).map Un.enc=UE at *;generalize unitsT u=UL at *;refine Rp0 [3,7,9] ?_;refine Ap0 CC ?_;refine Rp0 [3,7,9,10] ?_;refine Zaa ?_;refine Rp0 [7,9,10,44,45,46] ?_;refine Ap1 UU hUl ?_;refine Zab ?_;refine Zak (σ:={ x:Nat×Nat//x.1≤UL.length }) (fun x=>([(7,.sl 4 AE),(9,.sl 2 ER),(10,pI (cntU UL x.1.1)),(44,.sl 8 UE),(45,pI UL.length),(46,pI x.1.1)],⟨[],x.1.2⟩)) (fun x=>UL.length-x.1.1) ⟨(0,1),Nat.zero_le _⟩ ?_ ?_ ?_
  ·refine Sp0 ?_;exact ⟨rfl,rfl⟩
  ·simp only [vmL,Nat.reduceEqDiff,Nat.reduceAdd,Nat.reduceLT,Nat.reduceLeDiff,Nat.reduceSub,Nat.reduceMul,reduceIte,reduceCtorEq,Int.reduceToNat]
   try trivial
  rintro ⟨⟨k,t⟩,hk⟩;simp only [] at hk ⊢;refine Rp0 [7,9,10,44,45,46,47] ?_;refine Zaa ?_;refine Zac rfl (fun h1=>?_) (fun h1=>?_)
  ·have ka:k<UL.length:=by simp only [Zx3] at h1;omega
   have hrow:=hUrow k ka;have hst:=hcs k ka;have hcl1:=hcl k;generalize UL[k]=v at *;rw [Un.Zaf v] at hrow;generalize v.head.map Wd.enc=VH at *;generalize v.words.map Wd.enc=VW' at *;generalize v.kids.map Un.enc=VK at *;refine Kp0 ?_;refine Zaa ?_;refine Zab ?_;refine Rp1 [7,9,10,11,12,44,45,46] (x2 hUl hrow) ?_;refine Ok ?_;refine Zaa (Zc1 (σ:=Unit) (fun _=>([(7,.sl 4 AE),(9,.sl 2 ER),(10,pI (cntU UL k)),(44,.sl 8 UE),(45,pI UL.length),(46,pI k),(62,.bool (decide (0<k)&&secB v))],⟨[],t+1⟩)) (Zae [7,9,10,44,45,46,62] ?_) (fun _=>?_))
   ·by_cases h0:0<k
    ·have g0:decide ((k:Int)>0)=true:=decide_eq_true (by omega);have g9:decide (0<k)=true:=decide_eq_true h0;by_cases q1:v.kind=1
     ·have g1:(v.kind==1)=true:=by rw [q1];rfl
      simp only [vmL,Nat.reduceEqDiff,Nat.reduceAdd,Nat.reduceLT,Nat.reduceLeDiff,Nat.reduceSub,Nat.reduceMul,reduceIte,reduceCtorEq,Int.reduceToNat,g0,g1];refine ⟨(),?_⟩;rw [g9,show secB v=true by unfold secB;rw [g1];rfl]
      all_goals exact Fn0
     ·have g1:(v.kind==1)=false:=by rw [beq_eq_false_iff_ne];exact q1
      simp only [vmL,Nat.reduceEqDiff,Nat.reduceAdd,Nat.reduceLT,Nat.reduceLeDiff,Nat.reduceSub,Nat.reduceMul,reduceIte,reduceCtorEq,Int.reduceToNat,g0,g1];refine ⟨(),?_⟩;rw [g9,show secB v=(v.kind==2) by unfold secB;rw [g1];rfl]
      all_goals exact Fn0
    ·have g0:decide ((k:Int)>0)=false:=decide_eq_false (by omega);have g9:decide (0<k)=false:=decide_eq_false h0;simp only [vmL,Nat.reduceEqDiff,Nat.reduceAdd,Nat.reduceLT,Nat.reduceLeDiff,Nat.reduceSub,Nat.reduceMul,reduceIte,reduceCtorEq,Int.reduceToNat,g0];refine ⟨(),?_⟩;rw [g9]
     all_goals exact Fn0
   ·cases hc:(decide (0<k)&&secB v) with
    | true =>
     rw [hc,if_pos rfl] at hst;refine Ct ?_;refine rp1 [7,9,10,44,45,46] (ad1 (a:=cntU UL k) (by omega)) ?_;refine rp1 [7,9,10,44,45,46] (ad1 (a:=k) (by omega)) ?_;refine ⟨⟨(k+1,t+1),ka⟩,?_⟩;simp only [hst]
     all_goals exact Fn0
    | false =>
     rw [hc,if_neg Bool.false_ne_true,Nat.add_zero] at hst;refine Fp0 ?_;refine rp1 [7,9,10,44,45,46] (ad1 (a:=k) (by omega)) ?_;refine ⟨⟨(k+1,t+1),ka⟩,?_⟩;simp only [hst]
     all_goals exact Fn0
  ·have ka:k=UL.length:=by simp only [Zx2] at h1;omega
   subst ka;rw [hcn];clear hUrow hcs hcl hUl UU hk h1 hcn;refine Ep0 ?_;refine Zaa ?_;refine Rp1 [7,9,10,66,67,68] hEl ?_;refine Zab ?_;refine Zak (σ:={ x:Nat×Nat//x.1≤SL.length }) (fun x=>([(7,.sl 4 AE),(9,.sl 2 ER),(10,pI SL.length),(66,.sl 2 ER),(67,pI SL.length),(68,pI x.1.1)],⟨[],x.1.2⟩)) (fun x=>SL.length-x.1.1) ⟨(0,t),Nat.zero_le _⟩ ?_ ?_ ?_
   ·exact Fn0
   ·simp only [vmL,Nat.reduceEqDiff,Nat.reduceAdd,Nat.reduceLT,Nat.reduceLeDiff,Nat.reduceSub,Nat.reduceMul,reduceIte,reduceCtorEq,Int.reduceToNat]
    try trivial
   rintro ⟨⟨k,t⟩,hk⟩;simp only [] at hk ⊢;refine Rp0 [7,9,10,66,67,68,69] ?_;refine Zaa ?_;refine Zac rfl (fun h1=>?_) (fun h1=>?_)
   ·have ka:k<SL.length:=by simp only [Zx3] at h1;omega
    have hrow:=hErow k ka;have hmem:=List.getElem_mem ka;have hTl:=hTL _ hmem;obtain ⟨R,hcut⟩:=cut_title (hSec _ hmem);have hT0:=titS_ne SL[k].u;have PC:=sp_Pieces (titS SL[k].u) hT0 hTl;obtain ⟨c,n,hp1,hp2,hc,y,hy,q,hyq⟩:=(SI _ hmem).pages;obtain ⟨el,ea,_⟩:=secE hp1 hp2;unfold entR at hrow;rw [hcut] at PC;generalize titS SL[k].u=TS at *;generalize Zcm SL[k].u.kind=KD at *;have hEi:=intR_len (Za1 P SL[k] P.length);have hEr:∀ j,j<n+1→(intR (Za1 P SL[k] P.length)).getD j []=[pI ((c+j+1:Nat):Int)]:=by
     intro j hj;unfold intR;rw [Zx1,List.getElem?_map,ea j hj];rfl
    rw [el] at hEi;generalize intR (Za1 P SL[k] P.length)=PI at *;clear ea el hp1 hmem hTL hSec SI hErow;have hPrw:=hAg c hc;unfold pageP Pg.enc at hPrw;simp only [] at hPrw;have hLl:((P[c].map Ln.text).map fun s=>[PV.str s]).length=(P[c].map Ln.text).length:=List.length_map _;have hLr:=fun (j:Nat) (hj:j<(P[c].map Ln.text).length)=>(rowm hj:((P[c].map Ln.text).map fun s=>[PV.str s]).getD j []=[PV.str (P[c].map Ln.text)[j]]);have hLa:=fun (j:Nat) (hj:j<(P[c].map Ln.text).length)=>any_step hj KD;have hLn:=(hln c hc).1;have hany:((P[c].map Ln.text).take (P[c].map Ln.text).length).any (startsB KD)=true:=by
     rw [List.take_length,List.any_eq_true];exact ⟨y.text,List.mem_map_of_mem hy,by rw [hyq];exact starts_pre KD q⟩
    generalize headT u _ _=H at hPrw;generalize ((P[c].flatMap Ln.notes).map fun s=>[PV.str s])=NE at hPrw;generalize ((P[c].map Ln.text).map fun s=>[PV.str s])=TE at *;generalize P[c].map Ln.text=LT at *;have g1:(((n+1:Nat):Int)==0)=false:=by rw [beq_eq_false_iff_ne];omega
    refine Kp0 ?_;refine Zaa ?_;refine Zab ?_;refine Rp1 [7,9,10,14,66,67,68] (x2 hEl hrow) ?_;refine Ok ?_;refine Zaa ?_;refine Rp1 [7,9,10,14,66,67,68,75] (x2 hEi g1) ?_;refine Fp0 ?_;refine Zaa ?_;refine Rp1 [7,9,10,14,66,67,68,77,78,79] hEi ?_;refine Zab ?_;refine Zak (σ:={ j:Nat//j≤n+1 }) (fun x=>([(7,.sl 4 AE),(9,.sl 2 ER),(10,pI SL.length),(14,.loc t 0 0),(66,.sl 2 ER),(67,pI SL.length),(68,pI k),(77,.sl 1 PI),(78,pI ((n+1:Nat):Int)),(79,pI x.1)],⟨[(t,.arr false 2 [[.str TS,.sl 1 PI]])],t+1⟩)) (fun x=>n+1-x.1) ⟨0,Nat.zero_le _⟩ ?_ ?_ ?_
    ·exact Fn0
    ·simp only [vmL,Nat.reduceEqDiff,Nat.reduceAdd,Nat.reduceLT,Nat.reduceLeDiff,Nat.reduceSub,Nat.reduceMul,reduceIte,reduceCtorEq,Int.reduceToNat]
     try trivial
    rintro ⟨j,hj⟩;simp only [];refine Rp0 [7,9,10,14,66,67,68,77,78,79,80] ?_;refine Zaa ?_;refine Zac rfl (fun h2=>?_) (fun h2=>?_)
    ·have ja:j<n+1:=by simp only [Zx3] at h2;omega
     have hr1:=hEr j ja;refine Kp0 ?_;refine Zaa ?_;refine Zab ?_;refine Rp1 [7,9,10,14,15,16,66,67,68,77,78,79] (x2 hEi hr1) ?_;refine Ok ?_;have g2:decide (((c+j+1:Nat):Int)<1)=false:=decide_eq_false (by omega);have g3:decide (((c+j+1:Nat):Int)>(P.length:Int))=false:=decide_eq_false (by omega);refine Zaa (Zc1 (σ:=Unit) (fun _=>([(7,.sl 4 AE),(9,.sl 2 ER),(10,pI SL.length),(14,.loc t 0 0),(66,.sl 2 ER),(67,pI SL.length),(68,pI k),(77,.sl 1 PI),(78,pI ((n+1:Nat):Int)),(79,pI j),(106,.bool false)],⟨[(t,.arr false 2 [[.str TS,.sl 1 PI]])],t+1⟩)) (Zae [7,9,10,14,66,67,68,77,78,79,106] ?_) (fun _=>?_))
     ·by_cases h0:0<j
      ·have hr2:=hEr (j-1) (by omega);have g4:decide ((j:Int)>0)=true:=decide_eq_true (by omega);have g5:IntKind.i64.wrap ((j:Int)-1)=((j-1:Nat):Int):=by rw [w64 (by omega) (by omega)];omega
       have g6:IntKind.i64.wrap (((c+(j-1)+1:Nat):Int)+1)=((c+j+1:Nat):Int):=by rw [w64 (by omega) (by omega)];omega
       have g7:(((c+j+1:Nat):Int) != ((c+j+1:Nat):Int))=false:=by simp
       simp only [vmL,Nat.reduceEqDiff,Nat.reduceAdd,Nat.reduceLT,Nat.reduceLeDiff,Nat.reduceSub,Nat.reduceMul,reduceIte,reduceCtorEq,Int.reduceToNat,g2,g3,hAl,g4,g5,hEi,hr2,g6,g7];refine ⟨by omega,(),?_⟩;exact Fn0
      ·have g4:decide ((j:Int)>0)=false:=decide_eq_false (by omega);refine Sp1 (x4 g2 g3 hAl g4) ?_;refine ⟨(),?_⟩;exact Fn0
     refine Fp0 ?_;refine rp1 [7,9,10,14,66,67,68,77,78,79] (ad1 (a:=j) (by omega)) ?_;refine ⟨⟨j+1,ja⟩,?_⟩;exact Fn0
    ·refine Ep0 ?_;have hz:(strR (KD::R)).getD 0 []=[PV.str KD]:=rfl;have hzl:=Za7 (KD::R);rw [List.length_cons] at hzl;generalize strR (KD::R)=KR at *;refine Rp0 [7,9,10,14,17,66,67,68] ?_;refine Ap1 PC (x2 hzl hz) ?_;refine ⟨by omega,?_⟩;refine Rp0 [7,9,10,14,17,18,66,67,68] ?_;refine Zaa ?_;have hr0:=hEr 0 (by omega);have g8:IntKind.i64.wrap (((c+0+1:Nat):Int)-1)=(c:Int):=by rw [w64 (by omega) (by omega)];omega
     refine Zaa (Zae [7,9,10,17,18,66,67,68,121,122,123] ?_);simp only [vmL,Nat.reduceEqDiff,Nat.reduceAdd,Nat.reduceLT,Nat.reduceLeDiff,Nat.reduceSub,Nat.reduceMul,reduceIte,reduceCtorEq,Int.reduceToNat,hEi,hr0,g8,hAl,hPrw,hLl];refine ⟨by omega,by omega,?_⟩;refine Zab ?_;refine Zak (σ:={ i:Nat//i≤LT.length }) (fun x=>([(7,.sl 4 AE),(9,.sl 2 ER),(10,pI SL.length),(17,.str KD),(18,.bool ((LT.take x.1).any (startsB KD))),(66,.sl 2 ER),(67,pI SL.length),(68,pI k),(121,.sl 1 TE),(122,pI LT.length),(123,pI x.1)],⟨[],t+1⟩)) (fun x=>LT.length-x.1) ⟨0,Nat.zero_le _⟩ ?_ ?_ ?_
     ·try simp only [vmL,Nat.reduceEqDiff,Nat.reduceAdd,Nat.reduceLT,Nat.reduceLeDiff,Nat.reduceSub,Nat.reduceMul,reduceIte,reduceCtorEq,Int.reduceToNat,List.take_zero,List.any_nil]
      all_goals (repeat' (first|rfl|trivial|omega|(simp only [];omega)|refine And.intro ?_ ?_))
     ·simp only [vmL,Nat.reduceEqDiff,Nat.reduceAdd,Nat.reduceLT,Nat.reduceLeDiff,Nat.reduceSub,Nat.reduceMul,reduceIte,reduceCtorEq,Int.reduceToNat]
      try trivial
     rintro ⟨i,hi⟩;simp only [];refine Rp0 [7,9,10,17,18,66,67,68,121,122,123,124] ?_;refine Zaa ?_;refine Zac rfl (fun h3=>?_) (fun h3=>?_)
     ·have ia:i<LT.length:=by simp only [Zx3] at h3;omega
      have hr3:=hLr i ia;have ha3:=hLa i ia;generalize LT[i]=S at hr3 ha3;generalize (LT.take i).any (startsB KD)=B at *;refine Kp0 ?_;refine Zaa ?_;refine Zab ?_;refine Rp1 [7,9,10,17,18,20,66,67,68,121,122,123] (x2 hLl hr3) ?_;refine Ok ?_;cases B with
      | true =>
       rw [Bool.true_or] at ha3;refine rp0 [7,9,10,17,18,66,67,68,121,122,123] ?_;refine rp1 [7,9,10,17,18,66,67,68,121,122,123] (ad1 (a:=i) (by omega)) ?_;refine ⟨⟨i+1,ia⟩,?_⟩;simp only [ha3]
       all_goals exact Fn0
      | false =>
       rw [Bool.false_or] at ha3;by_cases h4:KD.length≤S.length
       ·have g9:decide ((S.length:Int)≥(KD.length:Int))=true:=decide_eq_true (by omega);have g10:startsB KD S=(S.take KD.length==KD):=by unfold startsB;rw [decide_eq_true h4,Bool.true_and]
        rw [g10] at ha3;refine rp1 [7,9,10,17,18,66,67,68,121,122,123] g9 ?_;refine ⟨by omega,?_⟩;refine rp1 [7,9,10,17,18,66,67,68,121,122,123] (ad1 (a:=i) (by omega)) ?_;refine ⟨⟨i+1,ia⟩,?_⟩;simp only [ha3]
        all_goals exact Fn0
       ·have g9:decide ((S.length:Int)≥(KD.length:Int))=false:=decide_eq_false (by omega);have g10:startsB KD S=false:=by unfold startsB;rw [decide_eq_false h4,Bool.false_and]
        rw [g10] at ha3;refine rp1 [7,9,10,17,18,66,67,68,121,122,123] g9 ?_;refine rp1 [7,9,10,17,18,66,67,68,121,122,123] (ad1 (a:=i) (by omega)) ?_;refine ⟨⟨i+1,ia⟩,?_⟩;simp only [ha3]
        all_goals exact Fn0
     ·have ia:i=LT.length:=by simp only [Zx2] at h3;omega
      subst ia;rw [hany];refine Ep0 ?_;refine Rp0 [7,9,10,66,67,68,145] ?_;refine Fp0 ?_;refine rp1 [7,9,10,66,67,68] (ad1 (a:=k) (by omega)) ?_;refine ⟨⟨(k+1,t+1),ka⟩,?_⟩;exact Fn0
   ·have kk:k=SL.length:=by simp only [Zx2] at h1;omega
    subst kk;have g1:((SL.length:Int)==(SL.length:Int))=true:=by simp
    refine Ep0 ?_;refine Rp1 [6] (x2 hEl g1) ?_;refine Ap0 A ?_;exact Tv0
theorem trod_str {H : Type} {enc : TypeId × Value → H} {P : Program} {W : World} {base : Nat} {sp : Nat → Bool} {held : Bool} {m : Nat} {e : TypeId} {cs : List Value} {bs : List UInt8} {q : List MemPlace} (he : P.underlying e = some .string)
  (h:DataW.trod enc P W base sp held m e cs=some (.lit (.string bs),q)):cs=[.string ⟨bs.toArray⟩]:=by
 cases m with
 | zero=>simp [DataW.trod] at h
 | succ m =>
  unfold DataW.trod at h;rw [he] at h;split at h<;>try (simp_all;done)
  rename_i s heq;split at h
  ·simp only [Zx0,Prod.mk.injEq,DataW.lit.injEq,Lit.string.injEq] at h;obtain ⟨rfl,_⟩:=h;rfl
  ·cases h
abbrev cW (W:World) (b o:Nat):Option Value:=match W.cell? ⟨b,o,none⟩ with
 | some v=>if v.oneCell'=true then some v else none
 | none=>none
theorem trod_ints {H : Type} {enc : TypeId × Value → H} {P : Program} {W : World} {base : Nat} {sp : Nat → Bool} {held : Bool} {m : Nat} {t e : TypeId} {cs : List Value} {zs : List Int} {rest : List (DataW H)} {q : List MemPlace} (ht : P.underlying t = some (.slice e)) (he : P.underlying e = some (.int .i64)) (hc : P.cellsOf e = 1) (hz : zs ≠ [])
    (h:DataW.trod enc P W base sp held m t cs=some (.slice (zs.map fun z=>.lit (.int .i64 z)) rest,q)):∃ v,cs=[v]∧v.oneCell'=true∧SlIs (cW W) v zs:=by
  rcases DataW.trod_slice ht h with ⟨_,h2⟩|⟨a,len,cap,elems,rs,m',hm,rfl,hx,hb,hlc,hcap,hel,hread,_,_⟩
  · simp at h2
  simp only [Prod.mk.injEq,DataW.slice.injEq] at hx;obtain ⟨⟨hx,_⟩,_⟩:=hx;have hzl:zs.length=len:=by
    have:=congrArg List.length hx;simp at this;omega
  have hlen:0<len:=by rw [← hzl];exact List.length_pos_iff.2 hz
  have each:∀ i,i<len→W.cell? (a.add i)=some (.int .i64 (zs.getD i 0)):=by
    intro i hi;have hr:=hread i hi;rw [List.getElem?_eq_getElem (by omega),hc,Nat.mul_one] at hr;obtain ⟨ci,hc1,hc2⟩:=Option.bind_eq_some_iff.1 hr;obtain ⟨_,hcl,hcells⟩:=World.cells?_some hc1;obtain ⟨n,rfl,hn,_⟩:=DataW.trod_int he hc2;have h1:=hcells 0 (by omega);have e0:∀ b:Addr,b.add 0=b:=fun b=>by simp [Addr.add]
    rw [e0] at h1;rw [h1];have h2:(elems.map (·.1))[i]?=some (DataW.lit (.int .i64 n)):=by
      rw [List.getElem?_map,List.getElem?_eq_getElem (by omega),Option.map_some,hn]
    rw [← hx,List.getElem?_map,List.getElem?_eq_getElem (by omega),Option.map_some] at h2;simp only [Zx0,DataW.lit.injEq,Lit.int.injEq,true_and] at h2;have e3:zs.getD i 0=n:=by rw [← h2];simp [List.getD,show i<zs.length by omega]
    rw [e3];rfl
  have hspot:a.spot=none:=by
    have hv:=each 0 hlen;have e0:a.add 0=a:=by simp [Addr.add]
    rw [e0] at hv;unfold World.cell? at hv;split at hv
    · split at hv
      · cases hv
      · rename_i hs;simpa using hs
    · cases hv
  have hadd:∀ i,a.add i=⟨a.block,a.off+i,none⟩:=by
    intro i;obtain ⟨b,o,s⟩:=a;simp only at hspot;subst hspot;by_cases hi:i=0<;>simp [Addr.add,hi]
  refine ⟨_,rfl,rfl,.inr ⟨a.block,a.off,cap,by omega,?_,fun i hi=>?_⟩⟩
  · obtain ⟨b,o,s⟩:=a
    simp only at hspot;subst hspot;rw [hzl]
  · have:=each i (by omega)
    rw [hadd] at this;simp only [cW];rw [this];rfl
theorem known_tab (b:Nat) (l:List Value) (h:known.lookup b=some l):(b=0∧l=Zbe.map fun s=>Value.string ⟨s.toArray⟩)∨(b=2∧l=Lib.pow10Tab.map fun z=>Value.int .u64 z):=by
 have e:known=[(0,Zbe.map fun s=>Value.string ⟨s.toArray⟩),(2,Lib.pow10Tab.map fun z=>Value.int .u64 z)]:=by kernel_rfl
 rw [e] at h;simp only [List.lookup] at h;split at h
 ·rename_i hb;simp only [Zx0] at h;exact .inl ⟨by simpa using hb,h.symm⟩
 ·split at h
  ·rename_i hb;simp only [Zx0] at h;exact .inr ⟨by simpa using hb,h.symm⟩
  ·cases h
def namesD {H:Type}:DataW H:=.agg (Zbe.map fun s=>.lit (.string s))
def slD {H:Type} (zs:List Int):DataW H:=if zs=[] then .nil else .slice (zs.map fun z=>.lit (.int .i64 z)) []
def belowD {H:Type}:DataW H:=.agg (belowT.map slD)
theorem knownW_of {W : World} {rest : List (String × DataW Unit)} (h : laidMetH Tryz.prog rest W) (hf : (rest.filter (fun x => x.1 == "pandect/unit.names"), rest.filter (fun x => x.1 == "pandect/unit.below"), rest.filter (fun x => x.1 == "internal/strconv.uint64pow10")) = ([("pandect/unit.names", namesD)], [("pandect/unit.below", belowD)], [("internal/strconv.uint64pow10", Lib.tabData .u64 Lib.pow10Tab)])) (hn : (rest.filter fun x => x.2.handleName?.isNone) = rest) : Zc0 W := by
  obtain ⟨f1,f23⟩:=Prod.mk.inj hf
  obtain ⟨f2,f3⟩:=Prod.mk.inj f23
  have h1:=(laidMetH_iff.1 h).1
  rw [hn] at h1
  have h2 := h1.filter (fun x => x.1 == "pandect/unit.names")
  rw [f1] at h2
  have h3 := h1.filter (fun x => x.1 == "pandect/unit.below")
  rw [f2] at h3
  have h4 := h1.filter (fun x => x.1 == "internal/strconv.uint64pow10")
  rw [f3] at h4
  have g3 : Tryz.prog.globalNamed "internal/strconv.uint64pow10" = some 2 := by kernel_rfl
  have tab:=Lib.tabIs_of_head (P:=Tryz.prog) (t:=270) (e:=139) (n:=20) g3 (by kernel_rfl) Tryz.underlying270 Tryz.underlying139 (by kernel_rfl) (by kernel_rfl) h4
  have g1 : Tryz.prog.globalNamed "pandect/unit.names" = some 0 := by kernel_rfl
  have g2 : Tryz.prog.globalNamed "pandect/unit.below" = some 3 := by kernel_rfl
  have t1:(Tryz.prog.globals[0]?).map (·.type)=some 110:=by kernel_rfl
  have t2:(Tryz.prog.globals[3]?).map (·.type)=some 273:=by kernel_rfl
  have cs1:Tryz.prog.cellsOf 9=1:=by kernel_rfl
  have cs2:Tryz.prog.cellsOf 110=8:=by kernel_rfl
  have cs3:Tryz.prog.cellsOf 60=1:=by kernel_rfl
  have cs4:Tryz.prog.cellsOf 273=8:=by kernel_rfl
  have cs5:Tryz.prog.cellsOf 3=1:=by kernel_rfl
  have var_heap:∀ {name:String} {b:Nat} {cs:Array Value},Tryz.prog.globalNamed name=some b→W.var? Tryz.prog name=some cs→∃ t fr,W.heap[b]?=some (.cells cs t fr):=by
    intro name b cs hg hv
    unfold World.var? at hv
    rw [hg] at hv
    simp only [Option.bind_some] at hv
    split at hv
    · rename_i c t fr hh
      simp only [Zx0] at hv
      exact ⟨t,fr,by rw [hh,hv]⟩
    · cases hv
  refine ⟨⟨fun b l hl=>?_,fun b k hb=>?_⟩,fun b ls hb j hj=>?_⟩
  · rcases known_tab b l hl with ⟨rfl,rfl⟩|⟨rfl,rfl⟩
    rotate_left
    · refine ⟨?_,fun v hv=>by obtain ⟨s,_,rfl⟩:=List.mem_map.1 hv;rfl⟩
      unfold Lib.TabIs at tab
      unfold World.var? at tab
      rw [g3] at tab
      simp only [Option.bind_some] at tab
      split at tab
      · rename_i c t fr hh
        simp only [Zx0] at tab
        exact ⟨t,fr,by rw [hh,tab]⟩
      · cases tab
    refine ⟨?_,fun v hv=>by obtain ⟨s,_,rfl⟩:=List.mem_map.1 hv;rfl⟩
    obtain ⟨ps,⟨g',t',cs,fuel,p,q,hg',ht',hvar,hd,_,_⟩,_⟩:=h2
    obtain rfl:=Option.some.inj (g1.symm.trans hg')
    obtain rfl:=Option.some.inj (t1.symm.trans ht')
    obtain ⟨t,fr,hh⟩:=var_heap g1 hvar
    refine ⟨t,fr,?_⟩
    suffices hcs:cs=(Zbe.map fun s=>Value.string ⟨s.toArray⟩).toArray by rw [hh,hcs]
    obtain ⟨xs,m,_,hx,hlen,hxs,hread⟩:=DataW.trod_array Tryz.underlying110 hd
    rw [cs2] at hlen
    simp only [Prod.mk.injEq] at hx
    have hx1:Zbe.map (fun s=>(DataW.lit (.string s):DataW _))=xs.map (·.1):=by
      have:=hx.1
      unfold namesD at this
      simpa using this
    apply Array.ext'
    apply List.ext_getElem?
    intro i
    by_cases hi:i<8
    · have hr:=hread i hi
      rw [cs1,Nat.mul_one,List.getElem?_eq_getElem (by omega)] at hr
      have hk:i<Zbe.length:=hi
      have h5:(xs.map (·.1))[i]?=some xs[i].1:=by rw [List.getElem?_map,List.getElem?_eq_getElem (by omega)];rfl
      rw [← hx1,List.getElem?_map,List.getElem?_eq_getElem hk] at h5
      simp only [Option.map_some,Zx0] at h5
      have h6:xs[i]=(.lit (.string Zbe[i]),xs[i].2):=Prod.ext h5.symm rfl
      rw [h6] at hr
      have h7:=trod_str Tryz.underlying9 hr
      have h8:=congrArg (·[0]?) h7
      simp only [List.getElem?_take,List.getElem?_drop] at h8
      simp only [List.getElem?_map,List.getElem?_eq_getElem hk,Option.map_some]
      simpa using h8
    · rw [List.getElem?_eq_none (by omega)]
      symm
      apply List.getElem?_eq_none
      show (List.map _ Zbe).length≤i
      rw [List.length_map]
      show 8≤i
      omega
  · exfalso
    have:knownG=[]:=by kernel_rfl
    rw [this] at hb;cases hb
  · have hS:knownS=[(3,belowT)]:=by kernel_rfl
    rw [hS] at hb
    simp only [List.lookup] at hb
    split at hb
    · rename_i hbb
      simp only [Zx0] at hb
      subst hb
      have hb':b=3:=by simpa using hbb
      subst hb'
      obtain ⟨ps,⟨g',t',cs,fuel,p,q,hg',ht',hvar,hd,_,_⟩,_⟩:=h3
      obtain rfl:=Option.some.inj (g2.symm.trans hg')
      obtain rfl:=Option.some.inj (t2.symm.trans ht')
      obtain ⟨t,fr,hh⟩:=var_heap g2 hvar
      obtain ⟨xs,m,_,hx,hlen,hxs,hread⟩:=DataW.trod_array Tryz.underlying273 hd
      rw [cs4] at hlen
      simp only [Prod.mk.injEq] at hx
      have hx1:belowT.map slD=xs.map (·.1):=by
        have:=hx.1
        unfold belowD at this
        simpa using this
      have hj8:j<8:=hj
      have hr:=hread j hj8
      rw [cs3,Nat.mul_one,List.getElem?_eq_getElem (by omega)] at hr
      have h5:(xs.map (·.1))[j]?=some xs[j].1:=by rw [List.getElem?_map,List.getElem?_eq_getElem (by omega)];rfl
      rw [← hx1,List.getElem?_map,List.getElem?_eq_getElem hj] at h5
      simp only [Option.map_some,Zx0] at h5
      have h6:xs[j]=(slD belowT[j],xs[j].2):=Prod.ext h5.symm rfl
      rw [h6] at hr
      have hgD:belowT.getD j []=belowT[j]:=by rw [Zx1,List.getElem?_eq_getElem hj];rfl
      have hcell:∀ v,(cs.toList.drop j).take 1=[v]→W.cell? ⟨3,j,none⟩=some v:=by
        intro v hv
        have h8:=congrArg (·[0]?) hv
        simp only [List.getElem?_take,List.getElem?_drop] at h8
        unfold World.cell?
        rw [hh]
        simpa using h8
      rw [hgD]
      generalize belowT[j]=zs at hr
      unfold slD at hr
      by_cases hz:zs=[]
      · rw [if_pos hz] at hr
        rcases DataW.trod_slice Tryz.underlying60 hr with ⟨h7,_⟩|⟨a,len,cap,elems,rs,m',_,_,h8,_⟩
        · refine ⟨.slice none 0 0,?_,.inl ⟨hz,rfl⟩⟩
          simp only []
          rw [hcell _ h7];rfl
        · simp at h8
      · rw [if_neg hz] at hr
        obtain ⟨v,h7,h8,h9⟩:=trod_ints (W:=W) Tryz.underlying60 Tryz.underlying3 cs5 hz hr
        refine ⟨v,?_,h9⟩
        simp only []
        rw [hcell _ h7]
        simp only []
        rw [if_pos h8]
    · cases hb
end Go.Proofs.w
