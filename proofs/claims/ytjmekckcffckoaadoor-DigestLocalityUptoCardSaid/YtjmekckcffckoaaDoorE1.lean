import Derived.Test.YtjmekckcffckoaaDoorA4
import Derived.Test.YtjmekckcffckoaaDoorVmG
set_option linter.all false
namespace Go.Proofs.YtjmekckcffckoaaDoor.w
open Go Go.VM
set_option maxRecDepth 20000
set_option maxHeartbeats 0
set_option pp.deepTerms false
def Zbz:VC:=(.seq (.region [ZO 3 (.box 8 (.t 0)),ZO 6 (.mv (.c (.int .i64 0)))] false) (.seq (.region [ZO 7 (.mv (.c (.int .i64 1)))] false) (.seq (.seq (.region [ZM 9 2,ZO 10 (.bin .eql (.t 9) (.c (.int .i64 0)))] false) (.cond (.t 10) (.seq (.region [ZM 11 1,ZO 12 (.bin .add (.t 11) (.c (.int .i64 1))),ZM 6 12] false) .ret) .skip)) (.seq (.seq (.region [ZO 8 (.mv (.c (.int .i64 0)))] false) (.block 0 (.loop (.seq (.seq (.region [ZM 13 8,ZO 14 (.faddr 7 (.t 3)),ZO 15 (.load false 1 (.t 14)),ZO 16 (.len false (.t 15)),ZO 17 (.bin .lss (.t 13) (.t 16)),ZM 18 17,ZG 19 (.mv (.t 7)) 18 true,ZG 20 (.mv (.t 1)) 18 true,ZG 21 (.bin .leq (.t 19) (.t 20)) 18 true,ZO 22 (.pick (.t 18) (.t 21) (.c (.bool false)))] false) (.cond (.t 22) .skip (.exit 0))) (.seq (.block 1 (.region [ZM 25 7,ZO 26 (.faddr 7 (.t 3)),ZO 27 (.load false 1 (.t 26)),ZM 28 8,ZO 29 (.iaddr 8 (.t 27) (.t 28)),ZO 30 (.load true 8 (.t 29)),ZM 31 1,ZM 32 7,ZO 33 (.bin .sub (.t 31) (.t 32)),ZM 34 2,ZO 35 (.bin .sub (.t 34) (.c (.int .i64 1))),ZO 36 (.call 27 [(.t 30),(.t 33),(.t 35)]),ZO 37 (.bin .add (.t 25) (.t 36)),ZM 7 37] false)) (.region [ZM 23 8,ZO 24 (.bin .add (.t 23) (.c (.int .i64 1))),ZM 8 24] false)))))) (.seq (.region [ZM 38 7,ZM 6 38] false) .ret)))))
def c_pandectlaw12_heavy:VC:=(.seq (.region [ZO 1 (.box 8 (.t 0)),ZO 2 (.mv (.c (.bool false)))] false) (.seq (.seq (.region [ZO 8 (.load true 8 (.t 1)),ZO 9 (.call 27 [(.t 8),(.c (.int .i64 40)),(.c (.int .i64 30))]),ZO 10 (.bin .gtr (.t 9) (.c (.int .i64 40)))] false) (.cond (.t 10) (.seq (.region [ZO 2 (.mv (.c (.bool true)))] false) .ret) .skip)) (.seq (.region [ZO 3 (.mv (.c (.int .i64 0)))] false) (.seq (.seq (.region [ZO 11 (.load true 8 (.t 1)),ZO 12 (.call 22 [(.t 11)]),ZO 13 (.len false (.t 12)),ZO 14 (.mv (.c (.int .i64 0)))] false) (.block 0 (.loop (.seq (.region [ZO 15 (.bin .lss (.t 14) (.t 13))] false) (.seq (.cond (.t 15) .skip (.exit 0)) (.seq (.block 1 (.seq (.region [ZO 16 (.iaddr 8 (.t 12) (.t 14)),ZO 17 (.load true 8 (.t 16)),ZO 5 (.alloc [(.int .i64 0),(.int .i64 0),(.int .i64 0),(.int .i64 0),(.str []),.nilsl,.nilsl,.nilsl]),ZN (.store 8 (.t 5) (.t 17))] false) (.seq (.seq (.region [ZO 18 (.faddr 5 (.t 5)),ZO 19 (.load false 1 (.t 18)),ZO 20 (.len false (.t 19)),ZO 21 (.faddr 6 (.t 5)),ZO 22 (.load false 1 (.t 21)),ZO 23 (.len false (.t 22)),ZO 24 (.bin .add (.t 20) (.t 23)),ZO 25 (.bin .gtr (.t 24) (.c (.int .i64 60))),ZM 26 25,ZG 27 (.faddr 4 (.t 5)) 26 false,ZG 28 (.load false 1 (.t 27)) 26 false,ZG 29 (.len true (.t 28)) 26 false,ZG 30 (.bin .gtr (.t 29) (.c (.int .i64 60))) 26 false,ZO 31 (.pick (.t 26) (.c (.bool true)) (.t 30))] false) (.cond (.t 31) (.seq (.region [ZO 2 (.mv (.c (.bool true)))] false) .ret) .skip)) (.seq (.seq (.draw2 [ZO 32 (.fx (.mk0 4) []),ZO 33 (.faddr 5 (.t 5)),ZO 34 (.load false 1 (.t 33)),ZO 35 (.app 4 40 [(.str []),(.int .i64 0),(.int .i64 0),(.int .i64 0)] false (.t 32) (.t 34)),ZO 36 (.faddr 6 (.t 5)),ZO 37 (.load false 1 (.t 36)),ZO 38 (.app 4 40 [(.str []),(.int .i64 0),(.int .i64 0),(.int .i64 0)] false (.t 35) (.t 37)),ZO 39 (.len false (.t 38)),ZO 40 (.mv (.c (.int .i64 0)))] [false,false,false,false,false,false,false,false,false]) (.block 2 (.loop (.seq (.region [ZO 41 (.bin .lss (.t 40) (.t 39))] false) (.seq (.cond (.t 41) .skip (.exit 2)) (.seq (.block 3 (.seq (.region [ZO 42 (.iaddr 4 (.t 38) (.t 40)),ZO 43 (.load true 4 (.t 42)),ZO 7 (.alloc [(.str []),(.int .i64 0),(.int .i64 0),(.int .i64 0)]),ZN (.store 4 (.t 7) (.t 43))] false) (.region [ZM 44 3,ZO 45 (.faddr 0 (.t 7)),ZO 46 (.load false 1 (.t 45)),ZO 47 (.len true (.t 46)),ZO 48 (.bin .add (.t 44) (.t 47)),ZM 3 48] false))) (.region [ZO 49 (.bin .add (.t 40) (.c (.int .i64 1))),ZM 40 49] false))))))) (.seq (.region [ZM 50 3,ZO 51 (.bin .gtr (.t 50) (.c (.int .i64 3000)))] false) (.cond (.t 51) (.seq (.region [ZO 2 (.mv (.c (.bool true)))] false) .ret) .skip)))))) (.region [ZO 52 (.bin .add (.t 14) (.c (.int .i64 1))),ZM 14 52] false))))))) (.seq (.region [ZO 2 (.mv (.c (.bool false)))] false) .ret)))))
def Zb8 (f:Un → Int → Int) (m:Int) (n:Int) (k:Un):Int:=if n ≤ m then n + f k (m - n) else n
def sizeT:Nat → Un → Int → Int
  | 0,_,m=>m + 1
  | d + 1,u,m=>u.kids.foldl (Zb8 (sizeT d) m) 1
theorem sizeF_bd {f:Un → Int → Int} {m:Int} (hf:∀ k m',0 ≤ m' → 1 ≤ f k m' ∧ f k m' ≤ m' + 1):∀ (l:List Un) (n:Int),1 ≤ n → n ≤ m + 1 → n ≤ l.foldl (Zb8 f m) n ∧ l.foldl (Zb8 f m) n ≤ m + 1
  | [],n,_,h2=>⟨Int.le_refl _,h2⟩
  | k :: r,n,h1,h2=>by
    rw [List.foldl_cons]
    have hs:n ≤ Zb8 f m n k ∧ Zb8 f m n k ≤ m + 1:=by
      unfold Zb8
      split
      · have:=hf k (m - n) (by omega); omega
      · exact ⟨Int.le_refl _,h2⟩
    have:=sizeF_bd hf r (Zb8 f m n k) (by omega) hs.2
    omega
theorem sizeT_bd:∀ (d:Nat) (u:Un) (m:Int),0 ≤ m → 1 ≤ sizeT d u m ∧ sizeT d u m ≤ m + 1
  | 0,_,m,h=>by unfold sizeT; omega
  | d + 1,u,m,h=>by
    have:=sizeF_bd (m:=m) (fun k m' h'=>sizeT_bd d k m' h') u.kids 1 (Int.le_refl _) (by omega)
    rw [sizeT]; exact this
theorem sizeF_step (f:Un → Int → Int) (m:Int) {l:List Un} {k:Nat} (h:k < l.length):(l.take (k + 1)).foldl (Zb8 f m) 1 = Zb8 f m ((l.take k).foldl (Zb8 f m) 1) l[k]:=by
  rw [List.take_add_one,List.getElem?_eq_getElem h,List.foldl_append]; rfl
theorem sizeF_stop (f:Un → Int → Int) (m:Int):∀ (l:List Un) (n:Int),m < n → l.foldl (Zb8 f m) n = n
  | [],_,_=>rfl
  | k :: r,n,h=>by
    rw [List.foldl_cons]
    have:Zb8 f m n k = n:=by unfold Zb8; rw [if_neg (by omega)]
    rw [this]; exact sizeF_stop f m r n h
theorem sizeF_low {f:Un → Int → Int} {m:Int} (hf:∀ k m',0 ≤ m' → 1 ≤ f k m'):∀ (l:List Un) (n:Int),l.foldl (Zb8 f m) n ≤ m → n + l.length ≤ l.foldl (Zb8 f m) n
  | [],n,_=>by simp
  | k :: r,n,h=>by
    rw [List.foldl_cons] at h ⊢
    by_cases hn:n ≤ m
    · have e:Zb8 f m n k = n + f k (m - n):=by unfold Zb8; rw [if_pos hn]
      have h1:=hf k (m - n) (by omega)
      have:=sizeF_low hf r (Zb8 f m n k) h
      rw [List.length_cons]
      push_cast
      omega
    · have e:Zb8 f m n k = n:=by unfold Zb8; rw [if_neg hn]
      rw [e,sizeF_stop f m r n (by omega)] at h
      omega
theorem sp_size:∀ (d:Nat) (u:Un) (m:Int),d ≤ 1000 → 0 ≤ m → m ≤ 1000 → Za8 Tryd.prog 27 [.agg u.enc,pI m,pI d] (pI (sizeT d u m))
  | 0,u,m,hd,h0,h1=>by
    refine Zai ?_ (cI _) (by simp only [Zax,List.mem_cons,List.not_mem_nil,or_false,forall_eq_or_imp,forall_eq,false_implies,implies_true]; repeat' (first  | exact cI _ | exact Zao (Un.closed _) | exact Zbd (by simp only [List.mem_cons,List.not_mem_nil,or_false,forall_eq]; first | exact cI _ | exact cS _ | exact Za9 _) | refine And.intro ?_ ?_))
    refine Zan (vc:=Zbz) (ts:=[.t 6]) Go.Proofs.Tryd.func27 (by kernel_rfl) rfl rfl (Nat.le_of_ble_eq_true rfl) (by kernel_rfl) ?_
    unfold Zbz
    try dsimp only [ZM,ZO,ZN,ZG]
    rw [Un.Za1]
    refine Zac (Zaa [1,2,3] ?_)
    simp only [Zab,Zad,Zaf,pok,pval,VA.ev,Env.get,Env.put,Env.keep,Za3,Zae,PV.cells,PV.fits,Heap.push,Heap.nil,Nat.succ_ne_self,List.length,Nat.reduceEqDiff,Nat.reduceAdd,ite_true,ite_false,true_and,reduceCtorEq,BEq.rfl,Nat.zero_add]
    refine Zac (Zaa [1,2,3,7] ?_)
    simp only [Zab,Zad,Zaf,pok,pval,VA.ev,Env.get,Env.put,Env.keep,Zae,Nat.succ_ne_self,Nat.reduceEqDiff,ite_true,ite_false,true_and]
    refine Zac ?_
    refine Zac (Zaa [1,2,3,7,10] ?_)
    simp only [Zab,Zad,Zaf,pok,pval,VA.ev,Env.get,Env.put,Env.keep,Zae,intV,binV,Zal,Nat.succ_ne_self,Nat.reduceEqDiff,ite_true,ite_false,true_and]
    refine Zaj rfl (fun h1=>?_) (fun h1=>by cases h1)
    refine Zac (Zaa [6] ?_)
    simp only [Zab,Zad,Zaf,pok,pval,VA.ev,Env.get,Env.put,Env.keep,Zae,intV,binV,Zal,Nat.succ_ne_self,Nat.reduceEqDiff,ite_true,ite_false,true_and,w64 (n:=m + 1) (by omega) (by omega)]
    refine Zaz ?_
    try simp only [Env.get,Zae,retQ,resV,Zbc,RS.ev,RS.ok,ite_true,true_and,and_true]
    rw [sizeT]
    exact View.refl _ _
  | d + 1,u,m,hd,h0,h1=>by
    have A:=fun k m' a b=>sp_size d k m' (by omega) a b
    have hb:=fun k m' h=>sizeT_bd d k m' h
    rw [sizeT]
    generalize sizeT d = f at A hb ⊢
    refine Zai ?_ (cI _) (by simp only [Zax,List.mem_cons,List.not_mem_nil,or_false,forall_eq_or_imp,forall_eq,false_implies,implies_true]; repeat' (first  | exact cI _ | exact Zao (Un.closed _) | exact Closed.of_scalar (Zbt _ _) | exact Zbd (by simp only [List.mem_cons,List.not_mem_nil,or_false,forall_eq]; first | exact cI _ | exact cS _ | exact Za9 _) | refine And.intro ?_ ?_))
    refine Zan (vc:=Zbz) (ts:=[.t 6]) Go.Proofs.Tryd.func27 (by kernel_rfl) rfl rfl (Nat.le_of_ble_eq_true rfl) (by kernel_rfl) ?_
    unfold Zbz
    try dsimp only [ZM,ZO,ZN,ZG]
    rw [Un.Za1]
    refine Zac (Zaa [1,2,3] ?_)
    simp only [Zab,Zad,Zaf,pok,pval,VA.ev,Env.get,Env.put,Env.keep,Za3,Zae,PV.cells,PV.fits,Heap.push,Heap.nil,Nat.succ_ne_self,List.length,Nat.reduceEqDiff,Nat.reduceAdd,ite_true,ite_false,true_and,reduceCtorEq,BEq.rfl,Nat.zero_add]
    refine Zac (Zaa [1,2,3,7] ?_)
    simp only [Zab,Zad,Zaf,pok,pval,VA.ev,Env.get,Env.put,Env.keep,Zae,Nat.succ_ne_self,Nat.reduceEqDiff,ite_true,ite_false,true_and]
    refine Zbu [(1,pI m),(2,pI (d + 1:Nat)),(3,.ro [pI u.act,pI u.item,pI u.n,pI u.kind,.str u.label,.sl 4 (u.head.map Wd.enc),.sl 4 (u.words.map Wd.enc),.sl 8 (u.kids.map Un.enc)]),(7,pI 1)] ⟨View.refl _ _,View.refl _ _,View.loc (z:=8) (fz:=false) (es:=[[pI u.act,pI u.item,pI u.n,pI u.kind,.str u.label,.sl 4 (u.head.map Wd.enc),.sl 4 (u.words.map Wd.enc),.sl 8 (u.kids.map Un.enc)]]) rfl (by simp) rfl (by simp),View.refl _ _,trivial⟩ ?_
    generalize u.head.map Wd.enc = EH
    generalize u.words.map Wd.enc = EW
    generalize u.kids = L
    refine Zac ?_
    refine Zac (Zaa [1,2,3,7,10] ?_)
    simp only [Zab,Zad,Zaf,pok,pval,VA.ev,Env.get,Env.put,Env.keep,Zae,intV,binV,Zal,Nat.succ_ne_self,Nat.reduceEqDiff,ite_true,ite_false,true_and]
    have hz:((d + 1:Nat):Int) ≠ 0:=by omega
    refine Zaj rfl (fun h1=>by simp at h1; omega) (fun h1=>?_)
    refine Zap ?_
    try simp only [Zae]
    refine Zac ?_
    refine Zac (Zaa [1,2,3,7,8] ?_)
    simp only [Zab,Zad,Zaf,pok,pval,VA.ev,Env.get,Env.put,Env.keep,Zae,Nat.succ_ne_self,Nat.reduceEqDiff,ite_true,ite_false,true_and]
    refine Zam ?_
    refine Zb6 (σ:={ x:Nat × Nat // x.1 ≤ L.length ∧ (x.1:Int) + 1 ≤ m + 2 }) (fun x=>([(1,pI m),(2,pI (d + 1:Nat)),(3,.ro [pI u.act,pI u.item,pI u.n,pI u.kind,.str u.label,.sl 4 EH,.sl 4 EW,.sl 8 (L.map Un.enc)]),(7,pI ((L.take x.1.1).foldl (Zb8 f m) 1)),(8,pI x.1.1)],⟨[],x.1.2⟩)) (fun x=>L.length - x.1.1) ⟨(0,1),Nat.zero_le _,by simp; omega⟩ ?_ ?_ ?_
    · try simp only [Env.get,Nat.succ_ne_self,Env.le,List.take,Nat.reduceEqDiff,ite_true,ite_false,true_and,and_true,true_and]
      all_goals (repeat' (first | rfl | trivial | omega | (simp only []; omega) | refine And.intro ?_ ?_))
    · simp only [Heap.le,HL.le,Nat.le_refl,and_true]
    rintro ⟨⟨k,t⟩,hk,hk2⟩
    simp only [] at hk hk2 ⊢
    have hn:=sizeF_bd (f:=f) (m:=m) (fun k m' h=>hb k m' h) (L.take k) 1 (Int.le_refl _) (by omega)
    generalize hN:(L.take k).foldl (Zb8 f m) 1 = n at hn ⊢
    by_cases ka:k < L.length
    · have hc:decide ((k:Int) < (L.length:Int)) = true:=by simp; omega
      by_cases kn:n ≤ m
      · have hc2:decide (n ≤ m) = true:=by simpa using kn
        have hst:=sizeF_step f m ka
        rw [hN] at hst
        have hs2:Zb8 f m n L[k] = n + f L[k] (m - n):=by unfold Zb8; rw [if_pos kn]
        rw [hs2] at hst
        have hrow:(L.map Un.enc).getD k [] = L[k].enc:=rowm ka
        have R:=A L[k] (m - n) (by omega) (by omega)
        have hr:=hb L[k] (m - n) (by omega)
        have hlow:=sizeF_low (f:=f) (m:=m) (fun k m' h=>(hb k m' h).1) (L.take k) 1 (by rw [hN]; exact kn)
        rw [hN,List.length_take] at hlow
        generalize L[k] = v at hst hs2 hrow R hr
        rw [Un.Za1] at hrow R
        generalize f v (m - n) = s at hst R hr
        refine Zac ?_
        refine Zac (Zaa [1,2,3,7,8,22] ?_)
        simp only [Zab,Zad,OpsW_y,Zaf,pok,pval,VA.ev,Env.get,Env.put,Env.keep,Zae,pickV,isBool,aggV,intV,binV,Zal,lenV,Zbi,Zbf,Zag,Zas,Zcd,PV.nth,Heap.le,HL.le,Nat.le_refl,Nat.succ_ne_self,Env.le,List.length,List.getD_cons_zero,List.take,List.drop,List.take_succ_cons,Nat.reduceEqDiff,Bool.false_eq_true,ite_true,ite_false,true_and,and_true,implies_true,Nat.zero_add,List.length_cons,List.length_map,hc,hc2]
        refine Zaj rfl (fun _=>?_) (fun h=>by cases h)
        refine Zap ?_
        try simp only [Zae]
        refine Zac ?_
        refine Zam ?_
        refine Zaa [1,2,3,7,8] ?_
        simp only [Zab,Zad,Zaf,pok,pval,VA.ev,Env.get,Env.put,Env.keep,Zae,Zaw,aggV,intV,binV,Zal,strV,isInt,numOf,lenV,Zbi,Zbf,Zag,Zas,iaddrV,Zb5,PV.nth,PV.row,Nat.le_refl,Nat.succ_ne_self,List.map,List.length,List.getD_cons_zero,List.take,List.drop,List.take_succ_cons,Nat.reduceEqDiff,Nat.reduceAdd,Bool.false_eq_true,Bool.true_eq_false,ite_true,ite_false,true_and,and_true,implies_true,Nat.zero_add,List.length_cons,imp_self,Int.toNat_natCast,List.length_map,hrow,w64 (n:=m - n) (by omega) (by omega),w64 (n:=((d + 1:Nat):Int) - 1) (by omega) (by omega)]
        refine ⟨by omega,?_⟩
        have ed:((d + 1:Nat):Int) - 1 = (d:Int):=by omega
        rw [ed]
        refine Zaq R ?_
        try simp only [true_and,w64 (n:=n + s) (by omega) (by omega)]
        refine Zaa [1,2,3,7,8] ?_
        simp only [Zab,Zad,Zaf,pok,pval,VA.ev,Env.get,Env.put,Env.keep,Zae,intV,binV,Zal,Nat.succ_ne_self,Nat.reduceEqDiff,ite_true,ite_false,true_and,ad1 (a:=k) (by omega)]
        refine ⟨⟨(k + 1,t),ka,by simp only []; omega⟩,?_⟩
        simp only [hst]
        try simp only [Nat.le_refl,true_and,and_true,true_and]
        all_goals (repeat' (first | rfl | trivial | omega | (simp only []; omega) | refine And.intro ?_ ?_))
      · have hc2:decide (n ≤ m) = false:=by simpa using kn
        have hst:L.foldl (Zb8 f m) 1 = n:=by
          have e:L = L.take k ++ L.drop k:=(List.take_append_drop _ _).symm
          rw [e,List.foldl_append,hN]
          exact sizeF_stop f m _ n (by omega)
        rw [hst]
        refine Zac ?_
        refine Zac (Zaa [1,2,3,7,8,22] ?_)
        simp only [Zab,Zad,OpsW_y,Zaf,pok,pval,VA.ev,Env.get,Env.put,Env.keep,Zae,pickV,isBool,aggV,intV,binV,Zal,lenV,Zbi,Zbf,Zag,Zas,Zcd,PV.nth,Heap.le,HL.le,Nat.le_refl,Nat.succ_ne_self,Env.le,List.length,List.getD_cons_zero,List.take,List.drop,List.take_succ_cons,Nat.reduceEqDiff,Bool.false_eq_true,ite_true,ite_false,true_and,and_true,implies_true,Nat.zero_add,List.length_cons,List.length_map,hc,hc2]
        refine Zaj rfl (fun h=>by cases h) (fun _=>?_)
        refine Zbs ?_
        try simp only [Zae,Zaw,retQ,ite_true]
        refine Zac (Zaa [6] ?_)
        simp only [Zab,Zad,Zaf,pok,pval,VA.ev,Env.get,Env.put,Env.keep,Zae,Nat.succ_ne_self,Nat.reduceEqDiff,ite_true,ite_false,true_and]
        refine Zaz ?_
        try simp only [Env.get,retQ,resV,Zbc,RS.ev,RS.ok,ite_true,true_and,and_true]
        exact View.refl _ _
    · have hc:decide ((k:Int) < (L.length:Int)) = false:=by simp; omega
      obtain rfl:k = L.length:=by omega
      rw [List.take_length] at hN
      rw [hN]
      refine Zac ?_
      refine Zac (Zaa [1,2,3,7,8,22] ?_)
      simp only [Zab,Zad,OpsW_xt,Zaf,pok,pval,VA.ev,Env.get,Env.put,Env.keep,Zae,pickV,isBool,aggV,intV,binV,Zal,lenV,Zbi,Zbf,Zag,Zas,Zcd,PV.nth,Heap.le,HL.le,Nat.le_refl,Nat.succ_ne_self,Env.le,List.length,List.getD_cons_zero,List.take,List.drop,List.take_succ_cons,Nat.reduceEqDiff,Bool.false_eq_true,ite_true,ite_false,true_and,and_true,implies_true,Nat.zero_add,List.length_cons,List.length_map,hc]
      refine Zaj rfl (fun h=>by cases h) (fun _=>?_)
      refine Zbs ?_
      try simp only [Zae,Zaw,retQ,ite_true]
      refine Zac (Zaa [6] ?_)
      simp only [Zab,Zad,Zaf,pok,pval,VA.ev,Env.get,Env.put,Env.keep,Zae,Nat.succ_ne_self,Nat.reduceEqDiff,ite_true,ite_false,true_and]
      refine Zaz ?_
      try simp only [Env.get,retQ,resV,Zbc,RS.ev,RS.ok,ite_true,true_and,and_true]
      exact View.refl _ _
def sumTx (l:List Wd):Nat:=(l.map fun w=>w.text.length).sum
theorem sumTx_app (a b:List Wd):sumTx (a ++ b) = sumTx a + sumTx b:=by simp [sumTx]
theorem sumTx_step {l:List Wd} {k:Nat} (h:k < l.length):sumTx (l.take (k + 1)) = sumTx (l.take k) + l[k].text.length:=by
  rw [List.take_add_one,List.getElem?_eq_getElem h,sumTx_app]; simp [sumTx]
theorem sumTx_take (l:List Wd) (k:Nat):sumTx (l.take k) ≤ sumTx l:=by
  have:sumTx l = sumTx (l.take k) + sumTx (l.drop k):=by rw [← sumTx_app,List.take_append_drop]
  omega
theorem sumTx_mem {l:List Wd} {w:Wd} (h:w ∈ l):w.text.length ≤ sumTx l:=by
  induction l with
  | nil=>cases h
  | cons a r ih =>
    simp only [sumTx,List.map_cons,List.sum_cons]
    rcases List.mem_cons.1 h with rfl | h
    · omega
    · have:=ih h; unfold sumTx at this; omega
theorem sumTx_le {l:List Wd} {B:Nat} (h:∀ w ∈ l,w.text.length ≤ B):sumTx l ≤ l.length * B:=by
  induction l with
  | nil=>simp [sumTx]
  | cons a r ih =>
    have:=ih fun w hw=>h w (List.mem_cons_of_mem _ hw)
    have ha:=h a List.mem_cons_self
    simp only [sumTx,List.map_cons,List.sum_cons,List.length_cons,Nat.add_mul] at *
    omega
def bigU (x:Un):Bool:=decide (60 < x.head.length + x.words.length) || decide (60 < x.label.length)
def hvL:Nat → List Un → Bool
  | _,[]=>false
  | n,x :: r=>if bigU x = true then true else if 3000 < n + sumTx (x.head ++ x.words) then true else hvL (n + sumTx (x.head ++ x.words)) r
def heavyT (u:Un):Bool:=if 40 < sizeT 30 u 40 then true else hvL 0 (unitsT u)
structure WdB (w : Wd) : Prop where
  text : w.text.length ≤ 1048576
  ok : i64 w.act ∧ i64 w.item ∧ i64 w.at'
inductive UnB : Un → Prop
  | mk (u : Un) (h : i64 u.act ∧ i64 u.item ∧ i64 u.n ∧ i64 u.kind) (hl : u.label.length ≤ 1048576) (hh : u.head.length ≤ 1048576 ∧ ∀ w ∈ u.head, WdB w) (hw : u.words.length ≤ 1048576 ∧ ∀ w ∈ u.words, WdB w) (hk : u.kids.length ≤ 1048576) (hs : ∀ k ∈ u.kids, UnB k) : UnB u
theorem UnB.units {u:Un} (h:UnB u):∀ x ∈ unitsT u,UnB x:=by
  induction h with
  | mk u h hl hh hw hk hs ih =>
    intro x hx
    rw [Za5] at hx
    rcases List.mem_cons.1 hx with rfl | hx
    · exact .mk _ h hl hh hw hk hs
    · rw [Zby] at hx
      obtain ⟨k,h1,h2⟩:=List.mem_flatMap.1 hx
      exact ih k h1 x h2
theorem sizeT_count:∀ (d:Nat) (u:Un) (m:Int),0 ≤ m → sizeT d u m ≤ m → ((unitsT u).length:Int) = sizeT d u m
  | 0,u,m,_,h=>by unfold sizeT at h; omega
  | d + 1,u,m,h0,h=>by
    have hb:=fun k m' h=>sizeT_bd d k m' h
    have ih:=fun k m' a b=>sizeT_count d k m' a b
    rw [sizeT] at h ⊢
    rw [Za5]
    generalize sizeT d = f at hb ih h ⊢
    have key:∀ (l:List Un) (n:Int),1 ≤ n → l.foldl (Zb8 f m) n ≤ m → n + ((unitsL l).length:Int) = l.foldl (Zb8 f m) n:=by
      intro l
      induction l with
      | nil=>intro n _ _; simp [unitsL]
      | cons k r ihr =>
        intro n hn hle
        rw [List.foldl_cons] at hle ⊢
        by_cases hnm:n ≤ m
        · have e:Zb8 f m n k = n + f k (m - n):=by unfold Zb8; rw [if_pos hnm]
          have h1:=hb k (m - n) (by omega)
          have hmono:Zb8 f m n k ≤ r.foldl (Zb8 f m) (Zb8 f m n k):=by
            by_cases hgt:m < Zb8 f m n k
            · rw [sizeF_stop f m r _ hgt]; exact Int.le_refl _
            · have:=sizeF_low (f:=f) (m:=m) (fun k m' h=>(hb k m' h).1) r (Zb8 f m n k) hle
              omega
          have h2:=ihr (Zb8 f m n k) (by omega) hle
          have h3:=ih k (m - n) (by omega) (by omega)
          rw [unitsL,List.length_append]
          push_cast
          omega
        · have e:Zb8 f m n k = n:=by unfold Zb8; rw [if_neg hnm]
          rw [e,sizeF_stop f m r n (by omega)] at hle
          omega
    have:=key u.kids 1 (Int.le_refl _) h
    rw [List.length_cons]
    push_cast
    omega
theorem unitsT_pos (u:Un):1 ≤ (unitsT u).length:=by rw [Za5]; simp
theorem unitsL_kids:∀ l:List Un,l.length ≤ (unitsL l).length
  | []=>by simp [unitsL]
  | k :: r=>by rw [unitsL,List.length_append,List.length_cons]; have:=unitsT_pos k; have:=unitsL_kids r; omega
theorem unitsL_mem {l:List Un} {k:Un} (h:k ∈ l):(unitsT k).length ≤ (unitsL l).length:=by
  induction l with
  | nil=>cases h
  | cons a r ih =>
    rw [unitsL,List.length_append]
    rcases List.mem_cons.1 h with rfl | h
    · omega
    · have:=ih h; omega
theorem kid_of_count {u:Un} (hu:UnB u) (hn:(unitsT u).length ≤ 1000):KidT u:=by
  induction hu with
  | mk u h hl hh hw hk hs ih =>
    rw [Za5,List.length_cons] at hn
    have:=unitsL_kids u.kids
    exact .mk u (by omega) fun k hk=>ih k hk (by have:=unitsL_mem hk; omega)
theorem hvL_false:∀ (l:List Un) (n:Nat),hvL n l = false → ∀ x ∈ l,bigU x = false ∧ sumTx (x.head ++ x.words) ≤ 3000
  | [],_,_,x,h=>by cases h
  | a :: r,n,hf,x,h=>by
    unfold hvL at hf
    split at hf
    · cases hf
    · rename_i h1
      split at hf
      · cases hf
      · rename_i h2
        rcases List.mem_cons.1 h with rfl | h
        · exact ⟨by simpa using h1,by omega⟩
        · exact hvL_false r _ hf x h
theorem smal_of {u:Un} (hu:UnB u) (hn:(unitsT u).length ≤ 1000) (hx:∀ x ∈ unitsT u,bigU x = false ∧ sumTx (x.head ++ x.words) ≤ 3000):SmalT u:=by
  induction hu with
  | mk u h hl hh hw hk hs ih =>
    have h0:=hx u (by rw [Za5]; exact List.mem_cons_self)
    simp only [bigU,Bool.or_eq_false_iff,decide_eq_false_iff_not] at h0
    have hn':=hn
    rw [Za5,List.length_cons] at hn'
    have hkl:=unitsL_kids u.kids
    rw [sumTx_app] at h0
    refine .mk u ⟨h,by omega,⟨by omega,fun w hw'=>⟨?_,(hh.2 w hw').ok⟩⟩,⟨by omega,fun w hw'=>⟨?_,(hw.2 w hw').ok⟩⟩⟩ (by omega) fun k hkk=>ih k hkk (by have:=unitsL_mem hkk; omega) fun x hxk=>hx x ?_
    · have:=sumTx_mem hw'; omega
    · have:=sumTx_mem hw'; omega
    · rw [Za5,Zby]
      exact List.mem_cons_of_mem _ (List.mem_flatMap.2 ⟨k,hkk,hxk⟩)
theorem light {u:Un} (hu:UnB u) (h:heavyT u = false):SmalT u ∧ (unitsT u).length ≤ 40:=by
  unfold heavyT at h
  split at h
  · cases h
  · rename_i h1
    have hc:=sizeT_count 30 u 40 (by omega) (by omega)
    have hn:(unitsT u).length ≤ 40:=by omega
    exact ⟨smal_of hu (by omega) (hvL_false _ 0 h),hn⟩
theorem sp_heavy {u:Un} (hu:UnB u):Za8 Tryd.prog 11 [.agg u.enc] (.bool (heavyT u)):=by
  have S:=sp_size 30 u 40 (by omega) (by omega) (by omega)
  have hbd:=sizeT_bd 30 u 40 (by omega)
  have hcount:=sizeT_count 30 u 40 (by omega)
  have hUB:=hu.units
  have U:=fun h=>sp_r_Units (kid_of_count hu h)
  unfold heavyT
  generalize sizeT 30 u 40 = z at S hbd hcount ⊢
  generalize unitsT u = L at hcount hUB U ⊢
  refine Zai ?_ (cB _) (by simp only [Zax,List.mem_cons,List.not_mem_nil,or_false,forall_eq_or_imp,forall_eq,false_implies,implies_true]; repeat' (first  | exact cB _ | exact Zao (Un.closed _) | refine And.intro ?_ ?_))
  refine Zan (vc:=c_pandectlaw12_heavy) (ts:=[.t 2]) Go.Proofs.Tryd.func11 (by kernel_rfl) rfl rfl (Nat.le_of_ble_eq_true rfl) (by kernel_rfl) ?_
  unfold c_pandectlaw12_heavy
  try dsimp only [ZM,ZO,ZN,ZG]
  rw [Un.Za1] at S U ⊢
  generalize u.head.map Wd.enc = EH at S U ⊢
  generalize u.words.map Wd.enc = EW at S U ⊢
  generalize u.kids.map Un.enc = EK at S U ⊢
  refine Zac (Zaa [1] ?_)
  simp only [Zab,Zad,Zaf,pok,pval,VA.ev,Env.get,Env.put,Env.keep,Za3,Zae,PV.cells,PV.fits,Heap.push,Heap.nil,Nat.succ_ne_self,List.length,Nat.reduceAdd,ite_true,ite_false,true_and,reduceCtorEq,BEq.rfl,Nat.zero_add]
  refine Zbu [(1,.ro [pI u.act,pI u.item,pI u.n,pI u.kind,.str u.label,.sl 4 EH,.sl 4 EW,.sl 8 EK])] ⟨View.loc (z:=8) (fz:=false) (es:=[[pI u.act,pI u.item,pI u.n,pI u.kind,.str u.label,.sl 4 EH,.sl 4 EW,.sl 8 EK]]) rfl (by simp) rfl (by simp),trivial⟩ ?_
  refine Zac ?_
  refine Zac (Zaa [1,10] ?_)
  simp only [Zab,Zad,Zaf,pok,pval,VA.ev,Env.get,Env.put,Env.keep,Zae,aggV,intV,binV,Zal,strV,Zag,Zas,PV.nth,Nat.le_refl,List.map,List.length,List.getD_cons_zero,List.take,List.take_succ_cons,Nat.reduceEqDiff,Nat.reduceAdd,Bool.true_eq_false,ite_true,ite_false,true_and,and_true,Nat.zero_add,List.length_cons,imp_self]
  refine Zaq S ?_
  try simp only [true_and]
  refine Zaj rfl (fun h1=>?_) (fun h1=>?_)
  · refine Zac (Zaa [2] ?_)
    simp only [Zab,Zad,Zaf,pok,pval,VA.ev,Env.get,Env.put,Env.keep,Zae,Nat.reduceEqDiff,ite_true,ite_false,true_and]
    refine Zaz ?_
    try simp only [Env.get,Zae,retQ,resV,Zbc,RS.ev,RS.ok,ite_true,true_and,and_true]
    rw [if_pos (by simpa using h1)]
    exact View.refl _ _
  have hz:¬ 40 < z:=by simpa using h1
  rw [if_neg hz]
  have hL:=hcount (by omega)
  have U':=U (by omega) (by omega)
  refine Zap ?_
  try simp only [Zae]
  refine Zac (Zaa [1,3] ?_)
  simp only [Zab,Zad,Zaf,pok,pval,VA.ev,Env.get,Env.put,Env.keep,Zae,Nat.reduceEqDiff,ite_true,ite_false,true_and]
  refine Zac ?_
  refine Zac (Zaa [3,12,13,14] ?_)
  simp only [Zab,Zad,Zaf,pok,pval,VA.ev,Env.get,Env.put,Env.keep,Zae,aggV,lenV,Zag,Zas,Zcd,PV.nth,Nat.le_refl,Nat.succ_ne_self,List.map,List.length,List.getD_cons_zero,List.take,List.take_succ_cons,Nat.reduceEqDiff,Nat.reduceAdd,Bool.false_eq_true,Bool.true_eq_false,ite_true,ite_false,true_and,and_true,Nat.zero_add,List.length_cons,imp_self]
  refine Zaq U' ?_
  try simp only [true_and,List.length_map]
  refine Zam ?_
  refine Zb6 (σ:={ x:Nat × Nat × Nat // x.1 ≤ L.length ∧ x.2.1 ≤ 3000 ∧ hvL 0 L = hvL x.2.1 (L.drop x.1) }) (fun x=>([(3,pI x.1.2.1),(12,.sl 8 (L.map Un.enc)),(13,pI L.length),(14,pI x.1.1)],⟨[],x.1.2.2⟩)) (fun x=>L.length - x.1.1) ⟨(0,0,1),Nat.zero_le _,Nat.zero_le _,rfl⟩ ?_ ?_ ?_
  · try simp only [Env.get,Nat.succ_ne_self,Env.le,Nat.reduceEqDiff,ite_true,ite_false,true_and,and_true,true_and]
    all_goals (repeat' (first | rfl | trivial | omega | (simp only []; omega) | refine And.intro ?_ ?_))
  · simp only [Heap.le,HL.le,Nat.le_refl,and_true]
  rintro ⟨⟨k,n,t⟩,hk,hn3,hhv⟩
  simp only [] at hk hn3 hhv ⊢
  refine Zac (Zaa [3,12,13,14,15] ?_)
  simp only [Zab,Zad,Zaf,pok,pval,VA.ev,Env.get,Env.put,Env.keep,Zae,intV,binV,Zal,Heap.le,HL.le,Nat.succ_ne_self,Env.le,Nat.reduceEqDiff,ite_true,ite_false,true_and,and_true]
  refine Zac ?_
  refine Zaj rfl (fun h2=>?_) (fun h2=>?_)
  · simp only [decide_eq_true_eq] at h2
    have ka:k < L.length:=by omega
    have hrow:(L.map Un.enc).getD k [] = L[k].enc:=rowm ka
    have hd:L.drop k = L[k] :: L.drop (k + 1):=List.drop_eq_getElem_cons ka
    have hB:=hUB _ (List.getElem_mem ka)
    rw [hd] at hhv
    generalize L[k] = x at hrow hhv hB
    rw [hvL] at hhv
    obtain ⟨_,hI,hlB,hhB,hwB,_,_⟩:=hB
    rw [Un.Za1] at hrow
    have bigE:bigU x = (decide (60 < x.head.length + x.words.length) || decide (60 < x.label.length)):=rfl
    have mapH:(x.head.map Wd.enc).length = x.head.length:=List.length_map _
    have mapW:(x.words.map Wd.enc).length = x.words.length:=List.length_map _
    refine Zap ?_
    try simp only [Zae]
    refine Zac ?_
    refine Zam ?_
    refine Zac (Zaa [3,5,12,13,14] ?_)
    simp only [Zab,Zad,Zaf,pok,pval,VA.ev,Env.get,Env.put,Env.keep,Zae,aggV,isInt,numOf,lenV,Zag,Zas,iaddrV,Zb5,PV.cells,PV.fits,overlay,PV.nth,PV.row,Heap.get,Heap.set,HL.get,HL.set,HL.del,Heap.push,Nat.le_refl,Nat.succ_ne_self,Zbj,Zbh,List.set,List.length,List.getD_cons_zero,List.take,List.drop,List.take_succ_cons,List.drop_succ_cons,List.cons_append,List.nil_append,Nat.reduceEqDiff,Nat.reduceAdd,Nat.reduceLT,Bool.true_eq_false,ite_true,ite_false,true_and,and_true,BEq.rfl,Nat.zero_add,List.length_cons,imp_self,Int.toNat_natCast,List.length_map,hrow]
    refine ⟨by omega,?_⟩
    refine Zbu [(3,pI n),(5,.ro [pI x.act,pI x.item,pI x.n,pI x.kind,.str x.label,.sl 4 (x.head.map Wd.enc),.sl 4 (x.words.map Wd.enc),.sl 8 (x.kids.map Un.enc)]),(12,.sl 8 (L.map Un.enc)),(13,pI L.length),(14,pI k)] ⟨View.refl _ _,View.loc (z:=8) (fz:=false) (es:=[[pI x.act,pI x.item,pI x.n,pI x.kind,.str x.label,.sl 4 (x.head.map Wd.enc),.sl 4 (x.words.map Wd.enc),.sl 8 (x.kids.map Un.enc)]]) (by simp [Heap.get,HL.get]) (by simp) rfl (by simp),View.refl _ _,View.refl _ _,View.refl _ _,trivial⟩ ?_
    refine Zac ?_
    refine Zac (VW_mid (σ:={ b:Bool // b = bigU x }) (fun b=>([(3,pI n),(5,.ro [pI x.act,pI x.item,pI x.n,pI x.kind,.str x.label,.sl 4 (x.head.map Wd.enc),.sl 4 (x.words.map Wd.enc),.sl 8 (x.kids.map Un.enc)]),(12,.sl 8 (L.map Un.enc)),(13,pI L.length),(14,pI k),(31,.bool b.1)],⟨[],t + 1⟩)) (Zaa [3,5,12,13,14,31] ?_) (fun b=>?_))
    · by_cases hc:60 < x.head.length + x.words.length
      · have hc':decide ((60:Int) < (x.head.length:Int) + (x.words.length:Int)) = true:=by simp; omega
        simp only [midQ,Zab,Zad,OpsW_xf,Zaf,pok,pval,VA.ev,Env.get,Env.put,Env.keep,pickV,isBool,aggV,intV,binV,Zal,lenV,Zbi,Zbf,Zag,Zas,Zcd,PV.nth,Heap.le,HL.le,Nat.le_refl,Nat.succ_ne_self,Env.le,List.length,List.getD_cons_zero,List.take,List.drop,List.take_succ_cons,Nat.reduceEqDiff,Nat.reduceAdd,Nat.reduceLeDiff,Bool.false_eq_true,ite_true,ite_false,true_and,and_true,implies_true,Nat.zero_add,List.length_cons,mapH,mapW,w64 (n:=(x.head.length:Int) + (x.words.length:Int)) (by omega) (by omega),hc']
        exact ⟨⟨true,by rw [bigE]; simp [hc]; try omega⟩,by first | trivial | rfl | exact ⟨rfl,trivial⟩ | simp⟩
      · have hc':decide ((60:Int) < (x.head.length:Int) + (x.words.length:Int)) = false:=by simp; omega
        simp only [midQ,Zab,Zad,OpsW_y,Zaf,pok,pval,VA.ev,Env.get,Env.put,Env.keep,pickV,isBool,aggV,intV,binV,Zal,lenV,Zbi,Zbf,Zag,Zas,Zcd,PV.nth,Heap.le,HL.le,Nat.le_refl,Nat.succ_ne_self,Env.le,List.length,List.getD_cons_zero,List.take,List.drop,List.take_succ_cons,Nat.reduceEqDiff,Nat.reduceAdd,Nat.reduceLeDiff,Bool.false_eq_true,ite_true,ite_false,true_and,and_true,implies_true,Nat.zero_add,List.length_cons,mapH,mapW,w64 (n:=(x.head.length:Int) + (x.words.length:Int)) (by omega) (by omega),hc']
        exact ⟨⟨decide ((60:Int) < (x.label.length:Int)),by rw [bigE]; simp [hc]; try omega⟩,by first | trivial | rfl | exact ⟨rfl,trivial⟩ | simp⟩
    obtain ⟨b,hb⟩:=b
    simp only []
    refine Zaj rfl (fun h3=>?_) (fun h3=>?_)
    · have hbt:bigU x = true:=by rw [← hb]; exact h3
      rw [if_pos hbt] at hhv
      rw [hhv]
      refine Zac (Zaa [2] ?_)
      simp only [Zab,Zad,Zaf,pok,pval,VA.ev,Env.get,Env.put,Env.keep,Zae,Nat.succ_ne_self,Nat.reduceEqDiff,ite_true,ite_false,true_and]
      refine Zaz ?_
      try simp only [Env.get,Zae,Zaw,retQ,resV,Zbc,RS.ev,RS.ok,ite_true,true_and,and_true]
      exact View.refl _ _
    have hbf:bigU x = false:=by rw [← hb]; exact h3
    rw [if_neg (by rw [hbf]; simp)] at hhv
    simp only [bigU,Bool.or_eq_false_iff,decide_eq_false_iff_not] at hbf
    have hTx:∀ w ∈ x.head ++ x.words,w.text.length ≤ 1048576:=fun w hw=>by
      rcases List.mem_append.1 hw with h | h
      · exact (hhB.2 w h).text
      · exact (hwB.2 w h).text
    have hAl:(x.head ++ x.words).length = x.head.length + x.words.length:=List.length_append
    have hcat:x.head.map Wd.enc ++ x.words.map Wd.enc = (x.head ++ x.words).map Wd.enc:=by rw [List.map_append]
    have tH:List.take x.head.length (x.head.map Wd.enc) = x.head.map Wd.enc:=List.take_of_length_le (by rw [mapH]; exact Nat.le_refl _)
    have hsum:=sumTx_le hTx
    have hsum2:(x.head ++ x.words).length * 1048576 ≤ 60 * 1048576:=Nat.mul_le_mul (by omega) (Nat.le_refl _)
    refine Zap ?_
    try simp only [Zae]
    refine Zac ?_
    refine Zac (VW_draw2Q [3,12,13,14,38,39,40] ⟨[],t + 1 + 20⟩ (by simp [Heap.le,Heap.get,HL.le,HL.get]) ?_)
    simp only [Zaf,DrawW_nil,DrawW_n,QW,dok,dval,VOp.pure,VOp.simple,VOp.det,pok,pval,VA.ev,Env.get,Env.put,Env.keep,Zae,gd,aggV,lenV,Zbi,Zbf,Zag,Zas,Zcd,PV.nth,Heap.get,Heap.del,Heap.le,HL.get,HL.del,HL.le,Heap.push,Nat.le_refl,Nat.succ_ne_self,Zbe,oldId,Zbn,oldOk,Za0,srcOk,fxV,fxOk,List.map,List.length,List.getD_cons_zero,List.take,List.drop,List.take_succ_cons,List.nil_append,Nat.reduceEqDiff,Nat.reduceAdd,Nat.reduceLeDiff,Bool.false_eq_true,ite_true,ite_false,true_and,and_true,implies_true,Nat.zero_add,Nat.add_zero,List.length_cons,List.length_nil,mapH,mapW,tH]
    refine ⟨by omega,by omega,by omega,by omega,by omega,by omega,?_⟩
    rw [hcat]
    have mapA:((x.head ++ x.words).map Wd.enc).length = x.head.length + x.words.length:=by rw [List.length_map,hAl]
    refine ⟨by omega,?_⟩
    obtain ⟨t4,ht4⟩:∃ t4,t4 = t + 1 + 1 + 1:=⟨_,rfl⟩
    rw [← ht4]
    rw [hAl] at hsum2
    generalize x.head ++ x.words = A at *
    refine Zbu [(3,pI n),(12,.sl 8 (L.map Un.enc)),(13,pI L.length),(14,pI k),(38,.sl 4 (A.map Wd.enc)),(39,pI (x.head.length + x.words.length:Nat)),(40,pI 0)] ⟨View.refl _ _,View.refl _ _,View.refl _ _,View.refl _ _,View.own_all (fz:=false) (by simp [Heap.get,HL.get]) (by first | exact mapA | exact mapA.symm),View.refl _ _,View.refl _ _,trivial⟩ ?_
    rw [← hAl] at hsum2 ⊢
    have mA:(A.map Wd.enc).length = A.length:=List.length_map _
    refine Zam ?_
    refine Zb6 (σ:={ y:Nat × Nat // y.1 ≤ A.length }) (fun y=>([(3,pI (n + sumTx (A.take y.1.1):Nat)),(12,.sl 8 (L.map Un.enc)),(13,pI L.length),(14,pI k),(38,.sl 4 (A.map Wd.enc)),(39,pI A.length),(40,pI y.1.1)],⟨[],y.1.2⟩)) (fun y=>A.length - y.1.1) ⟨(0,t4 + 1),Nat.zero_le _⟩ ?_ ?_ ?_
    · have e6:sumTx (A.take 0) = 0:=by simp [sumTx]
      simp only [e6]
      simp only [Env.get,Nat.succ_ne_self,Env.le,Nat.reduceEqDiff,ite_true,ite_false,true_and,and_true,Nat.add_zero]
      rfl
    · simp only [Heap.le,HL.le,Nat.le_refl,and_true]
    rintro ⟨⟨j,t5⟩,hj⟩
    simp only [] at hj ⊢
    have hsj:=sumTx_take A j
    refine Zac (Zaa [3,12,13,14,38,39,40,41] ?_)
    simp only [Zab,Zad,Zaf,pok,pval,VA.ev,Env.get,Env.put,Env.keep,Zae,intV,binV,Zal,Heap.le,HL.le,Nat.succ_ne_self,Env.le,Nat.reduceEqDiff,ite_true,ite_false,true_and,and_true]
    refine Zac ?_
    refine Zaj rfl (fun h4=>?_) (fun h4=>?_)
    · simp only [decide_eq_true_eq] at h4
      have ja:j < A.length:=by omega
      have hrj:(A.map Wd.enc).getD j [] = A[j].enc:=rowm ja
      have hsst:=sumTx_step ja
      have hsj2:=sumTx_take A (j + 1)
      generalize A[j] = w at hrj hsst
      have hwe:w.enc = [.str w.text,pI w.act,pI w.item,pI w.at']:=rfl
      rw [hwe] at hrj
      refine Zap ?_
      try simp only [Zae]
      refine Zac ?_
      refine Zam ?_
      refine Zac (Zaa [3,7,12,13,14,38,39,40] ?_)
      simp only [Zab,Zad,Zaf,pok,pval,VA.ev,Env.get,Env.put,Env.keep,Zae,aggV,isInt,numOf,lenV,Zag,Zas,iaddrV,Zb5,PV.cells,PV.fits,overlay,PV.nth,PV.row,Heap.get,Heap.set,HL.get,HL.set,HL.del,Heap.push,Nat.le_refl,Nat.succ_ne_self,Zbj,Zbh,List.set,List.length,List.getD_cons_zero,List.take,List.drop,List.take_succ_cons,List.drop_succ_cons,List.cons_append,List.nil_append,Nat.reduceEqDiff,Nat.reduceAdd,Nat.reduceLT,Bool.true_eq_false,ite_true,ite_false,true_and,and_true,BEq.rfl,Nat.zero_add,List.length_cons,imp_self,Int.toNat_natCast,mA,hrj]
      refine ⟨by omega,?_⟩
      refine Zaa [3,12,13,14,38,39,40] ?_
      simp only [Zab,Zad,Zaf,pok,pval,VA.ev,Env.get,Env.put,Env.keep,Zae,Zaw,aggV,intV,binV,Zal,lenV,Zbi,Zbf,Zag,Zas,Zcd,PV.nth,PV.row,Heap.get,HL.get,Nat.succ_ne_self,List.length,List.getD_cons_zero,List.take,List.drop,List.take_succ_cons,Nat.reduceEqDiff,Nat.reduceAdd,Nat.reduceLT,Nat.reduceLeDiff,Bool.false_eq_true,ite_true,ite_false,true_and,and_true,implies_true,Nat.zero_add,Nat.add_zero,List.length_cons,w64 (n:=((n + sumTx (A.take j):Nat):Int) + (w.text.length:Int)) (by omega) (by omega)]
      refine Zaa [3,12,13,14,38,39,40] ?_
      simp only [Zab,Zad,Zaf,pok,pval,VA.ev,Env.get,Env.put,Env.keep,Zae,intV,binV,Zal,Nat.succ_ne_self,Nat.reduceEqDiff,ite_true,ite_false,true_and,ad1 (a:=j) (by omega)]
      refine ⟨⟨(j + 1,t5 + 1),ja⟩,?_⟩
      simp only [hsst]
      have e5:((n + (sumTx (A.take j) + w.text.length):Nat):Int) = ((n + sumTx (A.take j):Nat):Int) + (w.text.length:Int):=by omega
      rw [e5]
      simp only [Nat.le_refl,true_and,and_true]
      omega
    simp only [decide_eq_false_iff_not] at h4
    obtain rfl:j = A.length:=by omega
    rw [List.take_length]
    refine Zbs ?_
    try simp only [Zae,Zaw,retQ,Nat.succ_ne_self,ite_true,ite_false,reduceCtorEq]
    refine Zac (Zaa [3,12,13,14,51] ?_)
    simp only [Zab,Zad,Zaf,pok,pval,VA.ev,Env.get,Env.put,Env.keep,Zae,intV,binV,Zal,Nat.succ_ne_self,Nat.reduceEqDiff,ite_true,ite_false,true_and]
    refine Zaj rfl (fun h5=>?_) (fun h5=>?_)
    · simp only [decide_eq_true_eq] at h5
      rw [if_pos (by omega)] at hhv
      rw [hhv]
      refine Zac (Zaa [2] ?_)
      simp only [Zab,Zad,Zaf,pok,pval,VA.ev,Env.get,Env.put,Env.keep,Zae,Nat.succ_ne_self,Nat.reduceEqDiff,ite_true,ite_false,true_and]
      refine Zaz ?_
      try simp only [Env.get,Zae,Zaw,retQ,resV,Zbc,RS.ev,RS.ok,ite_true,true_and,and_true]
      exact View.refl _ _
    simp only [decide_eq_false_iff_not] at h5
    rw [if_neg (by omega)] at hhv
    refine Zap ?_
    try simp only [Zae,Zaw]
    refine Zaa [3,12,13,14] ?_
    simp only [Zab,Zad,Zaf,pok,pval,VA.ev,Env.get,Env.put,Env.keep,Zae,intV,binV,Zal,Nat.succ_ne_self,Nat.reduceEqDiff,ite_true,ite_false,true_and,ad1 (a:=k) (by omega)]
    refine ⟨⟨(k + 1,n + sumTx A,t5),ka,by simp only []; omega,hhv⟩,?_⟩
    simp only [Nat.le_refl,true_and,and_true]
    omega
  simp only [decide_eq_false_iff_not] at h2
  obtain rfl:k = L.length:=by omega
  refine Zbs ?_
  try simp only [Zae,Zaw,retQ,ite_true]
  refine Zac (Zaa [2] ?_)
  simp only [Zab,Zad,Zaf,pok,pval,VA.ev,Env.get,Env.put,Env.keep,Zae,Nat.succ_ne_self,Nat.reduceEqDiff,ite_true,ite_false,true_and]
  refine Zaz ?_
  try simp only [Env.get,retQ,resV,Zbc,RS.ev,RS.ok,ite_true,true_and,and_true]
  rw [hhv,List.drop_length,hvL]
  exact View.refl _ _
end Go.Proofs.YtjmekckcffckoaaDoor.w
namespace Go.Proofs.YtjmekckcffckoaaDoor.w
open Go Go.VM
set_option maxRecDepth 20000
set_option maxHeartbeats 0
set_option pp.deepTerms false
def c_digest_gather:VC:=(.seq (.region [ZO 2 (.box 8 (.t 0))] false) (.seq (.seq (.region [ZM 9 1,ZO 10 (.faddr 0 (.t 2)),ZO 11 (.load true 3 (.t 10)),ZO 12 (.lookup (.st [.i,.i,.i]) (.str []) true (.t 9) (.t 11)),ZM 8 12,ZO 13 (.ext (.t 8) 0),ZO 14 (.ext (.t 8) 1),ZM 4 13,ZM 5 14] false) (.seq (.region [ZM 15 5,ZO 16 (.un .not (.t 15))] false) (.cond (.t 16) (.draw2 [ZM 17 1,ZO 18 (.faddr 0 (.t 2)),ZO 19 (.load true 3 (.t 18)),ZO 20 (.load true 8 (.t 2)),ZO 21 (.call 14 [(.t 20)]),ZN (.mapset (.st [.i,.i,.i]) (.t 17) (.t 19) (.t 21))] [true,true,true,true,true,false]) .skip))) (.seq (.region [ZO 22 (.faddr 7 (.t 2)),ZO 23 (.load false 1 (.t 22)),ZO 24 (.len false (.t 23)),ZO 25 (.mv (.c (.int .i64 0)))] false) (.block 0 (.loop (.seq (.region [ZO 26 (.bin .lss (.t 25) (.t 24))] false) (.seq (.cond (.t 26) .skip (.exit 0)) (.seq (.block 1 (.seq (.region [ZO 27 (.iaddr 8 (.t 23) (.t 25)),ZO 28 (.load true 8 (.t 27)),ZO 7 (.alloc [(.int .i64 0),(.int .i64 0),(.int .i64 0),(.int .i64 0),(.str []),.nilsl,.nilsl,.nilsl]),ZN (.store 8 (.t 7) (.t 28))] false) (.region [ZO 29 (.load true 8 (.t 7)),ZM 30 1,ZO 31 (.call 36 [(.t 29),(.t 30)])] false))) (.region [ZO 32 (.bin .add (.t 25) (.c (.int .i64 1))),ZM 25 32] false)))))))))
def idU (u:Un):Idt:=⟨u.act,u.item,u.n⟩
def findG (M:List (Idt × Str)) (x:Idt):Option (Idt × Str):=M.find? fun e=>e.1 == x
def gthU (M:List (Idt × Str)) (u:Un):List (Idt × Str):=if (findG M (idU u)).isSome then M else M ++ [(idU u,saysT true u)]
def encG (M:List (Idt × Str)):List (PV × PV):=M.map fun e=>(.agg e.1.enc,.str e.2)
theorem keyEq_id (x y:Idt):keyEq (.agg x.enc) (.agg y.enc) = (x == y):=by
  rw [Bool.eq_iff_iff]
  cases x; cases y
  simp [keyEq,PV.cells,Idt.enc,Zav,Zb9,and_assoc]
theorem mapFind_encG (x:Idt):∀ M:List (Idt × Str),Zch (.agg x.enc) (encG M) = (findG M x).map fun e=>.str e.2
  | []=>rfl
  | e :: r=>by
    have ih:=mapFind_encG x r
    unfold findG encG at *
    simp only [List.map_cons,Zch,List.find?_cons,keyEq_id]
    cases h:e.1 == x with
    | true =>
      have:x == e.1:=by rw [beq_iff_eq] at h ⊢; exact h.symm
      rw [this]; rfl
    | false =>
      have:(x == e.1) = false:=by rw [beq_eq_false_iff_ne] at h ⊢; exact h.symm
      rw [this]; simpa using ih
theorem mapPut_encG (x:Idt) (s:Str):∀ M:List (Idt × Str),findG M x = none → mapPut (.agg x.enc) (.str s) (encG M) = encG (M ++ [(x,s)])
  | [],_=>rfl
  | e :: r,h=>by
    unfold findG at h
    rw [List.find?_cons] at h
    cases hk:e.1 == x with
    | true=>rw [hk] at h; cases h
    | false =>
      rw [hk] at h
      have ih:=mapPut_encG x s r h
      have:(x == e.1) = false:=by rw [beq_eq_false_iff_ne] at hk ⊢; exact hk.symm
      unfold encG at *
      simp only [List.map_cons,mapPut,keyEq_id,this,Bool.false_eq_true,if_false,List.cons_append]
      rw [ih]
theorem keysOk_encG (x:Idt) (M:List (Idt × Str)):Zcc (.st [.i,.i,.i]) (.agg x.enc) (encG M):=by
  refine ⟨⟨trivial,trivial,?_⟩,fun p hp=>?_⟩
  · simp [Idt.enc,PV.cells,eqOk,ekOk]
  · simp only [encG,List.mem_map] at hp
    obtain ⟨e,_,rfl⟩:=hp
    refine ⟨trivial,trivial,?_⟩
    simp [Idt.enc,PV.cells,eqOk,ekOk]
theorem unitsT_fold (u:Un) (M:List (Idt × Str)):(unitsT u).foldl gthU M = (unitsL u.kids).foldl gthU (gthU M u):=by rw [Za5,List.foldl_cons]
theorem unitsL_fold {l:List Un} {k:Nat} (h:k < l.length) (M:List (Idt × Str)):(unitsL (l.take (k + 1))).foldl gthU M = (unitsT l[k]).foldl gthU ((unitsL (l.take k)).foldl gthU M):=by rw [unitsL_step h,List.foldl_append]
theorem sp_gather (HF : ∀ v : Un, SmalT v → Za8 Tryd.prog 14 [.agg v.enc] (.str (saysT true v))) {u : Un} (hu : SmalT u) : ∀ (m t : Nat) (M : List (Idt × Str)), m < t →
    Zbb Tryd.prog 36 [.agg u.enc,.mp m] ⟨[(m,.map (encG M))],t⟩ (fun p h'=>p = .tup [] ∧ ∃ t',t ≤ t' ∧ h' = ⟨[(m,.map (encG ((unitsT u).foldl gthU M)))],t'⟩):=by
  induction hu with
  | mk u h hk hs ih =>
    intro m t M hm
    have hF:=HF u (.mk u h hk hs)
    rw [unitsT_fold]
    have hmf:=mapFind_encG (idU u) M
    have hko:=keysOk_encG (idU u) M
    have hmp:=mapPut_encG (idU u) (saysT true u) M
    have hie:(idU u).enc = [pI u.act,pI u.item,pI u.n]:=rfl
    rw [hie] at hmf hko hmp
    rw [Un.Za1] at hF ⊢
    have hg:gthU M u = if (findG M (idU u)).isSome then M else M ++ [(idU u,saysT true u)]:=rfl
    generalize gthU M u = M1 at hg ⊢
    generalize idU u = ix at *
    generalize saysT true u = sx at *
    generalize u.head.map Wd.enc = EH at *
    generalize u.words.map Wd.enc = EW at *
    have qi0:(m = t) = False:=eq_false (by omega)
    have qi1:(m = (t + 1)) = False:=eq_false (by omega)
    have qi2:(t = m) = False:=eq_false (by omega)
    have qi3:(t = (t + 1)) = False:=eq_false (by omega)
    have qi4:((t + 1) = m) = False:=eq_false (by omega)
    have qi5:((t + 1) = t) = False:=eq_false (by omega)
    refine Zan (vc:=c_digest_gather) (ts:=[]) Go.Proofs.Tryd.func36 (by kernel_rfl) rfl rfl (Nat.le_of_ble_eq_true rfl) (by kernel_rfl) ?_
    unfold c_digest_gather
    try dsimp only [ZM,ZO,ZN,ZG]
    refine Zac (Zaa [1,2] ?_)
    simp only [Zab,Zad,Zaf,VA.ev,Env.get,Env.put,Env.keep,Za3,Zae,PV.cells,PV.fits,Heap.push,Nat.succ_ne_self,List.length,Nat.reduceEqDiff,Nat.reduceAdd,ite_true,ite_false,true_and,reduceCtorEq,BEq.rfl,Nat.zero_add,qi0,qi1,qi2,qi3,qi4,qi5]
    refine Zac (VW_mid (σ:=Unit) (fun _=>([(1,.mp m),(2,.loc t 0 0)],⟨[(t,.arr false 8 [[pI u.act,pI u.item,pI u.n,pI u.kind,.str u.label,.sl 4 EH,.sl 4 EW,.sl 8 (u.kids.map Un.enc)]]),(m,.map (encG M1))],t + 1⟩)) ?_ (fun _=>?_))
    · cases hf:findG M ix with
      | none =>
        rw [hf] at hg hmf
        simp only [Option.isSome_none,Bool.false_eq_true,if_false] at hg
        simp only [Option.map_none] at hmf
        have hmp':=hmp hf
        subst hg
        refine Zac (Zaa [1,2,5] ?_)
        simp only [Zab,Zad,Zaf,pok,pval,VA.ev,Env.get,Env.put,Env.keep,Zae,aggV,Zbi,Zbf,Zag,Zas,extV,extOk,PV.cells,PV.nth,PV.row,lookV,Zba,mapOk,Zcc,Zbw,Heap.get,HL.get,Nat.succ_ne_self,eqOk,ekOk,List.length,List.getD_cons_zero,List.getD_cons_succ,List.take,List.drop,List.take_succ_cons,Nat.reduceEqDiff,Nat.reduceAdd,Nat.reduceLT,Nat.reduceLeDiff,Bool.true_eq_false,ite_true,ite_false,true_and,and_true,Nat.zero_add,Nat.add_zero,List.length_cons,imp_self,hmf,qi0,qi1,qi2,qi3,qi4,qi5]
        refine ⟨by simpa [Zcc,Zbw,Zbw.isAggP',PV.cells,eqOk,ekOk] using hko,?_⟩
        refine Zac (Zaa [1,2,16] ?_)
        simp only [Zab,Zad,Zaf,pok,pval,VA.ev,Env.get,Env.put,Env.keep,Zae,unV,unOk,Nat.succ_ne_self,Nat.reduceEqDiff,ite_true,ite_false,true_and,Bool.not_false,qi0,qi1,qi2,qi3,qi4,qi5]
        refine Zaj rfl (fun _=>?_) (fun h=>by cases h)
        refine VW_draw2Q [1,2] ⟨[(t,.arr false 8 [[pI u.act,pI u.item,pI u.n,pI u.kind,.str u.label,.sl 4 EH,.sl 4 EW,.sl 8 (u.kids.map Un.enc)]])],t + 20⟩ (by simp [Heap.le,Heap.get,HL.le,HL.get]) ?_
        simp only [midQ,Zaf,DrawW_nil,DrawW_n,QW,dok,dval,VOp.pure,VOp.simple,VOp.det,pok,pval,VA.ev,Env.get,Env.put,Env.keep,gd,aggV,Zbi,Zbf,Zag,Zas,PV.cells,PV.nth,PV.row,Zba,Zcc,Zbw,mapHas,mapsetV,Heap.get,Heap.set,Heap.le,HL.get,HL.set,HL.del,HL.le,Nat.le_refl,Nat.succ_ne_self,Env.le,eqOk,ekOk,List.length,List.getD_cons_zero,List.take,List.drop,List.take_succ_cons,Nat.reduceEqDiff,Nat.reduceAdd,Nat.reduceLT,Nat.reduceLeDiff,Bool.true_eq_false,ite_true,ite_false,true_and,and_true,implies_true,forall_const,Option.some.injEq,Nat.zero_add,Nat.add_zero,List.length_cons,imp_self,qi0,qi1,qi2,qi3,qi4,qi5]
        refine ⟨_,.inl hF,?_⟩
        try simp only [hmp',qi0,qi1,qi2,qi3,qi4,qi5]
        exact ⟨by simpa [Zcc,Zbw,Zbw.isAggP',PV.cells,eqOk,ekOk] using hko,by omega,(),trivial⟩
      | some e =>
        rw [hf] at hg hmf
        simp only [Option.isSome_some,if_true] at hg
        simp only [Option.map_some] at hmf
        subst hg
        refine Zac (Zaa [1,2,5] ?_)
        simp only [Zab,Zad,Zaf,pok,pval,VA.ev,Env.get,Env.put,Env.keep,Zae,aggV,Zbi,Zbf,Zag,Zas,extV,extOk,PV.cells,PV.nth,PV.row,lookV,Zba,mapOk,Zcc,Zbw,Heap.get,HL.get,Nat.succ_ne_self,eqOk,ekOk,List.length,List.getD_cons_zero,List.getD_cons_succ,List.take,List.drop,List.take_succ_cons,Nat.reduceEqDiff,Nat.reduceAdd,Nat.reduceLT,Nat.reduceLeDiff,Bool.true_eq_false,ite_true,ite_false,true_and,and_true,Nat.zero_add,Nat.add_zero,List.length_cons,imp_self,hmf,qi0,qi1,qi2,qi3,qi4,qi5]
        refine ⟨by simpa [Zcc,Zbw,Zbw.isAggP',PV.cells,eqOk,ekOk] using hko,?_⟩
        refine Zac (Zaa [1,2,16] ?_)
        simp only [Zab,Zad,Zaf,pok,pval,VA.ev,Env.get,Env.put,Env.keep,Zae,unV,unOk,Nat.succ_ne_self,Nat.reduceEqDiff,ite_true,ite_false,true_and,Bool.not_true,qi0,qi1,qi2,qi3,qi4,qi5]
        refine Zaj rfl (fun h=>by cases h) (fun _=>?_)
        refine Zap ?_
        try simp only [midQ,Env.get,Heap.get,Heap.le,HL.get,HL.le,Nat.le_refl,Nat.succ_ne_self,Env.le,Nat.reduceEqDiff,ite_true,ite_false,true_and,and_true]
        refine ⟨(),?_⟩
        try simp only [ite_false,qi0,qi1,qi2,qi3,qi4,qi5]
        all_goals (repeat' (first | rfl | trivial | omega | (simp only []; omega) | refine And.intro ?_ ?_))
    refine Zac (Zaa [1,23,24,25] ?_)
    simp only [Zab,Zad,Zaf,pok,pval,VA.ev,Env.get,Env.put,Env.keep,Zae,aggV,lenV,Zbi,Zbf,Zag,Zas,Zcd,PV.nth,PV.row,Heap.get,HL.get,Nat.le_refl,Nat.succ_ne_self,List.length,List.getD_cons_zero,List.take,List.drop,List.take_succ_cons,List.drop_succ_cons,Nat.reduceEqDiff,Nat.reduceLT,Bool.false_eq_true,ite_true,ite_false,true_and,and_true,implies_true,Nat.zero_add,List.length_cons,List.length_map,qi0,qi1,qi2,qi3,qi4,qi5]
    refine Zam ?_
    have hkk:=u.kids.length
    generalize u.kids = L at hk hs ih ⊢
    refine Zb6 (σ:={ x:Nat × Nat // x.1 ≤ L.length ∧ m < x.2 ∧ t ≤ x.2 }) (fun x=>([(1,.mp m),(23,.sl 8 (L.map Un.enc)),(24,pI L.length),(25,pI x.1.1)],⟨[(m,.map (encG ((unitsL (L.take x.1.1)).foldl gthU M1)))],x.1.2⟩)) (fun x=>L.length - x.1.1) ⟨(0,t + 1),Nat.zero_le _,by show m < t + 1; omega,Nat.le_succ t⟩ ?_ ?_ ?_
    · try simp only [Env.get,Nat.succ_ne_self,Env.le,Nat.reduceEqDiff,ite_true,ite_false,true_and,and_true,qi0,qi1,qi2,qi3,qi4,qi5]
      all_goals (repeat' (first | rfl | trivial | omega | (simp only []; omega) | refine And.intro ?_ ?_))
    · simp only [Heap.get,Heap.le,HL.get,HL.le,Nat.le_refl,List.take,ite_true,ite_false,true_and,and_true,Option.some.injEq,qi0,qi1,qi2,qi3,qi4,qi5]
      rw [unitsL]; rfl
    rintro ⟨⟨k,t1⟩,hkl,hm1,ht1⟩
    simp only [] at hkl hm1 ht1 ⊢
    have qi0:(m = t1) = False:=eq_false (by omega)
    have qi1:(m = (t1 + 1)) = False:=eq_false (by omega)
    have qi2:(t1 = m) = False:=eq_false (by omega)
    have qi3:(t1 = (t1 + 1)) = False:=eq_false (by omega)
    have qi4:((t1 + 1) = m) = False:=eq_false (by omega)
    have qi5:((t1 + 1) = t1) = False:=eq_false (by omega)
    refine Zac (Zaa [1,23,24,25,26] ?_)
    simp only [Zab,Zad,Zaf,pok,pval,VA.ev,Env.get,Env.put,Env.keep,Zae,intV,binV,Zal,Heap.get,Heap.le,HL.le,Nat.succ_ne_self,Env.le,Nat.reduceEqDiff,ite_true,ite_false,true_and,and_true,qi0,qi1,qi2,qi3,qi4,qi5]
    refine Zac ?_
    refine Zaj rfl (fun h2=>?_) (fun h2=>?_)
    · simp only [decide_eq_true_eq] at h2
      have ka:k < L.length:=by omega
      have hst:=unitsL_fold ka M1
      have hrow:(L.map Un.enc).getD k [] = L[k].enc:=rowm ka
      have R:=ih _ (List.getElem_mem ka) m (t1 + 1) ((unitsL (L.take k)).foldl gthU M1) (by omega)
      generalize L[k] = v at hst hrow R
      rw [Un.Za1] at hrow R
      generalize (unitsL (L.take k)).foldl gthU M1 = G0 at hst R ⊢
      refine Zap ?_
      try simp only [Zae]
      refine Zac ?_
      refine Zam ?_
      refine Zac (Zaa [1,7,23,24,25] ?_)
      simp only [Zab,Zad,Zaf,pok,pval,VA.ev,Env.get,Env.put,Env.keep,Zae,aggV,isInt,numOf,lenV,Zag,Zas,iaddrV,Zb5,PV.cells,PV.fits,overlay,PV.nth,PV.row,Heap.get,Heap.set,HL.get,HL.set,HL.del,Heap.push,Nat.le_refl,Nat.succ_ne_self,Zbj,Zbh,List.set,List.length,List.getD_cons_zero,List.take,List.drop,List.take_succ_cons,List.drop_succ_cons,List.cons_append,List.nil_append,Nat.reduceEqDiff,Nat.reduceAdd,Nat.reduceLT,Bool.true_eq_false,ite_true,ite_false,true_and,and_true,BEq.rfl,Nat.zero_add,List.length_cons,imp_self,Int.toNat_natCast,List.length_map,hrow,qi0,qi1,qi2,qi3,qi4,qi5]
      refine ⟨by omega,?_⟩
      refine Zaa [1,23,24,25] ?_
      simp only [Zab,Zad,Zaf,pok,pval,VA.ev,Env.get,Env.put,Env.keep,Zae,Zaw,aggV,Zag,Zas,PV.nth,PV.row,Heap.get,HL.get,Nat.le_refl,Nat.succ_ne_self,List.map,List.length,List.getD_cons_zero,List.take,List.drop,List.take_succ_cons,Nat.reduceEqDiff,Nat.reduceAdd,Nat.reduceLT,Bool.true_eq_false,ite_true,ite_false,true_and,and_true,Nat.zero_add,List.length_cons,imp_self,qi0,qi1,qi2,qi3,qi4,qi5]
      refine Zbb.weakenL (h0:=⟨[(m,.map (encG G0))],t1 + 1⟩) (by simp [Heap.le,Heap.get,HL.le,HL.get,show ¬ t1 = m by omega]) (R.mono ?_)
      rintro p h' ⟨rfl,t2,ht2,rfl⟩
      skip
      refine Zaa [1,23,24,25] ?_
      simp only [Zab,Zad,Zaf,pok,pval,VA.ev,Env.get,Env.put,Env.keep,Zae,intV,binV,Zal,HL.get,Nat.succ_ne_self,Nat.reduceEqDiff,ite_true,ite_false,true_and,Option.some.injEq,ad1 (a:=k) (by omega),qi0,qi1,qi2,qi3,qi4,qi5]
      refine ⟨⟨(k + 1,t2),ka,by show m < t2; omega,by show t ≤ t2; omega⟩,?_⟩
      simp only [hst]
      simp only [Nat.le_refl,true_and,and_true,qi0,qi1,qi2,qi3,qi4,qi5]
      omega
    · simp only [decide_eq_false_iff_not] at h2
      obtain rfl:k = L.length:=by omega
      rw [List.take_length]
      refine Zbs ?_
      try simp only [Zae,Zaw,retQ,resV,Zbc,List.map,ite_true,true_and]
      exact ⟨t1,ht1,rfl⟩
end Go.Proofs.YtjmekckcffckoaaDoor.w
namespace Go.Proofs.YtjmekckcffckoaaDoor.w
open Go Go.VM
set_option maxRecDepth 20000
def valG (M:List (Idt × Str)) (x:Idt):Option Str:=(findG M x).map (·.2)
theorem valG_nil (x:Idt):valG [] x = none:=rfl
theorem Zbl (e:Idt × Str) (r:List (Idt × Str)) (x:Idt):valG (e :: r) x = if e.1 = x then some e.2 else valG r x:=by
  unfold valG findG
  rw [List.find?_cons]
  by_cases h:e.1 = x
  · simp [h]
  · have:(e.1 == x) = false:=by simpa using h
    rw [this,if_neg h]
theorem valG_none {M:List (Idt × Str)} {x:Idt}:valG M x = none ↔ x ∉ M.map (·.1):=by
  induction M with
  | nil=>simp [valG_nil]
  | cons e r ih =>
    rw [Zbl,List.map_cons,List.mem_cons]
    by_cases h:e.1 = x
    · simp [h]
    · rw [if_neg h,ih]
      constructor
      · intro h1 h2
        rcases h2 with h2 | h2
        · exact h h2.symm
        · exact h1 h2
      · intro h1 h2; exact h1 (.inr h2)
theorem valG_app (M:List (Idt × Str)) (y:Idt) (s:Str) (x:Idt):valG (M ++ [(y,s)]) x = match valG M x with | some v=>some v | none=>if y = x then some s else none:=by
  induction M with
  | nil=>rw [List.nil_append,Zbl,valG_nil]
  | cons e r ih =>
    rw [List.cons_append,Zbl,Zbl]
    by_cases h:e.1 = x
    · simp [h]
    · rw [if_neg h,if_neg h,ih]
def putG (x:Idt) (s:Str):List (Idt × Str) → List (Idt × Str)
  | []=>[(x,s)]
  | e :: r=>if e.1 = x then (x,s) :: r else e :: putG x s r
theorem putG_enc (x:Idt) (s:Str):∀ M:List (Idt × Str),mapPut (.agg x.enc) (.str s) (encG M) = encG (putG x s M)
  | []=>rfl
  | e :: r=>by
    have ih:=putG_enc x s r
    unfold encG at *
    simp only [List.map_cons,mapPut,keyEq_id,putG]
    by_cases h:e.1 = x
    · rw [if_pos h]; simp [h]
    · have:(x == e.1) = false:=by rw [beq_eq_false_iff_ne]; exact fun h2=>h h2.symm
      rw [this,if_neg h]
      simp only [Bool.false_eq_true,if_false,List.map_cons]
      rw [ih]
theorem putG_val (x:Idt) (s:Str) (y:Idt):∀ M:List (Idt × Str),valG (putG x s M) y = if x = y then some s else valG M y
  | []=>by simp only [putG]; rw [Zbl,valG_nil]
  | e :: r=>by
    have ih:=putG_val x s y r
    unfold putG
    by_cases h:e.1 = x
    · rw [if_pos h,Zbl,Zbl]
      by_cases h2:x = y
      · simp [h2]
      · rw [if_neg h2,if_neg h2,if_neg (by rw [h]; exact h2)]
    · rw [if_neg h,Zbl,ih,Zbl]
      by_cases h2:e.1 = y
      · rw [if_pos h2,if_pos h2,if_neg (fun h3=>h (h2.trans h3.symm))]
      · rw [if_neg h2,if_neg h2]
theorem putG_keys (x:Idt) (s:Str):∀ M:List (Idt × Str),(putG x s M).map (·.1) = if x ∈ M.map (·.1) then M.map (·.1) else M.map (·.1) ++ [x]
  | []=>by simp [putG]
  | e :: r=>by
    have ih:=putG_keys x s r
    unfold putG
    by_cases h:e.1 = x
    · rw [if_pos h,if_pos (by rw [List.map_cons,h]; exact List.mem_cons_self)]
      simp [h]
    · rw [if_neg h,List.map_cons,ih]
      by_cases h2:x ∈ r.map (·.1)
      · rw [if_pos h2,if_pos (by rw [List.map_cons]; exact List.mem_cons_of_mem _ h2)]; rfl
      · rw [if_neg h2,if_neg (by rw [List.map_cons,List.mem_cons]; rintro (h3 | h3); exact h h3.symm; exact h2 h3)]; rfl
theorem putG_nod {x:Idt} {s:Str} {M:List (Idt × Str)} (h:(M.map (·.1)).Nodup):((putG x s M).map (·.1)).Nodup:=by
  rw [putG_keys]
  split
  · exact h
  · rename_i hs
    rw [List.nodup_append]
    exact ⟨h,by simp,fun a ha b hb=>by rw [List.mem_singleton] at hb; rw [hb]; exact fun e=>hs (e ▸ ha)⟩
theorem erase_nod {M:List (Idt × Str)} (h:(M.map (·.1)).Nodup) (j:Nat):((M.eraseIdx j).map (·.1)).Nodup :=
  h.sublist ((List.eraseIdx_sublist M j).map _)
theorem erase_val:∀ {M:List (Idt × Str)},(M.map (·.1)).Nodup → ∀ {j:Nat} (hj:j < M.length) (y:Idt),valG (M.eraseIdx j) y = if M[j].1 = y then none else valG M y
  | e :: r,hn,0,hj,y=>by
    rw [List.map_cons,List.nodup_cons] at hn
    rw [List.eraseIdx_zero,List.tail_cons,List.getElem_cons_zero,Zbl]
    by_cases h:e.1 = y
    · rw [if_pos h]; exact valG_none.2 (h ▸ hn.1)
    · rw [if_neg h,if_neg h]
  | e :: r,hn,j + 1,hj,y=>by
    rw [List.map_cons,List.nodup_cons] at hn
    have hj':j < r.length:=by simpa using hj
    rw [List.eraseIdx_cons_succ,List.getElem_cons_succ,Zbl,Zbl,erase_val hn.2 hj' y]
    by_cases h:e.1 = y
    · rw [if_pos h,if_pos h,if_neg]
      intro h2
      exact hn.1 (by rw [h,← h2]; exact List.mem_map.2 ⟨_,List.getElem_mem hj',rfl⟩)
    · rw [if_neg h,if_neg h]
theorem gthU_nod {M:List (Idt × Str)} (h:(M.map (·.1)).Nodup) (u:Un):((gthU M u).map (·.1)).Nodup:=by
  unfold gthU
  split
  · exact h
  · rename_i hs
    have hn:valG M (idU u) = none:=by
      unfold valG
      cases hf:findG M (idU u) with
      | none=>rfl
      | some e=>rw [hf] at hs; exact absurd rfl hs
    rw [List.map_append,List.nodup_append]
    exact ⟨h,by simp,fun a ha b hb=>by
      simp only [List.map_cons,List.map_nil,List.mem_singleton] at hb
      rw [hb]
      exact fun e=>valG_none.1 hn (e ▸ ha)⟩
theorem gthF_nod:∀ (l:List Un) {M:List (Idt × Str)},(M.map (·.1)).Nodup → ((l.foldl gthU M).map (·.1)).Nodup
  | [],_,h=>h
  | u :: r,_,h=>by rw [List.foldl_cons]; exact gthF_nod r (gthU_nod h u)
theorem gthU_val (M:List (Idt × Str)) (u:Un) (x:Idt):valG (gthU M u) x = match valG M x with | some v=>some v | none=>if idU u = x then some (saysT true u) else none:=by
  unfold gthU
  split
  · rename_i hs
    cases hv:valG M x with
    | some v=>rfl
    | none =>
      by_cases h:idU u = x
      · subst h
        unfold valG at hv
        cases hf:findG M (idU u) with
        | none=>rw [hf] at hs; cases hs
        | some e=>rw [hf] at hv; cases hv
      · rw [if_neg h]
  · exact valG_app M _ _ x
def firstU (l:List Un) (x:Idt):Option Un:=l.find? fun u=>idU u == x
theorem gthF_val:∀ (l:List Un) (M:List (Idt × Str)) (x:Idt),valG (l.foldl gthU M) x = match valG M x with | some v=>some v | none=>(firstU l x).map (saysT true)
  | [],M,x=>by cases h:valG M x <;> simp [firstU,h]
  | u :: r,M,x=>by
    rw [List.foldl_cons,gthF_val r,gthU_val]
    unfold firstU
    rw [List.find?_cons]
    cases hv:valG M x with
    | some v=>rfl
    | none =>
      by_cases h:idU u = x
      · simp [h]
      · have:(idU u == x) = false:=by simpa using h
        simp [h,this]
def Zci (u:Un):List (Idt × Str):=(unitsT u).foldl gthU []
theorem gathT_val (u:Un) (x:Idt):valG (Zci u) x = (firstU (unitsT u) x).map (saysT true):=by unfold Zci; rw [gthF_val]; rfl
theorem gathT_nod (u:Un):((Zci u).map (·.1)).Nodup:=gthF_nod _ .nil
theorem gthU_vals {M:List (Idt × Str)} (h:∀ e ∈ M,e.2.length = 16) (u:Un):∀ e ∈ gthU M u,e.2.length = 16:=by
  unfold gthU
  split
  · exact h
  · intro e he
    rcases List.mem_append.1 he with he | he
    · exact h e he
    · rw [List.mem_singleton] at he; subst he; exact saysT_len _ _
theorem gthF_vals:∀ (l:List Un) {M:List (Idt × Str)},(∀ e ∈ M,e.2.length = 16) → ∀ e ∈ l.foldl gthU M,e.2.length = 16
  | [],_,h=>h
  | u :: r,_,h=>by rw [List.foldl_cons]; exact gthF_vals r (gthU_vals h u)
theorem gathT_vals (u:Un):∀ e ∈ Zci u,e.2.length = 16:=gthF_vals _ (fun e he=>by cases he)
theorem valG_at {M:List (Idt × Str)} (hn:(M.map (·.1)).Nodup) {j:Nat} (hj:j < M.length):valG M M[j].1 = some M[j].2:=by
  induction M generalizing j with
  | nil=>cases hj
  | cons e r ih =>
    rw [List.map_cons,List.nodup_cons] at hn
    cases j with
    | zero=>rw [List.getElem_cons_zero,Zbl,if_pos rfl]
    | succ j =>
      have hj':j < r.length:=by simpa using hj
      rw [List.getElem_cons_succ,Zbl,if_neg (fun h:e.1 = r[j].1=>hn.1 (by rw [h]; exact List.mem_map.2 ⟨_,List.getElem_mem hj',rfl⟩))]
      exact ih hn.2 hj'
structure Left (X Y : List (Idt × Str)) (seen : List Nat) (M : List (Idt × Str)) : Prop where
  nod : (M.map (·.1)).Nodup
  val : ∀ x, valG M x = if ∃ j ∈ seen, ∃ h : j < Y.length, Y[j].1 = x then (if valG X x = valG Y x then none else some []) else valG X x
theorem Left.nil {X Y:List (Idt × Str)} (h:(X.map (·.1)).Nodup):Left X Y [] X:=⟨h,fun x=>by rw [if_neg]; rintro ⟨j,hj,_⟩; cases hj⟩
theorem Left.fresh {X Y M:List (Idt × Str)} {seen:List Nat} (h:Left X Y seen M) (hY:(Y.map (·.1)).Nodup) {j:Nat} (hj:j < Y.length) (hs:j ∉ seen):valG M Y[j].1 = valG X Y[j].1:=by
  rw [h.val,if_neg]
  rintro ⟨i,hi,hi2,e⟩
  have:i = j:=(List.getElem_inj (h₀:=by simpa using hi2) (h₁:=by simpa using hj) hY).1 (by simpa using e)
  exact hs (this ▸ hi)
theorem Left.step {X Y M M' : List (Idt × Str)} {seen : List Nat} (h : Left X Y seen M) (hY : (Y.map (·.1)).Nodup) {j : Nat} (hj : j < Y.length) (hn : (M'.map (·.1)).Nodup)
    (hv:∀ x,valG M' x = if Y[j].1 = x then (if valG X x = valG Y x then none else some []) else valG M x):Left X Y (seen ++ [j]) M':=by
  refine ⟨hn,fun x=>?_⟩
  rw [hv,h.val]
  by_cases h1:Y[j].1 = x
  · rw [if_pos h1,if_pos (show ∃ i ∈ seen ++ [j],∃ h:i < Y.length,Y[i].1 = x from ⟨j,by simp,hj,h1⟩)]
  · rw [if_neg h1]
    have e:(∃ i ∈ seen ++ [j],∃ h:i < Y.length,Y[i].1 = x) ↔ ∃ i ∈ seen,∃ h:i < Y.length,Y[i].1 = x:=by
      constructor
      · rintro ⟨i,hi,h2,h3⟩
        rcases List.mem_append.1 hi with hi | hi
        · exact ⟨i,hi,h2,h3⟩
        · rw [List.mem_singleton] at hi
          subst hi
          exact absurd h3 h1
      · rintro ⟨i,hi,h2,h3⟩; exact ⟨i,List.mem_append_left _ hi,h2,h3⟩
    by_cases h2:∃ i ∈ seen,∃ h:i < Y.length,Y[i].1 = x
    · rw [if_pos h2,if_pos (e.2 h2)]
    · rw [if_neg h2,if_neg (fun h3=>h2 (e.1 h3))]
theorem Left.keys {X Y M:List (Idt × Str)} {seen:List Nat} (h:Left X Y seen M) (hall:∀ j,j < Y.length → j ∈ seen) (x:Idt):x ∈ M.map (·.1) ↔ valG X x ≠ valG Y x:=by
  have h1:x ∈ M.map (·.1) ↔ valG M x ≠ none:=by rw [Ne,valG_none,Decidable.not_not]
  rw [h1,h.val]
  by_cases h2:∃ j ∈ seen,∃ h:j < Y.length,Y[j].1 = x
  · rw [if_pos h2]
    by_cases h3:valG X x = valG Y x
    · simp [h3]
    · simp [h3]
  · rw [if_neg h2]
    have h4:valG Y x = none:=by
      rw [valG_none]
      intro hm
      obtain ⟨e,he,h5⟩:=List.mem_map.1 hm
      obtain ⟨j,hj,h6⟩:=List.mem_iff_getElem.1 he
      exact h2 ⟨j,hall j hj,hj,by rw [h6]; exact h5⟩
    rw [h4]
end Go.Proofs.YtjmekckcffckoaaDoor.w
namespace Go.Proofs.YtjmekckcffckoaaDoor.w
open Go Go.VM
set_option maxRecDepth 20000
set_option maxHeartbeats 0
set_option pp.deepTerms false
theorem View.agg {h:Heap} {l q:List PV} (hl:l.length = q.length) (hv:∀ j,j < q.length → View h (PV.nth l j) (PV.nth q j)):View h (.agg l) (.agg q):=by
  intro g w v r hr
  obtain ⟨vs,rfl,h1,h2,h3⟩:=hr.agg_inv
  exact .agg vs q (by omega) (fun j hj=>h2 j (by omega)) (fun j hj=>hv j hj g w _ r (h3 j (by omega)))
def Zcj:Un:=.mk 0 0 0 0 [] [] [] []
end Go.Proofs.YtjmekckcffckoaaDoor.w
namespace Go.Proofs.YtjmekckcffckoaaDoor.w
open Go Go.VM
set_option maxRecDepth 20000
set_option maxHeartbeats 0
set_option pp.deepTerms false
end Go.Proofs.YtjmekckcffckoaaDoor.w
