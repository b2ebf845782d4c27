import Derived.Test.YtcgdjembdjdlhaaGreatDoorV0
import Derived.Test.YtcgdjembdjdlhaaGreatDoorShAll
import Derived.Test.YtcgdjembdjdlhaaGreatDoorVmZ
import Derived.Lib.Join
import Derived.Test.YtcgdjembdjdlhaaGreatDoorC0
import Derived.Test.YtcgdjembdjdlhaaGreatDoorVmPk
set_option linter.all false
set_option maxRecDepth 20000
set_option maxHeartbeats 0
namespace Go.VM
open Go
theorem join_two (x y:Str) (r:List Str) (sep:Str):Lib.join (x::y::r) sep=x++sep++Lib.join (y::r) sep:=by
 simp [Lib.join,List.intercalate]
theorem join_snoc (l:List Str) (x:Str) (h:l≠[]) (sep:Str):Lib.join (l++[x]) sep=Lib.join l sep++sep++x:=by
 induction l with
 | nil=>exact absurd rfl h
 | cons a r ih =>
  cases r with
  | nil=>rw [List.singleton_append,join_two,Lib.join_one,Lib.join_one]
  | cons b r =>
   rw [List.cons_append,List.cons_append,join_two,join_two,← List.cons_append,ih (by simp)];simp
theorem join_len:∀ (l:List Str) (c:UInt8) (B:Nat),(∀ s∈l,s.length≤B)→(Lib.join l [c]).length≤l.length*(B+1)
 | [],_,_,_=>by simp [Lib.join,List.intercalate]
 | [x],c,B,h=>by rw [Lib.join_one];have:=h x List.mem_cons_self;simp;omega
 | x::y::r,c,B,h=>by
  rw [join_two];have h1:=h x List.mem_cons_self;have h2:=join_len (y::r) c B fun s hs=>h s (List.mem_cons_of_mem _ hs);simp only [List.length_append,List.length_cons,List.length_nil] at h2 ⊢;have e:(r.length+1+1)*(B+1)=(r.length+1)*(B+1)+(B+1):=by rw [Nat.add_mul (r.length+1) 1];omega
  omega
end Go.VM
namespace Go.Proofs.YtcgdjembdjdlhaaGreatDoor.w
open Go Go.VM
theorem fok_Join:fnOk Tryz.prog 59=true:=by kernel_rfl
theorem join_none (a:Option Addr) (cap:Nat) (sep:Str) (w:World):Calls Tryz.prog 59 #[.slice a 0 cap,.string ⟨sep.toArray⟩] w fun e w'=>∃ v,e=.returned v∧(∀ g,Rep g v (.str (Lib.join [] sep)))∧RowKit.Below w.heap.size w w':=by
 refine (Tryz.strings_Join_none a cap _ w).mono ?_;rintro e w' ⟨rfl,rfl⟩;exact ⟨_,rfl,fun g=>.str _ _ (by simp [Lib.join,List.intercalate]),RowKit.Below.refl _ _⟩
theorem join_some (l : List Str) (sep : Str) (hl : l.length ≤ 1000000) (hlen : (Lib.join l sep).length ≤ 140737488355328) (b o cap : Nat) (w : World) (hc : l.length ≤ cap) (hb : b < w.heap.size)
    (hcells:∀ (j:Nat) (x:ByteArray),(l.map fun s=>(⟨s.toArray⟩:ByteArray))[j]?=some x→w.cell? ⟨b,o+j,none⟩=some (.string x)) :
    Calls Tryz.prog 59 #[.slice (some ⟨b,o,none⟩) (l.map fun s=>(⟨s.toArray⟩:ByteArray)).length cap,.string ⟨sep.toArray⟩] w fun e w'=>∃ v,e=.returned v∧(∀ g,Rep g v (.str (Lib.join l sep)))∧RowKit.Below w.heap.size w w':=by
  have e2:((l.map fun s=>(⟨s.toArray⟩:ByteArray)).map (·.data.toList))=l:=by rw [List.map_map];simp [Function.comp_def]
  generalize (l.map fun s=>(⟨s.toArray⟩:ByteArray))=xs at hcells e2 ⊢;have hx:xs.length=l.length:=by rw [← e2];simp
  have hj:Lib.join (xs.map (·.data.toList)) (ByteArray.mk sep.toArray).data.toList=Lib.join l sep:=by rw [e2]
  refine (Tryz.strings_Join b o cap xs ⟨sep.toArray⟩ w hcells hb (by omega) (by omega) (by rw [hj];exact hlen)).mono ?_;rintro e w' ⟨rfl,hw⟩;exact ⟨_,rfl,fun g=>.str _ _ (by rw [hj]),hw⟩
theorem sp_strings_Join (l:List Str) (sep:Str) (hl:l.length≤1000000) (hlen:(Lib.join l sep).length≤140737488355328):Zak Tryz.prog 59 [It.strs l,.str sep] (.str (Lib.join l sep)):=by
 refine PCall_of fok_Join (by intro x hx;simp only [List.mem_cons,List.not_mem_nil,or_false] at hx;rcases hx with rfl|rfl;exact Zay _;exact cS _) ?_;intro g w vals r ha;obtain ⟨v,u,rfl,hv,hu⟩:=args_2 ha;obtain ⟨s,rfl,hs⟩:=hu.str_inv;rw [str_eq hs];rcases strs_cells r hv with ⟨a,cap,rfl,rfl⟩|⟨b,o,cap,rfl,hc,hb,hcells⟩
 ·exact join_none a cap sep w
 ·exact join_some l sep hl hlen b o cap w hc hb hcells
end Go.Proofs.YtcgdjembdjdlhaaGreatDoor.w
namespace Go.VM
open Go
def Zbp (n:Nat):Nat→List Nat→Bool
 | a,[]=>(a==n)
 | a,e::r=>!(decide (e≤a)||decide (n<e))&&Zbp n e r
theorem rises_N (n:Nat):∀ (E:List Nat) (a:Nat),risesF n (a:Int) (E.map fun x=>((x:Nat):Int))=Zbp n a E
 | [],a=>by
  rw [List.map_nil,risesF,Zbp];rw [Bool.eq_iff_iff];simp;omega
 | e::r,a=>by
  rw [List.map_cons,risesF,Zbp,rises_N n r e];have h1:decide ((e:Int)≤(a:Int))=decide (e≤a):=decide_eq_decide.2 (by omega);have h2:decide ((n:Int)<(e:Int))=decide (n<e):=decide_eq_decide.2 (by omega);rw [h1,h2]
def endsV (E:List Nat):PV:=.sl 1 (E.map fun x=>[pI (x:Nat)])
theorem endsV_int (E:List Nat):(E.map fun x=>((x:Nat):Int)).map (fun x=>[pI x])=E.map fun x=>[pI (x:Nat)]:=by rw [List.map_map];rfl
def Zcb (l:List Str):Nat→List Nat→List Str
 | _,[]=>[]
 | a,e::r=>Lib.join ((l.drop a).take (e-a)) [32]::Zcb l e r
def linesT (l:List Str) (E:List Nat):List Str:=if Zbp l.length 0 E=true then Zcb l 0 E else []
def wlen (l:List Str) (a b:Nat):Nat:=(((l.drop a).take (b-a)).map List.length).sum
def llen (l:List Str) (a b:Nat):Int:=(wlen l a b:Int)+((b:Int)-a-1)
theorem wlen_step {l:List Str} {a k:Nat} (h:a≤k) (hk:k<l.length):wlen l a (k+1)=wlen l a k+l[k].length:=by
 unfold wlen;have e:k+1-a=(k-a)+1:=by omega
 have hg:(l.drop a)[k-a]?=some l[k]:=by rw [List.getElem?_drop,show a+(k-a)=k by omega];exact List.getElem?_eq_getElem hk
 rw [e,List.take_add_one,hg,List.map_append,List.sum_append];simp
theorem wlen_le {l:List Str} (a b:Nat) (h:∀ s∈l,s.length≤1000):wlen l a b≤(b-a)*1000:=by
 unfold wlen;have:∀ m:List Str,(∀ s∈m,s.length≤1000)→(m.map List.length).sum≤m.length*1000:=by
  intro m
  induction m with
  | nil=>intro _;simp
  | cons x r ih =>
   intro hm;have h1:=hm x List.mem_cons_self;have h2:=ih fun s hs=>hm s (List.mem_cons_of_mem _ hs);simp only [List.map_cons,List.sum_cons,List.length_cons,Nat.add_mul];omega
 have h1:=this ((l.drop a).take (b-a)) fun s hs=>h s (List.mem_of_mem_drop (List.mem_of_mem_take hs));have h2:((l.drop a).take (b-a)).length≤b-a:=by rw [List.length_take];omega
 exact Nat.le_trans h1 (Nat.mul_le_mul h2 (Nat.le_refl _))
end Go.VM
namespace Go.Proofs.YtcgdjembdjdlhaaGreatDoor.w
open Go Go.VM
def c_linebreak_Lines:VC:=(ZR [ZO 4 (.mv (.c .nilsl))] (.seq (ZR [ZM 9 0,ZM 10 1,ZO 11 (.call 137 [.t 9,.t 10]),ZO 12 (.un .not (.t 11))] (.cond (.t 12) (ZR [ZO 4 (.mv (.c .nilsl))] .ret) .skip)) (ZR [ZO 5 (.mv (.c .nilsl))] (ZR [ZO 6 (.mv (.c (.int .i64 0)))] (.seq (ZR [ZM 13 0,ZO 14 (.len false (.t 13)),ZO 15 (.mv (.c (.int .i64 0)))] (.block 0 (.loop (ZR [ZO 16 (.bin .lss (.t 15) (.t 14))] (.seq (.cond (.t 16) .skip (.exit 0)) (.seq (.block 1 (ZR [ZO 17 (.iaddr 1 (.t 13) (.t 15)),ZO 18 (.load false 1 (.t 17)),ZM 8 18] (ZR [ZM 19 5,ZM 20 1,ZM 21 6,ZM 22 8,ZO 23 (.slice false 1 (.t 20) (some (.t 21)) (some (.t 22))),ZO 24 (.call 59 [.t 23,(.c (.str [32]))]),ZO 25 (.bslice 1 1 [(.str [])] [(0,(.t 24))]),ZO 26 (.app 1 16 [(.str [])] false (.t 19) (.t 25)),ZM 5 26] (.region [ZM 27 8,ZM 6 27] false)))) (.region [ZO 28 (.bin .add (.t 15) (.c (.int .i64 1))),ZM 15 28] false))))))) (ZR [ZM 29 5,ZM 4 29] .ret))))))
def c_pandectref54_length:VC:=(ZR [ZO 6 (.mv (.c (.int .i64 0)))] (ZR [ZM 9 2,ZM 10 1,ZO 11 (.bin .sub (.t 9) (.t 10)),ZO 12 (.bin .sub (.t 11) (.c (.int .i64 1))),ZM 7 12] (.seq (ZR [ZM 13 1,ZM 8 13] (.block 0 (.loop (.seq (ZR [ZM 14 8,ZM 15 2,ZO 16 (.bin .lss (.t 14) (.t 15))] (.cond (.t 16) .skip (.exit 0))) (.seq (.block 1 (.region [ZM 19 7,ZM 20 0,ZM 21 8,ZO 22 (.iaddr 1 (.t 20) (.t 21)),ZO 23 (.load false 1 (.t 22)),ZO 24 (.len true (.t 23)),ZO 25 (.bin .add (.t 19) (.t 24)),ZM 7 25] false)) (.region [ZM 17 8,ZO 18 (.bin .add (.t 17) (.c (.int .i64 1))),ZM 8 18] false)))))) (ZR [ZM 26 7,ZM 6 26] .ret))))
theorem sp_lb_Lines (l:List Str) (E:List Nat) (hl:l.length≤2000) (ht:∀ s∈l,s.length≤1000) (he:E.length≤10000):Zak Tryz.prog 76 [endsV E,It.strs l] (It.strs (linesT l E)):=by
 have A:=sp_lb_are (E.map fun x=>((x:Nat):Int)) l (by omega) (by rw [List.length_map];omega);have e0:((0:Nat):Int)=0:=rfl;rw [endsV_int,← e0,rises_N] at A;unfold endsV linesT;refine Zad ?_ (Zay _) (by intro y hy;simp only [List.mem_cons,List.not_mem_nil,or_false] at hy;rcases hy with rfl|rfl;exact Zaj (fun a _ x hx=>by simp only [List.mem_cons,List.not_mem_nil,or_false] at hx;subst hx;exact cI _);exact Zay _);refine Gn (vc:=c_linebreak_Lines) [.t 4] Tryz.func76 ?_;unfold c_linebreak_Lines;try dsimp only [ZM,ZO,ZN,ZG,ZR,ZU]
 unfold It.strs at A ⊢;refine Rp0 [0,1] ?_;refine Zaa ?_;refine Rp0 [0,1,12] ?_;refine Ap0 A ?_;cases hr:Zbp l.length 0 E with
 | false =>
  refine Ct ?_;refine Rp0 [4] ?_;refine Tp0 ?_;exact View.nil _ _
 | true =>
 rw [if_pos rfl];refine Fp0 ?_;refine Rp0 [0,1,5] ?_;refine VW_own0 5 1 rfl ?_;refine Sp0 ?_;refine Rp0 [0,1,5,6] ?_;refine Zaa ?_;refine Rp1 [1,5,6,13,14,15] @xlm ?_;refine Zab ?_;refine Zah (σ:={ x:Nat×Nat×List Str×Nat×Nat//x.1≤E.length∧x.2.1≤l.length∧x.2.2.1.length=x.1∧x.2.2.2.1<x.2.2.2.2∧Zbp l.length x.2.1 (E.drop x.1)=true∧Zcb l 0 E=x.2.2.1++Zcb l x.2.1 (E.drop x.1) }) (fun x=>([(1,.sl 1 (l.map fun s=>[PV.str s])),(5,.own x.1.2.2.2.1 0 x.1.2.2.1.length),(6,pI x.1.2.1),(13,.sl 1 (E.map fun x=>[pI (x:Nat)])),(14,pI E.length),(15,pI x.1.1)],⟨[(x.1.2.2.2.1,.arr false 1 (x.1.2.2.1.map fun s=>[PV.str s]))],x.1.2.2.2.2⟩)) (fun x=>E.length-x.1.1) ⟨(0,0,[],0,1),Nat.zero_le _,Nat.zero_le _,rfl,Nat.one_pos,hr,rfl⟩ ?_ ?_ ?_
 ·refine Sp0 ?_;exact ⟨rfl,rfl⟩
 ·exact Sr0
 rintro ⟨⟨k,a,acc,id,t⟩,hk,ha,hac,hid,hri,hli⟩;simp only [] at hk ha hac hid hri hli ⊢;have qq:=N4 id t (t+1) (t+1+1);refine Rp1 [1,5,6,13,14,15,16] qq ?_;refine Zaa ?_;refine Zac rfl (fun h4=>?_) (fun h4=>?_)
 ·have ka:k<E.length:=by simp only [decide_eq_true_eq] at h4;omega
  have hd:E.drop k=E[k]::E.drop (k+1):=List.drop_eq_getElem_cons ka;rw [hd] at hri hli;rw [Zbp] at hri;rw [Zcb] at hli;have hrow:(E.map fun x=>[pI (x:Nat)]).getD k []=[pI (E[k]:Nat)]:=rowm (enc:=fun x:Nat=>[pI (x:Nat)]) ka;generalize E[k]=e at hri hli hrow;simp only [Bool.and_eq_true,Bool.not_eq_true',Bool.or_eq_false_iff,decide_eq_false_iff_not] at hri;obtain ⟨⟨h5,h6⟩,hri⟩:=hri;have hsub:((l.drop a).take (e-a)).length≤2000:=by rw [List.length_take,List.length_drop];omega
  have hjl:=join_len ((l.drop a).take (e-a)) 32 1000 (fun s hs=>ht s (List.mem_of_mem_drop (List.mem_of_mem_take hs)));have hjl2:((l.drop a).take (e-a)).length*(1000+1)≤2000*1001:=Nat.mul_le_mul hsub (Nat.le_refl _);have J:=sp_strings_Join ((l.drop a).take (e-a)) [32] (by omega) (by omega);unfold It.strs at J;have hmt:List.take (e-a) (List.drop a (l.map fun s=>[PV.str s]))=((l.drop a).take (e-a)).map fun s=>[PV.str s]:=by rw [List.map_take,List.map_drop]
  rw [← hmt] at J;generalize Lib.join ((l.drop a).take (e-a)) [32]=jn at J hjl hli;have hale:(acc.map fun s=>[PV.str s]).length=acc.length:=List.length_map _;have hatk:List.take acc.length (acc.map fun s=>[PV.str s])=acc.map fun s=>[PV.str s]:=List.take_of_length_le (by omega);refine Kp1 qq ?_;refine Zaa ?_;refine Zab ?_;refine Rp1 [1,5,6,8,13,14,15] (x3 @xlm hrow qq) ?_;refine Ok ?_;refine Rp1 [1,5,8,13,14,15] (x2 @xlm qq) ?_;refine ⟨⟨by omega,by omega,by omega⟩,?_⟩;refine Ap1 J (x3 hale hatk qq) ?_;refine ⟨by omega,by omega,?_⟩;refine rp1 [1,5,6,13,14,15] qq ?_;refine rp1 [1,5,6,13,14,15] (x2 (ad1 (a:=k) (by omega)) qq) ?_;have haccE:(acc++[jn]).map (fun s=>[PV.str s])=acc.map (fun s=>[PV.str s])++[[PV.str jn]]:=by rw [List.map_append];rfl
  have haccL:(acc++[jn]).length=acc.length+1:=by simp
  refine ⟨⟨(k+1,e,acc++[jn],t+1,t+2),ka,by show e≤l.length;omega,by show (acc++[jn]).length=k+1;omega,Nat.lt_succ_self _,hri,by show Zcb l 0 E=acc++[jn]++Zcb l e (E.drop (k+1));rw [hli];simp⟩,?_⟩;refine ⟨⟨?_,rfl,rfl⟩,⟨Nat.le_refl _,?_⟩,by show E.length-(k+1)<E.length-k;omega⟩
  ·show PV.own (t+1) 0 (acc.length+1)=PV.own (t+1) 0 (acc++[jn]).length;rw [haccL]
  ·show (if t+1=t+1 then some (AB.arr false 1 (acc.map (fun s=>[PV.str s])++[[PV.str jn]])) else _)=some (AB.arr false 1 ((acc++[jn]).map fun s=>[PV.str s]));rw [if_pos rfl,haccE]
 ·have ka:k=E.length:=by simp only [decide_eq_false_iff_not] at h4;omega
  subst ka;rw [List.drop_length,Zcb,List.append_nil] at hli;rw [hli];refine Ep1 qq ?_;refine Rp1 [4] qq ?_;refine Tp0 ?_;exact View.own_all (fz:=false) (by simp [Heap.get,HL.get]) (by rw [List.length_map])
theorem sp_ref54_Rises (E:List Nat) (n:Nat) (he:E.length≤1000000):Zak Tryz.prog 132 [endsV E,pI n] (.bool (Zbp n 0 E)):=by
 unfold endsV;refine Zad ?_ (cB _) (by intro y hy;simp only [List.mem_cons,List.not_mem_nil,or_false] at hy;rcases hy with rfl|rfl;exact Zaj (fun a _ x hx=>by simp only [List.mem_cons,List.not_mem_nil,or_false] at hx;subst hx;exact cI _);exact cI _);refine Gn (vc:=c_pandectref54_Rises) [.t 4] Tryz.func132 ?_;unfold c_pandectref54_Rises;try dsimp only [ZM,ZO,ZN,ZG,ZR,ZU]
 refine Rp0 [0,1] ?_;refine Rp0 [0,1,5] ?_;refine Zaa ?_;refine Rp0 [0,1,5,6] ?_;refine Zab ?_;refine Zah (σ:={ x:Nat×Nat//x.1≤E.length∧Zbp n 0 E=Zbp n x.2 (E.drop x.1) }) (fun x=>([(0,.sl 1 (E.map fun x=>[pI (x:Nat)])),(1,pI n),(5,pI x.1.2),(6,pI x.1.1)],⟨[],0⟩)) (fun x=>E.length-x.1.1) ⟨(0,0),Nat.zero_le _,rfl⟩ ?_ ?_ ?_
 ·refine Sp0 ?_;exact ⟨rfl,rfl⟩
 ·exact Sc0
 rintro ⟨⟨k,a⟩,hk,hpre⟩;simp only [] at hk hpre ⊢;refine Zaa ?_;refine Rp1 [0,1,5,6,10] @xlm ?_;refine Zac rfl (fun h4=>?_) (fun h4=>?_)
 ·have ka:k<E.length:=by simp only [decide_eq_true_eq] at h4;omega
  have hd:E.drop k=E[k]::E.drop (k+1):=List.drop_eq_getElem_cons ka;rw [hd,Zbp] at hpre;have hrow:(E.map fun x=>[pI (x:Nat)]).getD k []=[pI (E[k]:Nat)]:=rowm (enc:=fun x:Nat=>[pI (x:Nat)]) ka;generalize E[k]=e at hpre hrow;have h1:decide ((e:Int)≤(a:Int))=decide (e≤a):=decide_eq_decide.2 (by omega);have h2:decide ((n:Int)<(e:Int))=decide (n<e):=decide_eq_decide.2 (by omega);refine Kp0 ?_;refine Zaa ?_;refine Zab ?_;refine Zaa ?_;cases d1:decide (e≤a) with
  | true =>
   rw [d1] at hpre h1;refine Rp1 [0,1,5,6,26] (x3 @xlm hrow h1) ?_;refine ⟨⟨by omega,by omega⟩,?_⟩;refine Ct ?_;refine Rp0 [4] ?_;refine Tp0 ?_;rw [hpre];exact View.refl _ _
  | false =>
  rw [d1] at hpre h1;refine Rp1 [0,1,5,6,26] (x4 @xlm hrow h1 h2) ?_;refine ⟨⟨by omega,by omega⟩,⟨by omega,by omega⟩,?_⟩;cases d2:decide (n<e) with
  | true =>
   rw [d2] at hpre;refine Ct ?_;refine Rp0 [4] ?_;refine Tp0 ?_;rw [hpre];exact View.refl _ _
  | false =>
  rw [d2,Bool.false_or,Bool.not_false,Bool.true_and] at hpre;refine Fp0 ?_;refine rp1 [0,1,5,6] (x2 @xlm hrow) ?_;refine Ok ?_;refine rp1 [0,1,5,6] (ad1 (a:=k) (by omega)) ?_;refine ⟨⟨(k+1,e),ka,hpre⟩,?_⟩;exact Fn0
 ·have ka:k=E.length:=by simp only [decide_eq_false_iff_not] at h4;omega
  subst ka;rw [List.drop_length,Zbp] at hpre;have hb:((a:Int)==(n:Int))=(a==n):=by rw [Bool.eq_iff_iff];simp;omega
  refine Ep0 ?_;refine Rp1 [4] hb ?_;refine Tp0 ?_;rw [hpre];exact View.refl _ _
theorem sp_ref54_length (l:List Str) (a b:Nat) (hl:l.length≤10000) (ht:∀ s∈l,s.length≤1000) (hb:b≤l.length) (hab:a≤b):Zak Tryz.prog 131 [It.strs l,pI a,pI b] (pI (llen l a b)):=by
 unfold It.strs llen;refine Gp (vc:=c_pandectref54_length) [.t 6] (cI _) Tryz.func131 ?_;unfold c_pandectref54_length;try dsimp only [ZM,ZO,ZN,ZG,ZR,ZU]
 refine Rp0 [0,1,2] ?_;refine Rp1 [0,1,2,7] (x2 (w64 (n:=(b:Int)-a) (by omega) (by omega)) (w64 (n:=(b:Int)-a-1) (by omega) (by omega))) ?_;refine Zaa ?_;refine Rp0 [0,2,7,8] ?_;refine Zab ?_;refine Zah (σ:={ x:Nat//a≤x∧x≤b }) (fun x=>([(0,.sl 1 (l.map fun s=>[PV.str s])),(2,pI b),(7,pI ((wlen l a x.1:Int)+((b:Int)-a-1))),(8,pI x.1)],⟨[],0⟩)) (fun x=>b-x.1) ⟨a,Nat.le_refl _,hab⟩ ?_ ?_ ?_
 ·have e0:wlen l a a=0:=by unfold wlen;simp
  refine Sp0 ?_;rw [e0];simp
 ·exact Sc0
 rintro ⟨k,hak,hkb⟩;simp only [];refine Zaa ?_;refine Rp0 [0,2,7,8,16] ?_;refine Zac rfl (fun h4=>?_) (fun h4=>?_)
 ·have kb:k<b:=by simp only [decide_eq_true_eq] at h4;omega
  have ka:k<l.length:=by omega
  have hst:=wlen_step hak ka;have hb1:=wlen_le (l:=l) a k ht;have hb2:=ht _ (List.getElem_mem ka);have hrow:(l.map fun s=>[PV.str s]).getD k []=[PV.str l[k]]:=rowm ka;generalize l[k]=s at hst hb2 hrow;generalize wlen l a k=W at hst hb1 ⊢;have hb3:W≤10000*1000:=Nat.le_trans hb1 (Nat.mul_le_mul (by omega) (Nat.le_refl _));refine Kp0 ?_;refine Zaa ?_;refine Zab ?_;refine rp1 [0,2,7,8] (x3 @xlm hrow (w64 (n:=((W:Int)+((b:Int)-a-1))+(s.length:Int)) (by omega) (by omega))) ?_;refine Ok ?_;refine rp1 [0,2,7,8] (ad1 (a:=k) (by omega)) ?_;refine ⟨⟨k+1,by omega,by omega⟩,?_⟩;rw [hst];have e:(W:Int)+((b:Int)-a-1)+(s.length:Int)=((W+s.length:Nat):Int)+((b:Int)-a-1):=by omega
  rw [e];exact ⟨⟨rfl,rfl⟩,by show b-(k+1)<b-k;omega⟩
 ·have kb:k=b:=by simp only [decide_eq_false_iff_not] at h4;omega
  subst kb;refine Ep0 ?_;exact Rv0 [6]
end Go.Proofs.YtcgdjembdjdlhaaGreatDoor.w
namespace Go.VM
open Go
def lineT (l:List Str) (a b:Nat):Str:=Lib.join ((l.drop a).take (b-a)) [32]
theorem lineT_nil (l:List Str) (a:Nat):lineT l a a=[]:=by unfold lineT;rw [Nat.sub_self,List.take_zero];rfl
theorem lineT_step {l:List Str} {a k:Nat} (h:a≤k) (hk:k<l.length):lineT l a (k+1)=(if a<k then lineT l a k++[32] else lineT l a k)++l[k]:=by
 unfold lineT;have e:k+1-a=(k-a)+1:=by omega
 have hg:(l.drop a)[k-a]?=some l[k]:=by rw [List.getElem?_drop,show a+(k-a)=k by omega];exact List.getElem?_eq_getElem hk
 rw [e,List.take_add_one,hg,Option.toList_some];by_cases hak:a<k
 ·rw [if_pos hak, join_snoc _ _ (by
   intro h0;have:=congrArg List.length h0;rw [List.length_take,List.length_drop] at this;simp at this;omega)]
 ·have:k=a:=by omega
  subst this;rw [if_neg hak,Nat.sub_self,List.take_zero,List.nil_append,Lib.join_one];rfl
theorem lineT_len {l:List Str} (a b:Nat) (hl:l.length≤2000) (ht:∀ s∈l,s.length≤1000):(lineT l a b).length≤2002000:=by
 have h1:=join_len ((l.drop a).take (b-a)) 32 1000 (fun s hs=>ht s (List.mem_of_mem_drop (List.mem_of_mem_take hs)));have h2:((l.drop a).take (b-a)).length≤2000:=by rw [List.length_take,List.length_drop];omega
 have h3:((l.drop a).take (b-a)).length*(1000+1)≤2000*1001:=Nat.mul_le_mul h2 (Nat.le_refl _);unfold lineT;omega
end Go.VM
namespace Go.Proofs.YtcgdjembdjdlhaaGreatDoor.w
open Go Go.VM
def c_pandectref54_Text:VC:=(ZR [ZO 4 (.mv (.c .nilsl))] (ZR [ZO 10 (.fx (.mk0 1) []),ZM 5 10] (.seq (ZR [ZM 11 0,ZM 12 1,ZO 13 (.len false (.t 12)),ZO 14 (.call 132 [.t 11,.t 13]),ZO 15 (.un .not (.t 14))] (.cond (.t 15) (ZR [ZM 16 5,ZM 4 16] .ret) .skip)) (ZR [ZO 6 (.mv (.c (.int .i64 0)))] (.seq (ZR [ZO 7 (.mv (.c (.int .i64 0)))] (.block 0 (.loop (.seq (ZR [ZM 17 7,ZM 18 0,ZO 19 (.len false (.t 18)),ZO 20 (.bin .lss (.t 17) (.t 19))] (.cond (.t 20) .skip (.exit 0))) (.seq (.block 1 (ZR [ZO 8 (.mv (.c (.str [])))] (.seq (ZR [ZM 23 6,ZM 9 23] (.block 2 (.loop (.seq (ZR [ZM 24 9,ZM 25 0,ZM 26 7,ZO 27 (.iaddr 1 (.t 25) (.t 26)),ZO 28 (.load false 1 (.t 27)),ZO 29 (.bin .lss (.t 24) (.t 28))] (.cond (.t 29) .skip (.exit 2))) (.seq (.block 3 (.seq (ZR [ZM 32 9,ZM 33 6,ZO 34 (.bin .gtr (.t 32) (.t 33))] (.cond (.t 34) (.region [ZM 35 8,ZO 36 (.bin .add (.t 35) (.c (.str [32]))),ZM 8 36] false) .skip)) (.region [ZM 37 8,ZM 38 1,ZM 39 9,ZO 40 (.iaddr 1 (.t 38) (.t 39)),ZO 41 (.load false 1 (.t 40)),ZO 42 (.bin .add (.t 37) (.t 41)),ZM 8 42] false))) (.region [ZM 30 9,ZO 31 (.bin .add (.t 30) (.c (.int .i64 1))),ZM 9 31] false)))))) (ZR [ZM 43 5,ZM 44 8,ZO 45 (.bslice 1 1 [(.str [])] [(0,(.t 44))]),ZO 46 (.app 1 16 [(.str [])] false (.t 43) (.t 45)),ZM 5 46] (.region [ZM 47 0,ZM 48 7,ZO 49 (.iaddr 1 (.t 47) (.t 48)),ZO 50 (.load false 1 (.t 49)),ZM 6 50] false))))) (.region [ZM 21 7,ZO 22 (.bin .add (.t 21) (.c (.int .i64 1))),ZM 7 22] false)))))) (ZR [ZM 51 5,ZM 4 51] .ret))))))
theorem sp_ref54_Text (l:List Str) (E:List Nat) (hl:l.length≤2000) (ht:∀ s∈l,s.length≤1000) (he:E.length≤10000):Zak Tryz.prog 73 [endsV E,It.strs l] (It.strs (linesT l E)):=by
 have A:=sp_ref54_Rises E l.length (by omega);unfold endsV linesT at *;refine Zad ?_ (Zay _) (by intro y hy;simp only [List.mem_cons,List.not_mem_nil,or_false] at hy;rcases hy with rfl|rfl;exact Zaj (fun a _ x hx=>by simp only [List.mem_cons,List.not_mem_nil,or_false] at hx;subst hx;exact cI _);exact Zay _);refine Gn (vc:=c_pandectref54_Text) [.t 4] Tryz.func73 ?_;unfold c_pandectref54_Text;try dsimp only [ZM,ZO,ZN,ZG,ZR,ZU]
 unfold It.strs;refine Rp0 [0,1] ?_;refine Rp0 [0,1,5] ?_;refine Zaa ?_;refine Rp1 [0,1,5,15] @xlm ?_;refine Ap0 A ?_;cases hr:Zbp l.length 0 E with
 | false =>
  refine Ct ?_;refine Rp0 [4] ?_;refine Tp0 ?_;exact View.own_all (fz:=false) (by simp [Heap.get,HL.get]) (by simp)
 | true =>
 rw [if_pos rfl];refine Fp0 ?_;refine Rp0 [0,1,5,6] ?_;refine Zaa ?_;refine Rp0 [0,1,5,6,7] ?_;refine Zab ?_;refine Zah (σ:={ x:Nat×Nat×List Str×Nat×Nat//x.1≤E.length∧x.2.1≤l.length∧x.2.2.1.length=x.1∧x.2.2.2.1<x.2.2.2.2∧Zbp l.length x.2.1 (E.drop x.1)=true∧Zcb l 0 E=x.2.2.1++Zcb l x.2.1 (E.drop x.1) }) (fun x=>([(0,.sl 1 (E.map fun x=>[pI (x:Nat)])),(1,.sl 1 (l.map fun s=>[PV.str s])),(5,.own x.1.2.2.2.1 0 x.1.2.2.1.length),(6,pI x.1.2.1),(7,pI x.1.1)],⟨[(x.1.2.2.2.1,.arr false 1 (x.1.2.2.1.map fun s=>[PV.str s]))],x.1.2.2.2.2⟩)) (fun x=>E.length-x.1.1) ⟨(0,0,[],0,1),Nat.zero_le _,Nat.zero_le _,rfl,Nat.one_pos,hr,rfl⟩ ?_ ?_ ?_
 ·refine Sp0 ?_;exact ⟨rfl,rfl⟩
 ·exact Sr0
 rintro ⟨⟨k,a,acc,id,t⟩,hk,ha,hac,hid,hri,hli⟩;simp only [] at hk ha hac hid hri hli ⊢;refine Zaa ?_;refine Rp1 [0,1,5,6,7,20] @xlm ?_;refine Zac rfl (fun h4=>?_) (fun h4=>?_)
 ·have ka:k<E.length:=by simp only [decide_eq_true_eq] at h4;omega
  have hd:E.drop k=E[k]::E.drop (k+1):=List.drop_eq_getElem_cons ka;rw [hd] at hri hli;rw [Zbp] at hri;rw [Zcb] at hli;have hrow:(E.map fun x=>[pI (x:Nat)]).getD k []=[pI (E[k]:Nat)]:=rowm (enc:=fun x:Nat=>[pI (x:Nat)]) ka;generalize E[k]=e at hri hli hrow;simp only [Bool.and_eq_true,Bool.not_eq_true',Bool.or_eq_false_iff,decide_eq_false_iff_not] at hri;obtain ⟨⟨h5,h6⟩,hri⟩:=hri;refine Kp0 ?_;refine Zaa ?_;refine Zab ?_;refine Rp0 [0,1,5,6,7,8] ?_;refine Zaa (Zbl (σ:=Nat) (fun t2=>([(0,.sl 1 (E.map fun x=>[pI (x:Nat)])),(1,.sl 1 (l.map fun s=>[PV.str s])),(5,.own id 0 acc.length),(7,pI k),(8,.str (lineT l a e))],⟨[(id,.arr false 1 (acc.map fun s=>[PV.str s]))],t⟩)) ?_ (fun t2=>?_))
  ·refine Rp0 [0,1,5,6,7,8,9] ?_;refine Zab ?_;refine Zah (σ:={ j:Nat//a≤j∧j≤e }) (fun j=>([(0,.sl 1 (E.map fun x=>[pI (x:Nat)])),(1,.sl 1 (l.map fun s=>[PV.str s])),(5,.own id 0 acc.length),(6,pI a),(7,pI k),(8,.str (lineT l a j.1)),(9,pI j.1)],⟨[(id,.arr false 1 (acc.map fun s=>[PV.str s]))],t⟩)) (fun j=>e-j.1) ⟨a,Nat.le_refl _,by omega⟩ ?_ ?_ ?_
   ·refine Sp0 ?_;rw [lineT_nil]
   ·exact Sr0
   rintro ⟨j,haj,hje⟩;simp only [];refine Zaa ?_;refine Rp1 [0,1,5,6,7,8,9,29] (x2 @xlm hrow) ?_;refine Ok ?_;refine Zac rfl (fun h7=>?_) (fun h7=>?_)
   ·have je:j<e:=by simp only [decide_eq_true_eq] at h7;omega
    have ja:j<l.length:=by omega
    have hst:=lineT_step haj ja;have hw1:=ht _ (List.getElem_mem ja);have hll:=lineT_len a j hl ht;have hrj:(l.map fun s=>[PV.str s]).getD j []=[PV.str l[j]]:=rowm ja;generalize l[j]=w at hst hw1 hrj;generalize lineT l a j=q at hst hll ⊢;refine Kp0 ?_;refine Zaa ?_;refine Zab ?_;refine Zaa (Zbl (σ:=Unit) (fun _=>([(0,.sl 1 (E.map fun x=>[pI (x:Nat)])),(1,.sl 1 (l.map fun s=>[PV.str s])),(5,.own id 0 acc.length),(6,pI a),(7,pI k),(8,.str (if a<j then q++[32] else q)),(9,pI j)],⟨[(id,.arr false 1 (acc.map fun s=>[PV.str s]))],t⟩)) ?_ (fun _=>?_))
    ·refine Rp0 [0,1,5,6,7,8,9,34] ?_;by_cases haj2:a<j
     ·rw [if_pos haj2];refine Zac rfl (fun _=>?_) (fun h=>by simp at h;omega);refine rp0 [0,1,5,6,7,8,9] ?_;refine ⟨by omega,?_⟩;exact ⟨(),trivial⟩
     ·rw [if_neg haj2];refine Zac rfl (fun h=>by simp at h;omega) (fun _=>?_);refine Kp0 ?_;exact ⟨(),trivial⟩
    have hq2:(if a<j then q++[32] else q).length≤2002001:=by
     split
     ·rw [List.length_append,List.length_singleton];omega
     ·omega
    generalize (if a<j then q++[32] else q)=q2 at hst hq2 ⊢;refine rp1 [0,1,5,6,7,8,9] (x2 @xlm hrj) ?_;refine ⟨⟨by omega,by omega⟩,by omega,?_⟩;refine rp1 [0,1,5,6,7,8,9] (ad1 (a:=j) (by omega)) ?_;refine ⟨⟨j+1,by omega,by omega⟩,?_⟩;rw [hst];exact ⟨⟨rfl,rfl⟩,by show e-(j+1)<e-j;omega⟩
   ·have je:j=e:=by simp only [decide_eq_false_iff_not] at h7;omega
    subst je;refine Ep0 ?_;exact ⟨0,trivial⟩
  have hln:=lineT_len a e hl ht;have hli':Zcb l 0 E=acc++lineT l a e::Zcb l e (E.drop (k+1)):=hli;generalize lineT l a e=jn at hln hli' ⊢;have hale:(acc.map fun s=>[PV.str s]).length=acc.length:=List.length_map _;have hatk:List.take acc.length (acc.map fun s=>[PV.str s])=acc.map fun s=>[PV.str s]:=List.take_of_length_le (by omega);have haccE:(acc++[jn]).map (fun s=>[PV.str s])=acc.map (fun s=>[PV.str s])++[[PV.str jn]]:=by rw [List.map_append];rfl
  have haccL:(acc++[jn]).length=acc.length+1:=by simp
  have qq:=N4 id t (t+1) (t+1+1);refine Rp1 [0,1,5,7] (x3 hale hatk qq) ?_;refine ⟨by omega,by omega,?_⟩;refine rp1 [0,1,5,6,7] (x3 @xlm hrow qq) ?_;refine Ok ?_;refine rp1 [0,1,5,6,7] (x2 (ad1 (a:=k) (by omega)) qq) ?_;refine ⟨⟨(k+1,e,acc++[jn],t+1,t+2),ka,by show e≤l.length;omega,by show (acc++[jn]).length=k+1;omega,Nat.lt_succ_self _,hri,by show Zcb l 0 E=acc++[jn]++Zcb l e (E.drop (k+1));rw [hli'];simp⟩,?_⟩;refine ⟨⟨?_,rfl,rfl⟩,⟨Nat.le_refl _,?_⟩,by show E.length-(k+1)<E.length-k;omega⟩
  ·show PV.own (t+1) 0 (acc.length+1)=PV.own (t+1) 0 (acc++[jn]).length;rw [haccL]
  ·show (if t+1=t+1 then some (AB.arr false 1 (acc.map (fun s=>[PV.str s])++[[PV.str jn]])) else _)=some (AB.arr false 1 ((acc++[jn]).map fun s=>[PV.str s]));rw [if_pos rfl,haccE]
 ·have ka:k=E.length:=by simp only [decide_eq_false_iff_not] at h4;omega
  subst ka;rw [List.drop_length,Zcb,List.append_nil] at hli;rw [hli];refine Ep0 ?_;refine Rp0 [4] ?_;refine Tp0 ?_;exact View.own_all (fz:=false) (by simp [Heap.get,HL.get]) (by rw [List.length_map])
end Go.Proofs.YtcgdjembdjdlhaaGreatDoor.w
namespace Go.VM
open Go
def Zci (w:Int) (l:List Str) (B:Nat→Int) (i k:Nat):Int:=if k<l.length then B k+(w-llen l i k)*(w-llen l i k) else B k
def Zcr (w:Int) (l:List Str) (B:Nat→Int) (i:Nat):Nat→Nat→Int→Int
 | 0,_,b=>b
 | f+1,k,b=>if k≤l.length∧llen l i k≤w then Zcr w l B i f (k+1) (if b<0∨Zci w l B i k<b then Zci w l B i k else b) else b
def Za5 (w:Int) (l:List Str):Nat→List Int
 | 0=>[0]
 | m+1=>Zcr w l (fun k=>(Za5 w l m).getD (k-(l.length-m)) 0) (l.length-(m+1)) (m+1) (l.length-m) (-1)::Za5 w l m
theorem costs_len (w:Int) (l:List Str):∀ m,(Za5 w l m).length=m+1
 | 0=>rfl
 | m+1=>by rw [Za5,List.length_cons,costs_len w l m]
theorem wlen_self (l:List Str) (a:Nat):wlen l a a=0:=by unfold wlen;simp
def FitW (w:Int) (l:List Str):Prop:=1≤w∧w≤200∧∀ s∈l,1≤s.length∧(s.length:Int)≤w
theorem llen_one {w:Int} {l:List Str} (hf:FitW w l) {i:Nat} (hi:i<l.length):1≤llen l i (i+1)∧llen l i (i+1)≤w:=by
 have:=hf.2.2 _ (List.getElem_mem hi);unfold llen;rw [wlen_step (Nat.le_refl i) hi,wlen_self];omega
theorem llen_pos {l:List Str} {i k:Nat} (h:i<k):0≤llen l i k:=by unfold llen;omega
theorem sq_bd {x w:Int} (h0:0≤x) (h1:x≤w) (hw:w≤200):0≤(w-x)*(w-x)∧(w-x)*(w-x)≤40000:=by
 have a:0≤w-x:=by omega
 have b:w-x≤200:=by omega
 refine ⟨Int.mul_nonneg a a,?_⟩;have:=Int.mul_le_mul b b a (by omega);omega
theorem cand_bd {w:Int} {l:List Str} {B:Nat→Int} {M:Int} {i k:Nat} (hf:FitW w l) (hik:i<k) (hl:llen l i k≤w) (hB:0≤B k∧B k≤M):0≤Zci w l B i k∧Zci w l B i k≤M+40000:=by
 have:=sq_bd (llen_pos (l:=l) hik) hl hf.2.1;unfold Zci;split<;>omega
theorem scan_bd {w:Int} {l:List Str} {B:Nat→Int} {M:Int} {i:Nat} (hf:FitW w l) (hB:∀ k,i<k→k≤l.length→0≤B k∧B k≤M):∀ (f k:Nat) (b:Int),i<k→(b = -1∨(0≤b∧b≤M+40000))→(Zcr w l B i f k b = -1∨(0≤Zcr w l B i f k b∧Zcr w l B i f k b≤M+40000))∧(0≤b→0≤Zcr w l B i f k b)
 | 0,k,b,_,h=>⟨h,fun h=>h⟩
 | f+1,k,b,hik,h=>by
  rw [Zcr];split
  ·rename_i hc;have hcb:=cand_bd hf hik hc.2 (hB k hik hc.1);have ih:=scan_bd hf hB f (k+1) (if b<0∨Zci w l B i k<b then Zci w l B i k else b) (by omega) (by split<;>omega);refine ⟨ih.1,fun hb=>ih.2 ?_⟩;split<;>omega
  ·exact ⟨h,fun h=>h⟩
theorem costs_bd {w:Int} {l:List Str} (hf:FitW w l):∀ m,m≤l.length→∀ x∈Za5 w l m,0≤x∧x≤40000*(m:Int)
 | 0,_,x,hx=>by rw [Za5,List.mem_singleton] at hx;subst hx;omega
 | m+1,hm,x,hx=>by
  have ih:=costs_bd hf m (by omega);rw [Za5] at hx;rcases List.mem_cons.1 hx with rfl|hx
  ·have hlen:=costs_len w l m;have hB:∀ k,l.length-(m+1)<k→k≤l.length→0≤(Za5 w l m).getD (k-(l.length-m)) 0∧(Za5 w l m).getD (k-(l.length-m)) 0≤40000*(m:Int):=by
    intro k h1 h2;have hk:k-(l.length-m)<(Za5 w l m).length:=by rw [hlen];omega
    rw [List.getD_eq_getElem?_getD,List.getElem?_eq_getElem hk];exact ih _ (List.getElem_mem hk)
   generalize hBB:(fun k=>(Za5 w l m).getD (k-(l.length-m)) 0)=B;have hB':∀ k,l.length-(m+1)<k→k≤l.length→0≤B k∧B k≤40000*(m:Int):=by rw [← hBB];exact hB
   have hi:l.length-(m+1)<l.length:=by omega
   have h1:=llen_one hf hi;have e:l.length-(m+1)+1=l.length-m:=by omega
   rw [e] at h1;have hc:=cand_bd hf (i:=l.length-(m+1)) (k:=l.length-m) (by omega) h1.2 (hB' _ (by omega) (by omega));rw [Zcr,if_pos ⟨by omega,h1.2⟩];have s:=scan_bd hf hB' m (l.length-m+1) (if (-1:Int)<0∨Zci w l B (l.length-(m+1)) (l.length-m) < -1 then Zci w l B (l.length-(m+1)) (l.length-m) else -1) (by omega) (by rw [if_pos (.inl (by omega))];exact .inr hc);rw [if_pos (.inl (by omega))] at s ⊢;have:=s.2 hc.1
   push_cast
   omega
  ·have:=ih x hx
   push_cast
   omega
end Go.VM
namespace Go.VM
open Go
def Zaw (w:Int) (l:List Str) (k:Nat):Int:=(Za5 w l l.length).getD k 0
theorem costs_drop (w:Int) (l:List Str) (m:Nat):∀ d,(Za5 w l (m+d)).drop d=Za5 w l m
 | 0=>rfl
 | d+1=>by
  rw [← Nat.add_assoc,Za5,List.drop_succ_cons,costs_drop w l m d]
theorem costAt_eq (w:Int) (l:List Str) {m k:Nat} (hm:m≤l.length) (hk:l.length-m≤k):(Za5 w l m).getD (k-(l.length-m)) 0=Zaw w l k:=by
 have h:=costs_drop w l m (l.length-m);rw [show m+(l.length-m)=l.length by omega] at h;unfold Zaw;rw [← h,List.getD_eq_getElem?_getD,List.getElem?_drop,List.getD_eq_getElem?_getD,show l.length-m+(k-(l.length-m))=k by omega]
theorem candV_congr {w:Int} {l:List Str} {B C:Nat→Int} {i k:Nat} (h:B k=C k):Zci w l B i k=Zci w l C i k:=by
 unfold Zci;rw [h]
theorem scanC_congr {w:Int} {l:List Str} {B C:Nat→Int} {i:Nat}:∀ (f k:Nat) (b:Int),(∀ j,k≤j→j≤l.length→B j=C j)→Zcr w l B i f k b=Zcr w l C i f k b
 | 0,_,_,_=>rfl
 | f+1,k,b,h=>by
  rw [Zcr,Zcr];by_cases hc:k≤l.length∧llen l i k≤w
  ·rw [if_pos hc,if_pos hc,candV_congr (h k (Nat.le_refl _) hc.1)];exact scanC_congr f (k+1) _ fun j h1 h2=>h j (by omega) h2
  ·rw [if_neg hc,if_neg hc]
theorem costAt_scan (w:Int) (l:List Str) {i:Nat} (hi:i<l.length):Zaw w l i=Zcr w l (Zaw w l) i (l.length-i) (i+1) (-1):=by
 obtain ⟨m,hm⟩:∃ m,m=l.length-(i+1):=⟨_,rfl⟩;have h:=costAt_eq w l (m:=m+1) (k:=i) (by omega) (by omega);rw [show i-(l.length-(m+1))=0 by omega,Za5,List.getD_cons_zero,show l.length-(m+1)=i by omega,show l.length-m=i+1 by omega,show m+1=l.length-i by omega] at h;rw [← h];refine scanC_congr _ _ _ fun j h1 h2=>?_;rw [show i+1=l.length-m by omega];exact costAt_eq w l (by omega) (by omega)
theorem costAt_bd {w:Int} {l:List Str} (hf:FitW w l) (k:Nat):0≤Zaw w l k∧Zaw w l k≤40000*(l.length:Int):=by
 unfold Zaw;by_cases hk:k<(Za5 w l l.length).length
 ·rw [List.getD_eq_getElem?_getD,List.getElem?_eq_getElem hk];exact costs_bd hf l.length (Nat.le_refl _) _ (List.getElem_mem hk)
 ·rw [List.getD_eq_getElem?_getD,List.getElem?_eq_none (by omega)];simp;omega
theorem costAt_end (w:Int) (l:List Str):Zaw w l l.length=0:=by
 have h:=costAt_eq w l (m:=0) (k:=l.length) (Nat.zero_le _) (by omega);rw [← h,Za5];simp
def scanA (w:Int) (l:List Str) (B:Nat→Int) (i:Nat):Nat→Nat→Int→Nat→Nat
 | 0,_,_,a=>a
 | f+1,k,b,a=>if k≤l.length∧llen l i k≤w then (if b<0∨Zci w l B i k<b then scanA w l B i f (k+1) (Zci w l B i k) k else scanA w l B i f (k+1) b a) else a
def nextN (w:Int) (l:List Str) (i:Nat):Nat:=scanA w l (Zaw w l) i (l.length-i) (i+1) (-1) 0
theorem scanA_spec {w : Int} {l : List Str} {B : Nat → Int} {i : Nat} : ∀ (f k : Nat) (b : Int) (a : Nat), (∀ j, k ≤ j → j ≤ l.length → llen l i j ≤ w → 0 ≤ Zci w l B i j) →
  (scanA w l B i f k b a=a∧Zcr w l B i f k b=b∧(b<0→f=0∨¬ (k≤l.length∧llen l i k≤w))) ∨
  (k≤scanA w l B i f k b a∧scanA w l B i f k b a≤l.length∧llen l i (scanA w l B i f k b a)≤w∧Zci w l B i (scanA w l B i f k b a)=Zcr w l B i f k b∧(0≤b→Zcr w l B i f k b<b)∧∀ j,k≤j→j<scanA w l B i f k b a→llen l i j≤w∧Zcr w l B i f k b<Zci w l B i j)
 | 0,k,b,a,_=>.inl ⟨rfl,rfl,fun _=>.inl rfl⟩
 | f+1,k,b,a,hB=>by
  rw [scanA,Zcr];by_cases hc:k≤l.length∧llen l i k≤w
  ·rw [if_pos hc,if_pos hc];have h0:=hB k (Nat.le_refl _) hc.1 hc.2;have hB':∀ j,k+1≤j→j≤l.length→llen l i j≤w→0≤Zci w l B i j:=fun j h=>hB j (by omega);by_cases ht:b<0∨Zci w l B i k<b
   ·rw [if_pos ht,if_pos ht]
    right
    rcases scanA_spec f (k+1) (Zci w l B i k) k hB' with ⟨h1,h2,_⟩|⟨h1,h2,h3,h4,h5,h6⟩
    ·rw [h1,h2];exact ⟨Nat.le_refl _,hc.1,hc.2,rfl,fun _=>by omega,fun j h1 h2=>by omega⟩
    ·have h5':=h5 h0;refine ⟨by omega,h2,h3,h4,fun _=>by omega,fun j h7 h8=>?_⟩;by_cases e:j=k
     ·subst e;exact ⟨hc.2,h5'⟩
     ·exact h6 j (by omega) h8
   ·rw [if_neg ht,if_neg ht];rcases scanA_spec f (k+1) b a hB' with ⟨h1,h2,_⟩|⟨h1,h2,h3,h4,h5,h6⟩
    ·exact .inl ⟨h1,h2,fun h=>absurd (.inl h) ht⟩
    ·have h5':=h5 (by omega);refine .inr ⟨by omega,h2,h3,h4,fun _=>h5',fun j h7 h8=>?_⟩;by_cases e:j=k
     ·subst e;exact ⟨hc.2,by omega⟩
     ·exact h6 j (by omega) h8
  ·rw [if_neg hc,if_neg hc];exact .inl ⟨rfl,rfl,fun _=>.inr hc⟩
theorem next_spec {w : Int} {l : List Str} (hf : FitW w l) {i : Nat} (hi : i < l.length) :
  i<nextN w l i∧nextN w l i≤l.length∧llen l i (nextN w l i)≤w∧Zci w l (Zaw w l) i (nextN w l i)=Zaw w l i∧∀ j,i<j→j<nextN w l i→llen l i j≤w∧Zci w l (Zaw w l) i j≠Zaw w l i:=by
 have h1:=llen_one hf hi;have s:=scanA_spec (w:=w) (l:=l) (B:=Zaw w l) (i:=i) (l.length-i) (i+1) (-1) 0 (fun j h2 h3 h4=>(cand_bd hf (by omega) h4 (costAt_bd hf j)).1);rw [← costAt_scan w l hi] at s;unfold nextN;rcases s with ⟨_,_,h3⟩|⟨h2,h3,h4,h5,_,h6⟩
 ·rcases h3 (by omega) with h3|h3
  ·omega
  ·exact absurd ⟨by omega,h1.2⟩ h3
 ·exact ⟨by omega,h3,h4,h5,fun j h7 h8=>by have:=h6 j (by omega) h8;exact ⟨this.1,by omega⟩⟩
def endsF (w:Int) (l:List Str):Nat→Nat→List Nat
 | 0,_=>[]
 | f+1,i=>if i<l.length then nextN w l i::endsF w l f (nextN w l i) else []
theorem endsF_step {w:Int} {l:List Str} (hf:FitW w l):∀ (f:Nat) {i:Nat},i<l.length→l.length-i≤f→endsF w l f i=nextN w l i::endsF w l f (nextN w l i)
 | 0,i,h,h2=>by omega
 | f+1,i,h,h2=>by
  have s:=next_spec hf h;rw [endsF,if_pos h]
  congr 1
  by_cases he:nextN w l i<l.length
  ·rw [endsF_step hf f he (by omega)]
   conv=>rhs;rw [endsF,if_pos he]
  ·rw [endsF,if_neg he];cases f with
   | zero=>rfl
   | succ f=>rw [endsF,if_neg he]
theorem endsF_done {w:Int} {l:List Str} {f i:Nat} (h:¬ i<l.length):endsF w l f i=[]:=by
 cases f with
 | zero=>rfl
 | succ f=>rw [endsF,if_neg h]
theorem endsF_len (w:Int) (l:List Str):∀ f i,(endsF w l f i).length≤f
 | 0,_=>by rw [endsF];simp
 | f+1,i=>by
  rw [endsF];split
  ·have:=endsF_len w l f (nextN w l i);rw [List.length_cons];omega
  ·simp
theorem endsF_rises {w:Int} {l:List Str} (hf:FitW w l):∀ (f i:Nat),l.length-i≤f→i≤l.length→Zbp l.length i (endsF w l f i)=true
 | 0,i,h,h2=>by rw [endsF,Zbp];rw [beq_iff_eq];omega
 | f+1,i,h,h2=>by
  rw [endsF];by_cases hi:i<l.length
  ·have s:=next_spec hf hi;rw [if_pos hi,Zbp,endsF_rises hf f _ (by omega) s.2.1];have e1:decide (nextN w l i≤i)=false:=decide_eq_false (by omega);have e2:decide (l.length<nextN w l i)=false:=decide_eq_false (by omega);rw [e1,e2];rfl
  ·rw [if_neg hi,Zbp,beq_iff_eq];omega
def Za9 (w:Int) (l:List Str):List Nat:=if Zbu w l=0 then endsF w l l.length 0 else []
theorem unfit_iff {w:Int} {s:Str}:unfitB w s=false↔1≤s.length∧(s.length:Int)≤w:=by
 unfold unfitB;simp only [Bool.or_eq_false_iff,decide_eq_false_iff_not];omega
theorem wrongL_fit {w:Int} {l:List Str} (h:Zbu w l=0):FitW w l∧l.length≤1024:=by
 unfold Zbu at h;split at h
 ·omega
 ·split at h
  ·omega
  ·split at h
   ·omega
   ·rename_i h1 h2 h3;refine ⟨⟨by omega,by omega,fun s hs=>?_⟩,by omega⟩;refine unfit_iff.1 ?_;cases hq:unfitB w s with
    | false=>rfl
    | true=>exact absurd (List.any_eq_true.2 ⟨s,hs,hq⟩) h3
theorem wrongL_zero {w:Int} {l:List Str} (h:FitW w l) (hl:l.length≤1024):Zbu w l=0:=by
 unfold Zbu;rw [if_neg (by have:=h.1;have:=h.2.1;omega),if_neg (by omega),if_neg];intro hc;obtain ⟨s,hs,hq⟩:=List.any_eq_true.1 hc;rw [unfit_iff.2 (h.2.2 s hs)] at hq;cases hq
theorem breakE_rises {w:Int} {l:List Str} (h:Zbu w l=0):Zbp l.length 0 (Za9 w l)=true:=by
 unfold Za9;rw [if_pos h];exact endsF_rises (wrongL_fit h).1 _ _ (by omega) (Nat.zero_le _)
theorem breakE_len {w:Int} {l:List Str}:(Za9 w l).length≤l.length:=by
 unfold Za9;split
 ·exact endsF_len w l _ _
 ·simp
end Go.VM
namespace Go.VM
open Go
def rowX (n:Nat) (f:Nat→Int) (m:Nat):List (List PV):=(List.range (n+1)).map fun j=>[pI (if n-m≤j then f j else 0)]
theorem rowX_len (n:Nat) (f:Nat→Int) (m:Nat):(rowX n f m).length=n+1:=by unfold rowX;simp
theorem rowX_getE (n:Nat) (f:Nat→Int) (m:Nat) {k:Nat} (h:k≤n):(rowX n f m)[k]?=some [pI (if n-m≤k then f k else 0)]:=by
 unfold rowX;rw [List.getElem?_map,List.getElem?_range (by omega)];rfl
theorem rowX_get (n:Nat) (f:Nat→Int) (m:Nat) {k:Nat} (h1:n-m≤k) (h:k≤n):(rowX n f m).getD k []=[pI (f k)]:=by
 rw [List.getD_eq_getElem?_getD,rowX_getE n f m h,if_pos h1];rfl
theorem rowX_zero (n:Nat) (f:Nat→Int) (h:f n=0):List.replicate (n+1) [PV.int .i64 0]=rowX n f 0:=by
 refine List.ext_getElem? fun j=>?_;by_cases hj:j≤n
 ·rw [rowX_getE n f 0 hj,List.getElem?_replicate,if_pos (by omega)];by_cases e:n≤j
  ·have:j=n:=by omega
   subst this;rw [if_pos (by omega),h]
  ·rw [if_neg (by omega)]
 ·rw [List.getElem?_eq_none (by rw [List.length_replicate];omega),List.getElem?_eq_none (by rw [rowX_len];omega)]
theorem rowX_set (n:Nat) (f:Nat→Int) {m i:Nat} (hm:m<n) (hi:i=n-(m+1)):(rowX n f m).set i [pI (f i)]=rowX n f (m+1):=by
 refine List.ext_getElem? fun j=>?_;by_cases hj:j≤n
 ·rw [rowX_getE n f (m+1) hj,List.getElem?_set];by_cases e:i=j
  ·subst e;rw [if_pos rfl,if_pos (by rw [rowX_len];omega),if_pos (by omega)]
  ·rw [if_neg e,rowX_getE n f m hj];by_cases e2:n-m≤j
   ·rw [if_pos e2,if_pos (by omega)]
   ·rw [if_neg e2,if_neg (by omega)]
 ·rw [List.getElem?_eq_none (by rw [List.length_set,rowX_len];omega),List.getElem?_eq_none (by rw [rowX_len];omega)]
theorem rowX_same (n:Nat) (f:Nat→Int) {m i:Nat} (hi:i<n-m):(rowX n f m).set i [pI 0]=rowX n f m:=by
 refine List.ext_getElem? fun j=>?_;rw [List.getElem?_set];by_cases e:i=j
 ·subst e;rw [if_pos rfl,if_pos (by rw [rowX_len];omega),rowX_getE n f m (by omega),if_neg (by omega)]
 ·rw [if_neg e]
theorem set_get {R:List (List PV)} {i:Nat} (x:List PV) (h:i<R.length):(R.set i x).getD i []=x:=by
 rw [List.getD_eq_getElem?_getD,List.getElem?_set,if_pos rfl,if_pos h];rfl
theorem set_get_ne {R:List (List PV)} {i k:Nat} (x:List PV) (h:i≠k):(R.set i x).getD k []=R.getD k []:=by
 rw [List.getD_eq_getElem?_getD,List.getElem?_set,if_neg h,List.getD_eq_getElem?_getD]
def mxV (b:Int):Int:=if b<0 then 9223372036854775807 else b
theorem mxV_lt {b c:Int} (hc:c≤1000000000):(c<mxV b)↔(b<0∨c<b):=by
 unfold mxV;split
 ·exact ⟨fun _=>.inl (by omega),fun _=>by omega⟩
 ·exact ⟨fun h=>.inr h,fun h=>by omega⟩
theorem mxV_bd {b M:Int} (h:b = -1∨(0≤b∧b≤M)) (hM:M≤1000000000):0≤mxV b∧mxV b≤9223372036854775807:=by
 unfold mxV;split<;>omega
end Go.VM
