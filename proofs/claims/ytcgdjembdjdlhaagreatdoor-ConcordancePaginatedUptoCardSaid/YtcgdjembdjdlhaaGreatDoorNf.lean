import Derived.Test.YtcgdjembdjdlhaaGreatDoorNe
import Derived.Test.YtcgdjembdjdlhaaGreatDoorVmBg
import Derived.Test.YtcgdjembdjdlhaaGreatDoorVmBe
import Derived.Test.YtcgdjembdjdlhaaGreatDoorVmPk
import Derived.RangeFuncBox
import Derived.RangeFuncLeaves
import Derived.Shelf.Abstract
import Derived.WalkKit
import Derived.OwnWalkIn
import Derived.TacticsInMore
import Derived.LoopNIn
import Derived.LoopIn
import Derived.Maps.AppendAt
import Derived.Sort.OwnSorted
import Derived.Test.YtcgdjembdjdlhaaGreatDoorChecked
import Derived.Test.YtcgdjembdjdlhaaGreatDoorVmD
import Derived.Lib.SlicesCompact
import Derived.Lib.ItoaNum
import Derived.Lib.Join
import Derived.Test.YtcgdjembdjdlhaaGreatDoorShAll
import Derived.Test.YtcgdjembdjdlhaaGreatDoorVmE
import Derived.Lib.SlKeysI
import Derived.Lib.RowBridge
import Derived.Test.YtcgdjembdjdlhaaGreatDoorJn
import Derived.Shelf.Strings.SlTrimAscii
import Derived.Lib.AppendIntMem
import Derived.Test.YtcgdjembdjdlhaaGreatDoorCp
import Derived.Test.YtcgdjembdjdlhaaGreatDoorVmBa
set_option linter.all false
set_option maxRecDepth 20000
set_option maxHeartbeats 0
namespace Go.VM
open Go Go.Proofs.w
theorem st_mem {u:Un} (hu:SmT u):∀ at',∀ s∈(stT u at').1,s.u∈unitsL u.kids∧at'≤s.a∧s.b≤(stT u at').2:=by
 induction hu with
 | mk u h hk hs ih =>
  have key:∀ L:List Un,(∀ k∈L,k∈u.kids)→∀ at',∀ s∈(stL u L at').1,s.u∈unitsL L∧at'≤s.a∧s.b≤(stL u L at').2:=by
   intro L
   induction L with
   | nil=>intro _ at' s hs;rw [stL_nil] at hs;cases hs
   | cons a r ihr =>
    intro hL at' s hs';have hrm:=fun k hk=>hL k (Zx7 _ hk);have ihr:=ihr hrm;have ha:=hL a List.mem_cons_self;rw [unitsL];cases hc:noteB u a with
    | true =>
     rw [stL_note hc] at hs' ⊢;have:=ihr at' s hs';exact ⟨List.mem_append_right _ this.1,this.2⟩
    | false =>
     rw [stL_cons hc] at hs' ⊢;have h1:=st_bd (hs a ha) (at'+(rowT a).length);have h2:=stL_bd hs r hrm (stT a (at'+(rowT a).length)).2;simp only at hs' ⊢;rcases List.mem_cons.1 hs' with rfl|hs'
     ·exact ⟨List.mem_append_left _ (Zau a),Nat.le_refl _,h2.1⟩
     rcases List.mem_append.1 hs' with hs'|hs'
     ·have:=ih a ha _ s hs';exact ⟨List.mem_append_left _ (by rw [Zaj];exact Zx7 _ this.1),by omega,by omega⟩
     ·have:=ihr _ s hs';exact ⟨List.mem_append_right _ this.1,by omega,by omega⟩
  intro at';rw [stT_eq];exact key u.kids (fun k hk=>hk) at'
def Za1 (P:List (List Ln)) (s:Sch) (n:Nat):List Int:=(pgsOf P s n).map fun i=>((i+1:Nat):Int)
theorem pagesE_step (P:List (List Ln)) (s:Sch) (n:Nat):Za1 P s (n+1)=if onP P s n=true then Za1 P s n++[((n+1:Nat):Int)] else Za1 P s n:=by
 unfold Za1 pgsOf;rw [List.range_succ,List.filter_append,List.map_append];cases h:onP P s n with
 | true=>rw [List.filter_cons_of_pos h];rfl
 | false=>rw [List.filter_cons_of_neg (by rw [h];exact Bool.false_ne_true)];simp
theorem pagesE_len (P:List (List Ln)) (s:Sch) (n:Nat):(Za1 P s n).length≤n:=by
 unfold Za1 pgsOf;rw [List.length_map];have:=List.length_filter_le (onP P s) (List.range n);rw [List.length_range] at this;exact this
def titS (u:Un):Str:=Lib.join (titleT u) [32]
def intR (l:List Int):List (List PV):=l.map fun x=>[pI x]
theorem intR_len (l:List Int):(intR l).length=l.length:=List.length_map _
theorem intR_take (l:List Int):List.take l.length (intR l)=intR l:=List.take_of_length_le (by rw [intR_len];exact Nat.le_refl _)
def entR (P:List (List Ln)) (s:Sch):List PV:=[.str (titS s.u),.sl 1 (intR (Za1 P s P.length))]
def pvE (ps:List Int) (ip:Nat):PV:=if ps=[] then .nilsl else .own ip 0 ps.length
def pbE (ps:List Int) (ip:Nat):List (Nat×AB):=if ps=[] then [] else [(ip,.arr false 1 (intR ps))]
def ovE (l:List Sch) (io:Nat):PV:=if l=[] then .nilsl else .own io 0 l.length
def obE (P:List (List Ln)) (l:List Sch) (io:Nat):List (Nat×AB):=if l=[] then [] else [(io,.arr false 2 (l.map (entR P)))]
theorem pv_app (ps:List Int) (x:Int) (i:Nat):pvE (ps++[x]) i=.own i 0 (ps.length+1):=by unfold pvE;rw [if_neg (by simp),Zx5];rfl
theorem pb_app (ps:List Int) (x:Int) (i:Nat):pbE (ps++[x]) i=[(i,.arr false 1 (intR ps++[[pI x]]))]:=by unfold pbE;rw [if_neg (by simp)];simp [intR]
theorem pb_mem {ps:List Int} {ip:Nat}:∀ q∈pbE ps ip,q.1=ip∧∀ fz z,q.2≠.arr fz z []:=by
 intro q hq;unfold pbE at hq;split at hq
 ·cases hq
 ·rename_i h;rw [List.mem_singleton] at hq;subst hq;exact ⟨rfl,fun fz z e=>by simp only [AB.arr.injEq] at e;exact h (by simpa [intR] using e.2.2)⟩
theorem ov_app (A:List Sch) (s:Sch) (i:Nat):ovE (A++[s]) i=.own i 0 (A.length+1):=by unfold ovE;rw [if_neg (by simp),Zx5];rfl
theorem ob_app (P:List (List Ln)) (A:List Sch) (s:Sch) (i:Nat):obE P (A++[s]) i=[(i,.arr false 2 (A.map (entR P)++[entR P s]))]:=by unfold obE;rw [if_neg (by simp)];simp
theorem ob_mem {P:List (List Ln)} {l:List Sch} {io:Nat}:∀ q∈obE P l io,q.1=io∧∀ fz z,q.2≠.arr fz z []:=by
 intro q hq;unfold obE at hq;split at hq
 ·cases hq
 ·rename_i h;rw [List.mem_singleton] at hq;subst hq;exact ⟨rfl,fun fz z e=>by simp only [AB.arr.injEq] at e;exact h (by simpa using e.2.2)⟩
theorem ob_off {P:List (List Ln)} {l:List Sch} {io x:Nat} (h:io≠x):Off (obE P l io) x:=fun q hq=>by rw [(ob_mem q hq).1];exact h
theorem tl_off {P:List (List Ln)} {l:List Sch} {io ip x:Nat} {ps:List Int} (h:io≠x) (h2:ip≠x):Off (pbE ps ip++obE P l io) x:=fun q hq=>by
 rcases List.mem_append.1 hq with hq|hq
 ·rw [(pb_mem q hq).1];exact h2
 ·exact ob_off h q hq
theorem tl_mem {P:List (List Ln)} {l:List Sch} {io ip:Nat} {ps:List Int}:∀ q∈pbE ps ip++obE P l io,∀ fz z,q.2≠.arr fz z []:=fun q hq=>by
 rcases List.mem_append.1 hq with hq|hq
 ·exact (pb_mem q hq).2
 ·exact (ob_mem q hq).2
theorem ob_nod {P:List (List Ln)} {l:List Sch} {io:Nat}:Nod (obE P l io):=by unfold obE;split<;>simp [Nod]
theorem tl_nod {P:List (List Ln)} {l:List Sch} {io ip:Nat} {ps:List Int} (h:ip≠io):Nod (pbE ps ip++obE P l io):=by
 unfold obE pbE;split<;>split<;>simp [Nod,h]
def filS (l:List Sch):List Sch:=l.filter fun s=>secB s.u
theorem filS_step {l:List Sch} {k:Nat} (h:k<l.length):filS (l.take (k+1))=if secB l[k].u=true then filS (l.take k)++[l[k]] else filS (l.take k):=by
 unfold filS;rw [List.take_succ_eq_append_getElem h,List.filter_append];cases hs:secB l[k].u with
 | true=>simp [hs]
 | false=>simp [hs]
theorem filS_len (l:List Sch):(filS l).length≤l.length:=List.length_filter_le _ _
theorem titleT_len {u:Un} (h:SmU u):(titS u).length≤100000:=by
 have h1:=title_len u;have h2:=h.head.1;have h3:∀ s∈titleT u,s.length≤100:=by
  intro s hs;unfold titleT at hs;rcases List.mem_cons.1 hs with rfl|hs
  ·have:=nameK_len u.kind;omega
  rcases List.mem_cons.1 hs with rfl|hs
  ·have:=h.label;omega
  obtain ⟨w,hw,rfl⟩:=List.mem_map.1 hs;exact h.head.2 w hw
 have:=join_len (titleT u) 32 100 h3;unfold titS;omega
end Go.VM
namespace Go.Proofs.w
open Go Go.VM
def c_concordance_Contents:VC:=(ZR [ZO 2 (.box 8 (.t 0)),ZO 4 (.mv (.c .nilsl))] (ZR [ZO 5 (.mv (.c .nilsl))] (ZR [ZO 16 (.load true 8 (.t 2)),ZO 17 (.call 58 [.t 16,(.c (.int .i64 0))]),ZM 15 17,ZO 18 (.ext (.t 15) 0),ZO 19 (.ext (.t 15) 1),ZM 6 18,ZM 7 19] (.seq (ZR [ZM 20 6,ZO 21 (.len false (.t 20)),ZO 22 (.mv (.c (.int .i64 0)))] (.block 0 (.loop (ZR [ZO 23 (.bin .lss (.t 22) (.t 21))] (.seq (.cond (.t 23) .skip (.exit 0)) (.seq (.block 1 (ZR [ZO 24 (.iaddr 10 (.t 20) (.t 22)),ZO 25 (.load true 10 (.t 24)),ZO 9 (.alloc [.int .i64 0,.int .i64 0,.int .i64 0,.int .i64 0,(.str []),.nilsl,.nilsl,.nilsl,.int .i64 0,.int .i64 0]),ZN (.store 10 (.t 9) (.t 25))] (.seq (ZR [ZO 26 (.faddr 0 (.t 9)),ZO 27 (.faddr 3 (.t 26)),ZO 28 (.load false 1 (.t 27)),ZO 29 (.bin .neq (.t 28) (.c (.int .i64 1))),ZM 30 29,ZG 31 (.faddr 0 (.t 9)) 30 true,ZG 32 (.faddr 3 (.t 31)) 30 true,ZG 33 (.load false 1 (.t 32)) 30 true,ZG 34 (.bin .neq (.t 33) (.c (.int .i64 2))) 30 true,ZO 35 (.pick (.t 30) (.t 34) (.c (.bool false)))] (.cond (.t 35) (.exit 1) .skip)) (ZR [ZO 36 (.faddr 0 (.t 9)),ZO 37 (.load true 8 (.t 36)),ZO 38 (.call 60 [.t 37]),ZO 39 (.call 59 [.t 38,(.c (.str [32]))]),ZO 40 (.build [(.str []),.nilsl] [(0,(1,(.t 39)))]),ZO 10 (.alloc [(.str []),.nilsl]),ZN (.store 2 (.t 10) (.t 40))] (ZR [ZO 11 (.mv (.c (.int .i64 0)))] (.seq (ZR [ZM 41 1,ZO 42 (.len false (.t 41)),ZO 43 (.mv (.c (.int .i64 0)))] (.block 2 (.loop (ZR [ZO 44 (.bin .lss (.t 43) (.t 42))] (.seq (.cond (.t 44) .skip (.exit 2)) (.seq (.block 3 (ZR [ZO 45 (.iaddr 4 (.t 41) (.t 43)),ZO 46 (.load true 4 (.t 45)),ZO 13 (.alloc [.int .i64 0,(.str []),.nilsl,.nilsl]),ZN (.store 4 (.t 13) (.t 46))] (ZR [ZO 47 (.faddr 2 (.t 13)),ZO 48 (.load false 1 (.t 47)),ZO 49 (.build [.int .i64 0,(.str []),.nilsl,.nilsl] [(2,(1,(.t 48)))]),ZO 50 (.bslice 4 1 [.int .i64 0,(.str []),.nilsl,.nilsl] [(0,(.t 49))]),ZO 51 (.call 21 [.t 50]),ZO 52 (.len false (.t 51)),ZM 14 52] (.seq (ZR [ZM 53 11,ZO 54 (.faddr 8 (.t 9)),ZO 55 (.load false 1 (.t 54)),ZO 56 (.mm true [.t 53,.t 55]),ZM 57 11,ZM 58 14,ZO 59 (.bin .add (.t 57) (.t 58)),ZO 60 (.faddr 9 (.t 9)),ZO 61 (.load false 1 (.t 60)),ZO 62 (.mm false [.t 59,.t 61]),ZO 63 (.bin .lss (.t 56) (.t 62))] (.cond (.t 63) (.region [ZO 64 (.faddr 1 (.t 10)),ZO 65 (.load false 1 (.t 64)),ZO 66 (.faddr 0 (.t 13)),ZO 67 (.load false 1 (.t 66)),ZO 68 (.bslice 1 1 [.int .i64 0] [(0,(.t 67))]),ZO 69 (.app 1 8 [.int .i64 0] false (.t 65) (.t 68)),ZO 70 (.faddr 1 (.t 10)),ZN (.store 1 (.t 70) (.t 69))] false) .skip)) (.region [ZM 71 11,ZM 72 14,ZO 73 (.bin .add (.t 71) (.t 72)),ZM 11 73] false))))) (.region [ZO 74 (.bin .add (.t 43) (.c (.int .i64 1))),ZM 43 74] false))))))) (.region [ZM 75 5,ZO 76 (.load true 2 (.t 10)),ZO 77 (.bslice 2 1 [(.str []),.nilsl] [(0,(.t 76))]),ZO 78 (.app 2 40 [(.str []),.nilsl] false (.t 75) (.t 77)),ZM 5 78] false))))))) (.region [ZO 79 (.bin .add (.t 22) (.c (.int .i64 1))),ZM 22 79] false))))))) (ZR [ZM 80 5,ZM 4 80] .ret)))))
theorem closed_ents (P:List (List Ln)) (l:List Sch):Closed (.sl 2 (l.map (entR P))):=Zai (fun s _ x hx=>by
 simp only [entR,List.mem_cons,List.not_mem_nil,or_false] at hx;rcases hx with rfl|rfl
 ·exact cS _
 ·exact Zai fun _ _ y hy=>by rw [List.mem_singleton] at hy;subst hy;exact cI _)
theorem sp_Words_one (ls:List Str) (h1:ls.length≤1000) (h2:∀ s∈ls,s.length≤100000) (h3:(ls.flatMap Zan).length≤200000000):Zam Tryz.prog 21 [.sl 4 [[pI 0,.str [],.sl 1 (strR ls),.sl 1 []]]] (.sl 1 (strR (ls.flatMap Zan))):=by
 have hw:wdsL [(⟨0,[],ls,[]⟩:Pg)]=ls.flatMap Zan:=by simp [wdsL,wdsP,lnsP]
 have hs:SmalP [(⟨0,[],ls,[]⟩:Pg)]:=by
  refine ⟨by simp,by rw [hw];omega,fun p hp=>?_,fun p hp s hs=>?_⟩
  ·rw [List.mem_singleton] at hp;subst hp;unfold lnsP
   simpa using h1
  ·rw [List.mem_singleton] at hp;subst hp;unfold lnsP at hs;exact h2 s (by simpa using hs)
 have W:=own_Words [(⟨0,[],ls,[]⟩:Pg)] hs 0;rw [hw] at W;refine Zad (Zal.mono W ?_) (Zbs _) (by intro y hy;rw [List.mem_singleton] at hy;subst hy;exact closed_pgs [(⟨0,[],ls,[]⟩:Pg)]);rintro p h' ⟨id,t',q1,q2,rfl,rfl⟩;exact View.own_all (fz:=false) (by simp [Heap.get,HL.get]) (by rw [Za7])
theorem sp_Contents {u:Un} (hu:SmT u) (hn:(unitsT u).length≤1000) (P:List (List Ln)) (hP:P.length≤700000) (hcum:∀ k,cumP P k≤200000000) (hne:∀ s∈secsT u,Za1 P s P.length≠[]) (hln:∀ (k:Nat) (hk:k<P.length),(P[k].map Ln.text).length≤1000∧∀ s∈P[k].map Ln.text,s.length≤100000):Zam Tryz.prog 26 [.agg u.enc,.sl 4 ((pgsF u 0 P).map Pg.enc)] (.sl 2 ((secsT u).map (entR P))):=by
 rw [Zaj,List.length_cons] at hn;have ST:=sp_stretches hu 0 (by omega);have hbd:=st_bd hu 0;have hmem:=st_mem hu 0;have TI:=fun (s:Sch) (h:s∈(stT u 0).1)=>sp_con_title s.u (hu.units s.u (by rw [Zaj];exact Zx7 _ (hmem s h).1)).u.head.1;have TL:=fun (s:Sch) (h:s∈(stT u 0).1)=>titleT_len (hu.units s.u (by rw [Zaj];exact Zx7 _ (hmem s h).1)).u;have TN:=fun (s:Sch) (h:s∈(stT u 0).1)=>(hu.units s.u (by rw [Zaj];exact Zx7 _ (hmem s h).1)).u.head.1;have hAl:((pgsF u 0 P).map Pg.enc).length=P.length:=by rw [List.length_map,pgsF_len]
 have hAg:=fun (k:Nat) (hk:k<P.length)=>pgs_row u hk;refine Zad ?_ (closed_ents P _) (by intro y hy;simp only [List.mem_cons,List.not_mem_nil,or_false] at hy;rcases hy with rfl|rfl;exact Zao _;exact closed_pgs _);refine Gn (vc:=c_concordance_Contents) [.t 4] Tryz.func26 ?_;unfold c_concordance_Contents;try dsimp only [ZM,ZO,ZN,ZG,ZR,ZU]
 generalize (pgsF u 0 P).map Pg.enc=AE at *;have hF:secsT u=filS (stT u 0).1:=rfl;rw [hF] at hne ⊢;clear hF;rw [Un.Zaf u] at ST ⊢;generalize (stT u 0).2=SE at *;generalize (stT u 0).1=SL at *;generalize u.head.map Wd.enc=EH at *;generalize u.words.map Wd.enc=EW at *;generalize u.kids.map Un.enc=EK at *;have hSl:SL.length≤1000:=by omega
 have hSR:=fun (k:Nat) (h:k<SL.length)=>(rowm h:(SL.map Sch.enc).getD k []=SL[k].enc);have hSRl:(SL.map Sch.enc).length=SL.length:=List.length_map _;generalize SL.map Sch.enc=SR at *;refine Rp0 [1,2] ?_;refine Rp0 [1,2,5] ?_;refine Rp0 [1,5,6] ?_;refine Ap0 ST ?_;refine Zaa ?_;refine Rp1 [1,5,20,21,22] hSRl ?_;refine Zab ?_;refine Zak (σ:={ x:Nat×Nat×Nat//x.1≤SL.length∧x.2.1<x.2.2 }) (fun x=>([(1,.sl 4 AE),(5,ovE (filS (SL.take x.1.1)) x.1.2.1),(20,.sl 10 SR),(21,pI SL.length),(22,pI x.1.1)],⟨obE P (filS (SL.take x.1.1)) x.1.2.1,x.1.2.2⟩)) (fun x=>SL.length-x.1.1) ⟨(0,1,2),Nat.zero_le _,by simp⟩ ?_ ?_ ?_
 ·refine Sp0 ?_;exact ⟨rfl,rfl⟩
 ·refine Sp0 ?_;trivial
 rintro ⟨⟨k,io,t⟩,hk,hio⟩;simp only [] at hk hio ⊢;have qq:=N5 io t (t+1) (t+1+1) (t+1+1+1);refine Rp1 [1,5,20,21,22,23] qq ?_;refine Zaa ?_;refine Zac rfl (fun h1=>?_) (fun h1=>?_)
 ·have ka:k<SL.length:=by simp only [Zx3] at h1;omega
  have hr:=hSR k ka;have hst:=filS_step ka;have hsm:=List.getElem_mem ka;have TI:=TI _ hsm;have TL:=TL _ hsm;have TN:=TN _ hsm;have hb:=hmem _ hsm;have hne:=hne SL[k];have hfl:=filS_len (SL.take k);rw [List.length_take] at hfl;have hinf:secB SL[k].u=true→SL[k]∈filS SL:=fun h=>List.mem_filter.2 ⟨hsm,h⟩;generalize SL[k]=s at *;have hse:s.enc=[pI s.u.act,pI s.u.item,pI s.u.n,pI s.u.kind,.str s.u.label,.sl 4 (s.u.head.map Wd.enc),.sl 4 (s.u.words.map Wd.enc),.sl 8 (s.u.kids.map Un.enc),pI s.a,pI s.b]:=by unfold Sch.enc;rw [Un.Zaf s.u];rfl
  rw [hse] at hr;have hTl:=title_len s.u;have JN:=sp_strings_Join (titleT s.u) [32] (by omega) (by unfold titS at TL;omega);have htS:Lib.join (titleT s.u) [32]=titS s.u:=rfl;rw [htS] at JN;have hsb:secB s.u=((s.u.kind==1)||(s.u.kind==2)):=rfl;rw [Un.Zaf s.u] at TI;generalize s.u.head.map Wd.enc=SH at *;generalize s.u.words.map Wd.enc=SW at *;generalize s.u.kids.map Un.enc=SK at *;generalize hA:filS (SL.take k)=A at *;have p0:=(ob_off (P:=P) (l:=A) (show io≠t by omega)).get;have p1:=(ob_off (P:=P) (l:=A) (show io≠t by omega)).del;have p2:=(ob_off (P:=P) (l:=A) (show io≠t+1 by omega)).get;have p3:=(ob_off (P:=P) (l:=A) (show io≠t+1 by omega)).del;have nodO:=ob_nod (P:=P) (l:=A) (io:=io);have offT:=ob_off (P:=P) (l:=A) (show io≠t by omega);refine Kp0 ?_;refine Zaa ?_;refine Zab ?_;refine Rp1 [1,5,9,20,21,22] (x5 hSRl hr p0 p1 qq) ?_;refine Ok ?_;refine Zaa ?_;by_cases hq:s.u.kind=1∨s.u.kind=2
  ·have hq':secB s.u=true:=by rw [hsb];rcases hq with h|h<;>simp [h]
   rw [hq',if_pos rfl] at hst;refine Zaa (Zc1 (σ:=Unit) (fun _=>([(1,.sl 4 AE),(5,ovE A io),(9,.loc t 0 0),(20,.sl 10 SR),(21,pI SL.length),(22,pI k),(35,.bool false)],⟨(t,.arr false 10 [[pI s.u.act,pI s.u.item,pI s.u.n,pI s.u.kind,.str s.u.label,.sl 4 SH,.sl 4 SW,.sl 8 SK,pI s.a,pI s.b]])::obE P A io,t+1⟩)) ?_ (fun _=>?_))
   ·rcases hq with hq|hq
    ·have g1:(s.u.kind != 1)=false:=by rw [hq];rfl
     refine rp1 [1,5,9,20,21,22,35] (x2 g1 qq) ?_;refine ⟨(),?_⟩;try simp only [vmL,Nat.reduceEqDiff,Nat.reduceAdd,Nat.reduceLT,Nat.reduceLeDiff,Nat.reduceSub,Nat.reduceMul,reduceIte,reduceCtorEq,Int.reduceToNat,qq]
     all_goals (repeat' (first|rfl|trivial|omega|(simp only [];omega)|refine And.intro ?_ ?_))
     exact HL.le_tail1 nodO offT _
    ·have g1:(s.u.kind != 1)=true:=by rw [hq];rfl
     have g2:(s.u.kind != 2)=false:=by rw [hq];rfl
     refine rp1 [1,5,9,20,21,22,35] (x3 g1 g2 qq) ?_;refine ⟨(),?_⟩;try simp only [vmL,Nat.reduceEqDiff,Nat.reduceAdd,Nat.reduceLT,Nat.reduceLeDiff,Nat.reduceSub,Nat.reduceMul,reduceIte,reduceCtorEq,Int.reduceToNat,qq]
     all_goals (repeat' (first|rfl|trivial|omega|(simp only [];omega)|refine And.intro ?_ ?_))
     exact HL.le_tail1 nodO offT _
   have hpne:=hne (hinf hq');refine Fp0 ?_;refine Rp1 [1,5,9,10,20,21,22] (x5 p0 p1 p2 p3 qq) ?_;refine Ap1 TI (x5 p0 p1 p2 p3 qq) ?_;refine Ap1 JN (x5 p0 p1 p2 p3 qq) ?_;refine Rp1 [1,5,9,10,11,20,21,22] qq ?_;refine Zaa ?_;refine Rp1 [1,5,9,10,11,20,21,22,41,42,43] (x2 hAl qq) ?_;refine Zab ?_;refine Zak (σ:={ x:Nat×Nat×Nat//x.1≤P.length∧t+1<x.2.1∧x.2.1<x.2.2 }) (fun x=>([(1,.sl 4 AE),(5,ovE A io),(9,.loc t 0 0),(10,.loc (t+1) 0 0),(11,pI (cumP P x.1.1)),(20,.sl 10 SR),(21,pI SL.length),(22,pI k),(41,.sl 4 AE),(42,pI P.length),(43,pI x.1.1)],⟨(t+1,.arr false 2 [[.str (titS s.u),pvE (Za1 P s x.1.1) x.1.2.1]])::(t,.arr false 10 [[pI s.u.act,pI s.u.item,pI s.u.n,pI s.u.kind,.str s.u.label,.sl 4 SH,.sl 4 SW,.sl 8 SK,pI s.a,pI s.b]])::(pbE (Za1 P s x.1.1) x.1.2.1++obE P A io),x.1.2.2⟩)) (fun x=>P.length-x.1.1) ⟨(0,t+2,t+3),Nat.zero_le _,by simp,by simp⟩ ?_ ?_ ?_
   ·refine Sp0 ?_;exact ⟨rfl,rfl⟩
   ·refine ⟨by show t+2≤t+3;omega,?_⟩;have e0:Za1 P s 0=[]:=rfl;simp only [e0,pvE,pbE,if_true,List.nil_append];refine ⟨?_,?_,?_⟩
    ·simp [Heap.get,HL.get]
    ·simp [Heap.get,HL.get,qq]
    ·exact HL.le_tail2 nodO (ob_off (by omega)) (ob_off (by omega)) _
   rintro ⟨⟨j,ip,n⟩,hj,hip,hin⟩;simp only [] at hj hip hin ⊢;have q0:=(tl_off (P:=P) (l:=A) (ps:=Za1 P s j) (show io≠t by omega) (show ip≠t by omega)).get;have q1:=(tl_off (P:=P) (l:=A) (ps:=Za1 P s j) (show io≠t by omega) (show ip≠t by omega)).del;have q2:=(tl_off (P:=P) (l:=A) (ps:=Za1 P s j) (show io≠t+1 by omega) (show ip≠t+1 by omega)).get;have q3:=(tl_off (P:=P) (l:=A) (ps:=Za1 P s j) (show io≠t+1 by omega) (show ip≠t+1 by omega)).del;have q4:=(tl_off (P:=P) (l:=A) (ps:=Za1 P s j) (show io≠n by omega) (show ip≠n by omega)).get;have q5:=(tl_off (P:=P) (l:=A) (ps:=Za1 P s j) (show io≠n by omega) (show ip≠n by omega)).del;have q6:=(tl_off (P:=P) (l:=A) (ps:=Za1 P s j) (show io≠n+1 by omega) (show ip≠n+1 by omega)).get;have q7:=(tl_off (P:=P) (l:=A) (ps:=Za1 P s j) (show io≠n+1 by omega) (show ip≠n+1 by omega)).del;have o1:Off (pbE (Za1 P s j) ip++obE P A io) (n+1):=tl_off (by omega) (by omega);have hcell:=tl_mem (P:=P) (l:=A) (io:=io) (ip:=ip) (ps:=Za1 P s j);have hnod:=tl_nod (P:=P) (l:=A) (ps:=Za1 P s j) (show ip≠io by omega);have ot:Off (pbE (Za1 P s j) ip++obE P A io) t:=tl_off (by omega) (by omega);have ot1:Off (pbE (Za1 P s j) ip++obE P A io) (t+1):=tl_off (by omega) (by omega);have on:Off (pbE (Za1 P s j) ip++obE P A io) n:=tl_off (by omega) (by omega);have qq:=N8 t (t+1) n (n+1) (n+1+1) (n+1+1+1) ip io;refine Rp1 [1,5,9,10,11,20,21,22,41,42,43,44] qq ?_;refine Zaa ?_;refine Zac rfl (fun h2=>?_) (fun h2=>?_)
   ·have ja:j<P.length:=by simp only [Zx3] at h2;omega
    have hrow:=hAg j ja;have hcs:=cumP_step ja;have hc1:=hcum (j+1);obtain ⟨l1,l2⟩:=hln j ja;have hWl:((P[j].map Ln.text).flatMap Zan).length≤200000000:=by have e:wds P[j]=(P[j].map Ln.text).flatMap Zan:=rfl;rw [← e];omega
    have WO:=sp_Words_one _ l1 l2 hWl;have hwe:wds P[j]=(P[j].map Ln.text).flatMap Zan:=rfl;rw [← hwe] at WO;unfold pageP Pg.enc at hrow;simp only [] at hrow;generalize headT u _ _=H at hrow;have hTr:((P[j].map Ln.text).map fun s=>[PV.str s])=strR (P[j].map Ln.text):=rfl;rw [hTr] at hrow;generalize ((P[j].flatMap Ln.notes).map fun s=>[PV.str s])=NE at hrow;generalize strR (P[j].map Ln.text)=TE at *;generalize wds P[j]=WJ at *;have hWr:=Za7 WJ;have hon:onP P s j=decide (max (cumP P j) s.a<min (cumP P (j+1)) s.b):=rfl;have hps:=pagesE_step P s j;have hpl:=pagesE_len P s j;generalize Za1 P s j=ps at *;have hps':=rfl (a:=Za1 P s (j+1));generalize hTL:pbE ps ip++obE P A io=TL at *;have wc:IntKind.i64.wrap ((cumP P j:Int)+(WJ.length:Int))=((cumP P (j+1):Nat):Int):=by rw [w64 (by omega) (by omega),hcs];omega
    refine Kp0 ?_;refine Zaa ?_;refine Zab ?_;refine Rp1 [1,5,9,10,11,13,20,21,22,41,42,43] (x5 hAl hrow q4 q5 qq) ?_;refine Ok ?_;refine Rp1 [1,5,9,10,11,13,14,20,21,22,41,42,43] (x5 q4 q5 q6 q7 qq) ?_;have CW:Zal Tryz.prog 21 [.own (n+1) 0 1] ⟨[(n+1,.arr false 4 [[pI 0,.str [],.sl 1 TE,.nilsl]])]++((n,.arr false 4 [[pI ((j+1:Nat):Int),.str H,.sl 1 TE,.sl 1 NE]])::(t+1,.arr false 2 [[.str (titS s.u),pvE ps ip]])::(t,.arr false 10 [[pI s.u.act,pI s.u.item,pI s.u.n,pI s.u.kind,.str s.u.label,.sl 4 SH,.sl 4 SW,.sl 8 SK,pI s.a,pI s.b]])::TL),n+1+1⟩ (fun p h'=>p=.sl 1 (strR WJ)∧h'=⟨(n,.arr false 4 [[pI ((j+1:Nat):Int),.str H,.sl 1 TE,.sl 1 NE]])::(t+1,.arr false 2 [[.str (titS s.u),pvE ps ip]])::(t,.arr false 10 [[pI s.u.act,pI s.u.item,pI s.u.n,pI s.u.kind,.str s.u.label,.sl 4 SH,.sl 4 SW,.sl 8 SK,pI s.a,pI s.b]])::TL,n+1+1⟩):=by
     refine Zal.frameL ?_ ?_ (ACall_f [.sl 4 [[pI 0,.str [],.sl 1 TE,.sl 1 []]]] ⟨?_,trivial⟩ (Zaq WO ⟨Nat.le_refl _,by simp,by simp,rfl,rfl⟩))
     ·intro q hq r hr;simp only [List.mem_singleton] at hr;subst hr;simp only [List.mem_cons] at hq;rcases hq with rfl|rfl|rfl|hq
      ·show n≠n+1;omega
      ·show t+1≠n+1;omega
      ·show t≠n+1;omega
      ·exact o1 q hq
     ·intro q hq fz z;simp only [List.mem_cons] at hq;rcases hq with rfl|rfl|rfl|hq
      ·simp
      ·simp
      ·simp
      ·exact hcell q hq fz z
     ·refine View.ownV (fz:=false) (es:=[[pI 0,.str [],.sl 1 TE,.nilsl]]) (by simp [Heap.get,HL.get]) (Nat.le_refl _) rfl (fun i hi=>?_) (fun i j hi hj=>?_)
      ·obtain rfl:i=0:=by omega
       rfl
      ·obtain rfl:i=0:=by omega
       obtain rfl|rfl|rfl|rfl:j=0∨j=1∨j=2∨j=3:=by omega
       ·exact View.refl _ _
       ·exact View.refl _ _
       ·exact View.refl _ _
       ·exact View.nil _ _
    refine Zal.mono CW ?_;rintro p h' ⟨rfl,rfl⟩;clear CW;refine Sp1 (x2 hWr qq) ?_;refine Zaa ?_;refine Rp1 [1,5,9,10,11,13,14,20,21,22,41,42,43,63] (x2 wc qq) ?_;have hcnd:decide ((if (s.a:Int)>(cumP P j:Int) then (s.a:Int) else (cumP P j:Int))<(if (s.b:Int)<(cumP P (j+1):Int) then (s.b:Int) else (cumP P (j+1):Int)))=onP P s j:=by
     rw [hon];refine decide_eq_decide.2 ?_;split<;>split<;>omega
    rw [hcnd];have hjw:IntKind.i64.wrap ((cumP P j:Int)+(WJ.length:Int))=((cumP P (j+1):Nat):Int):=wc;cases hb2:onP P s j with
    | false =>
     rw [hb2,if_neg Bool.false_ne_true] at hps;refine Fp0 ?_;refine rp1 [1,5,9,10,11,20,21,22,41,42,43] (x2 wc qq) ?_;refine rp1 [1,5,9,10,11,20,21,22,41,42,43] (x2 (ad1 (a:=j) (by omega)) qq) ?_;refine ⟨⟨(j+1,ip,n+2),ja,hip,by show ip<n+2;omega⟩,?_⟩;simp only [hps,hTL];try simp only [vmL,Nat.reduceEqDiff,Nat.reduceAdd,Nat.reduceLT,Nat.reduceLeDiff,Nat.reduceSub,Nat.reduceMul,reduceIte,reduceCtorEq,Int.reduceToNat,qq]
     all_goals (repeat' (first|rfl|trivial|omega|(simp only [];omega)|refine And.intro ?_ ?_))
     exact HL.le_tail (pre:=[(n,_),(t+1,_),(t,_)]) hnod (by intro p hp;simp only [List.mem_cons,List.not_mem_nil,or_false] at hp;rcases hp with rfl|rfl|rfl;exact on;exact ot1;exact ot) _
    | true =>
     rw [hb2,if_pos rfl] at hps;refine Ct ?_;by_cases hp0:ps=[]
     ·subst hp0;have hpv:pvE [] ip=.nilsl:=rfl;rw [show pbE [] ip=[] from rfl,List.nil_append] at hTL;subst hTL;refine rp1 [1,5,9,10,11,14,20,21,22,41,42,43] (x2 hpv qq) ?_;refine rp1 [1,5,9,10,11,20,21,22,41,42,43] (x2 wc qq) ?_;refine rp1 [1,5,9,10,11,20,21,22,41,42,43] (x2 (ad1 (a:=j) (by omega)) qq) ?_;refine ⟨⟨(j+1,n+3,n+4),ja,by show t+1<n+3;omega,by show n+3<n+4;omega⟩,?_⟩;simp only [hps,pv_app,pb_app];try simp only [vmL,Nat.reduceEqDiff,Nat.reduceAdd,Nat.reduceLT,Nat.reduceLeDiff,Nat.reduceSub,Nat.reduceMul,reduceIte,reduceCtorEq,Int.reduceToNat,qq]
      all_goals (repeat' (first|rfl|trivial|omega|(simp only [];omega)|refine And.intro ?_ ?_))
      rw [p3];exact HL.le_tail (pre:=[(n+1+1+1,_),(n+1+1,_),(n,_),(t+1,_),(t,_)]) nodO (by intro p hp;simp only [List.mem_cons,List.not_mem_nil,or_false] at hp;rcases hp with rfl|rfl|rfl|rfl|rfl<;>exact ob_off (by simp only [];omega)) _
     ·have hpv:pvE ps ip=.own ip 0 ps.length:=by unfold pvE;rw [if_neg hp0]
      have hpb:pbE ps ip=[(ip,.arr false 1 (intR ps))]:=by unfold pbE;rw [if_neg hp0]
      rw [hpb] at hTL;subst hTL;have i1:=intR_len ps;have i2:=intR_take ps;refine rp1 [1,5,9,10,11,14,20,21,22,41,42,43] (x4 hpv i1 i2 qq) ?_;refine ⟨by omega,by omega,?_⟩;refine rp1 [1,5,9,10,11,20,21,22,41,42,43] (x2 wc qq) ?_;refine rp1 [1,5,9,10,11,20,21,22,41,42,43] (x2 (ad1 (a:=j) (by omega)) qq) ?_;refine ⟨⟨(j+1,n+3,n+4),ja,by show t+1<n+3;omega,by show n+3<n+4;omega⟩,?_⟩;simp only [hps,pv_app,pb_app];try simp only [vmL,Nat.reduceEqDiff,Nat.reduceAdd,Nat.reduceLT,Nat.reduceLeDiff,Nat.reduceSub,Nat.reduceMul,reduceIte,reduceCtorEq,Int.reduceToNat,qq]
      all_goals (repeat' (first|rfl|trivial|omega|(simp only [];omega)|refine And.intro ?_ ?_))
      rw [ob_off (P:=P) (l:=A) (show io≠ip by omega) |>.del,p3];exact HL.le_tail (pre:=[(n+1+1+1,_),(n+1+1,_),(n,_),(t+1,_),(t,_)]) nodO (by intro p hp;simp only [List.mem_cons,List.not_mem_nil,or_false] at hp;rcases hp with rfl|rfl|rfl|rfl|rfl<;>exact ob_off (by simp only [];omega)) _
   ·have ja:j=P.length:=by simp only [Zx2] at h2;omega
    subst ja;have hpv:pvE (Za1 P s P.length) ip=.own ip 0 (Za1 P s P.length).length:=by unfold pvE;rw [if_neg hpne]
    have hpb:pbE (Za1 P s P.length) ip=[(ip,.arr false 1 (intR (Za1 P s P.length)))]:=by unfold pbE;rw [if_neg hpne]
    have hent:entR P s=[.str (titS s.u),.sl 1 (intR (Za1 P s P.length))]:=rfl;have oi:Off (obE P A io) ip:=ob_off (by omega);have on':Off (obE P A io) n:=ob_off (by omega);have on1:Off (obE P A io) (n+1):=ob_off (by omega);rw [hpv,hpb];have i1:=intR_len (Za1 P s P.length);clear q0 q1 q2 q3 q4 q5 q6 q7 o1 hcell hnod ot ot1 on;generalize Za1 P s P.length=ps at *;refine Ep0 ?_;refine VW_frz1 ip (t+1) 2 1 (intR ps) [[.str (titS s.u),.own ip 0 ps.length]] [[.str (titS s.u),.sl 1 (intR ps)]] (by simp [Heap.get,HL.get,qq]) (by simp [Heap.get,HL.get,qq]) (by omega) rfl (fun i=>by cases i<;>rfl) (fun i j=>by
     cases i with
     | zero=>cases j with
      | zero=>exact View.refl _ _
      | succ j=>cases j with
       | zero=>exact View.own_all (fz:=false) (by simp [Heap.get,HL.get]) (by rw [i1])
       | succ j=>exact View.refl _ _
     | succ i=>exact View.refl _ (PV.nth [] j)) ⟨(t+1,.arr false 2 [[.str (titS s.u),.sl 1 (intR ps)]])::(t,.arr false 10 [[pI s.u.act,pI s.u.item,pI s.u.n,pI s.u.kind,.str s.u.label,.sl 4 SH,.sl 4 SW,.sl 8 SK,pI s.a,pI s.b]])::obE P A io,n⟩ ?_ rfl ?_
    ·intro i;by_cases e1:i=t+1
     ·subst e1;simp [Heap.get,HL.get]
     ·have e3:¬ t+1=i:=fun h=>e1 h.symm;by_cases e2:i=ip
      ·subst e2;simp [Heap.get,HL.get,qq,oi.get]
      ·have e4:¬ ip=i:=fun h=>e2 h.symm;simp only [Heap.get,HL.get,e1,e2,e3,e4,if_true,if_false,List.cons_append,List.nil_append]
    by_cases hA0:A=[]
    ·subst hA0;have hov:ovE [] io=.nilsl:=rfl;have hob:obE P [] io=[]:=rfl;rw [hov,hob];refine rp1 [1,5,20,21,22] qq ?_;refine rp1 [1,5,20,21,22] (x2 (ad1 (a:=k) (by omega)) qq) ?_;refine ⟨⟨(k+1,n+1,n+2),ka,by show n+1<n+2;omega⟩,?_⟩;simp only [hst,ov_app,ob_app,hent]
     all_goals exact Fn1 qq
    ·have hov:ovE A io=.own io 0 A.length:=by unfold ovE;rw [if_neg hA0]
     have hob:obE P A io=[(io,.arr false 2 (A.map (entR P)))]:=by unfold obE;rw [if_neg hA0]
     have hl2:(A.map (entR P)).length=A.length:=List.length_map _;have ht2:List.take A.length (A.map (entR P))=A.map (entR P):=List.take_of_length_le (by omega);rw [hov,hob];generalize hAR:A.map (entR P)=AR at *;refine rp1 [1,5,20,21,22] (x3 hl2 ht2 qq) ?_;refine ⟨by omega,by omega,?_⟩;refine rp1 [1,5,20,21,22] (x2 (ad1 (a:=k) (by omega)) qq) ?_;refine ⟨⟨(k+1,n+1,n+2),ka,by show n+1<n+2;omega⟩,?_⟩;simp only [hst,ov_app,ob_app,hent,hAR]
     all_goals exact Fn1 qq
  ·have hq' : secB s.u = false := by
    rw [hsb];have h1:¬ s.u.kind=1:=fun h=>hq (.inl h);have h2:¬ s.u.kind=2:=fun h=>hq (.inr h);simp [h1,h2]
   rw [hq',if_neg Bool.false_ne_true] at hst;have g1:(s.u.kind != 1)=true:=by
    rw [bne_iff_ne];exact fun h=>hq (.inl h)
   refine Zaa (Zae [1,5,9,20,21,22,35] ?_);have g2:(s.u.kind != 2)=true:=by
    rw [bne_iff_ne];exact fun h=>hq (.inr h)
   refine Sp1 (x3 g1 g2 qq) ?_;refine Ct ?_;refine Ep0 ?_;refine rp1 [1,5,20,21,22] (x2 (ad1 (a:=k) (by omega)) qq) ?_;refine ⟨⟨(k+1,io,t+1),ka,by show io<t+1;omega⟩,?_⟩;simp only [hst];try simp only [vmL,Nat.reduceEqDiff,Nat.reduceAdd,Nat.reduceLT,Nat.reduceLeDiff,Nat.reduceSub,Nat.reduceMul,reduceIte,reduceCtorEq,Int.reduceToNat,qq]
   all_goals (repeat' (first|rfl|trivial|omega|(simp only [];omega)|refine And.intro ?_ ?_))
   exact HL.le_tail1 nodO offT _
 ·have ka:k=SL.length:=by simp only [Zx2] at h1;omega
  subst ka;rw [List.take_length];refine Ep0 ?_;refine Rp0 [4] ?_;refine Tp0 ?_;generalize filS SL=A;unfold ovE obE;split
  ·rename_i h;subst h;exact View.nil _ _
  ·exact View.own_all (fz:=false) (by simp [Heap.get,HL.get]) (by rw [List.length_map])
end Go.Proofs.w
namespace Go.VM
open Go Go.Proofs.w
theorem cut_first:∀ (m cur r:Str),(∀ b∈m,b≠32)→cutF cur (m++32::r)=(cur++m)::cutF [] r
 | [],cur,r,_=>by rw [List.nil_append,cutF_cons,if_pos rfl,List.append_nil]
 | b::m,cur,r,h=>by
  rw [List.cons_append,cutF_cons,if_neg (h b List.mem_cons_self),cut_first m (cur++[b]) r fun x hx=>h x (Zx7 _ hx)];simp
theorem cut_title {u:Un} (h:secB u=true):∃ R,cutF [] (titS u)=Zcm u.kind::R:=by
 have hk:0≤u.kind∧u.kind≤7:=by
  unfold secB at h;simp only [Bool.or_eq_true,beq_iff_eq] at h;omega
 have hg:=(nameK_good hk.1 hk.2).2;unfold titS titleT;rw [join_two];have e:Zcm u.kind++[32]++Lib.join (u.label::u.head.map fun w=>w.text) [32]=Zcm u.kind++32::Lib.join (u.label::u.head.map fun w=>w.text) [32]:=by simp
 rw [e,cut_first _ _ _ hg];exact ⟨_,rfl⟩
theorem titS_ne (u:Un):titS u≠[]:=by
 unfold titS titleT;rw [join_two];simp
def startsB (k s:Str):Bool:=decide (k.length≤s.length)&&(s.take k.length==k)
theorem starts_pre (k q:Str):startsB k (k++q)=true:=by
 unfold startsB;rw [Zx5,List.take_left];simp
theorem any_step {l:List Str} {j:Nat} (h:j<l.length) (k:Str):(l.take (j+1)).any (startsB k)=((l.take j).any (startsB k)||startsB k l[j]):=by
 rw [List.take_succ_eq_append_getElem h,List.any_append];simp
def cntU (L:List Un) (k:Nat):Nat:=(((L.take k).drop 1).filter secB).length
theorem cntU_step {L:List Un} {k:Nat} (h:k<L.length):cntU L (k+1)=cntU L k+(if (decide (0<k)&&secB L[k])=true then 1 else 0):=by
 unfold cntU;rw [List.take_succ_eq_append_getElem h];by_cases h0:k=0
 ·subst h0;simp
 ·have hl:(L.take k).length=k:=by rw [List.length_take];omega
  rw [List.drop_append_of_le_length (by omega),List.filter_append,Zx5];have h1:decide (0<k)=true:=decide_eq_true (by omega);rw [h1,Bool.true_and];cases hs:secB L[k] with
  | true=>rw [List.filter_cons_of_pos hs];rfl
  | false=>rw [List.filter_cons_of_neg (by rw [hs];exact Bool.false_ne_true)];rfl
theorem cntU_le (L:List Un) (k:Nat):cntU L k≤k:=by
 unfold cntU;refine Nat.le_trans (List.length_filter_le _ _) ?_;rw [List.length_drop,List.length_take];omega
structure SecE (P : List (List Ln)) (s : Sch) (c n : Nat) : Prop where
 len : (Za1 P s P.length).length = n + 1
 at' : ∀ j, j < n + 1 → (Za1 P s P.length)[j]? = some ((c + j + 1 : Nat) : Int)
 last : c + n < P.length
theorem secE {P:List (List Ln)} {s:Sch} {c n:Nat} (h:pgsOf P s P.length=List.range' c (n+1)) (hl:c+n<P.length):SecE P s c n:=by
 refine ⟨?_,fun j hj=>?_,hl⟩
 ·unfold Za1;rw [h];simp
 ·unfold Za1;rw [h,List.getElem?_map,List.getElem?_range' (by omega)];simp
theorem cum_bound {P:List (List Ln)} {w:Nat} (h:∀ x∈P.flatten,x.text.length≤w) (k:Nat):cumP P k≤P.flatten.length*w:=by
 have h1:=cumP_mono (P:=P) P.length;have h2:cumP P P.length≤P.flatten.length*w:=by
  unfold cumP;rw [List.take_length,bodyW_eq];have:=fl_bound (w:=w) (P.flatten.map Ln.text) (by
   intro s hs;obtain ⟨x,hx,rfl⟩:=List.mem_map.1 hs;exact h x hx)
  rw [List.length_map] at this;exact this
 rcases Nat.le_total k P.length with hk|hk
 ·exact Nat.le_trans (h1 k hk) h2
 ·have e : cumP P k = cumP P P.length := by
   unfold cumP;rw [List.take_of_length_le hk,List.take_length]
  rw [e];exact h2
end Go.VM
namespace Go.Proofs.w
open Go Go.RowKit Go.Shelf Go.Sort
set_option maxRecDepth 100000
attribute [local go_sem] Oper.semAt_some
def upto {α:Type} (f:Nat→α) (k:Nat):List α:=(List.range k).map f
theorem upto_succ {α:Type} (f:Nat→α) (k:Nat):upto f (k+1)=upto f k++[f k]:=by simp [upto,List.range_succ]
theorem upto_length {α:Type} (f:Nat→α) (k:Nat):(upto f k).length=k:=by simp [upto]
theorem upto_all (zs:List Int):upto (fun j=>zs[j]?.getD 0) zs.length=zs:=by
 apply List.ext_getElem
 ·simp [upto]
 ·intro i h1 h2;simp [upto,h2]
theorem upto_take (zs:List Int) {k:Nat} (hk:k≤zs.length):upto (fun j=>zs[j]?.getD 0) k=zs.take k:=by
 apply List.ext_getElem
 ·simp [upto,hk]
 ·intro i h1 h2;have:i<zs.length:=by simp [upto] at h1;omega
  simp [upto,this]
set_option maxHeartbeats 2000000 in
theorem values1_in (F : Fence) (n : Nat) (h7 : F.fn 195) (hro : F.round = none) (hn : 1 ≤ n) (l Bs n₀ b off len cap : Nat) (zs : List Int) (hreach : len * 8 ≤ 140737488351232) (hb : b < n₀) (J Jx : List Int → World → Prop)
  (hY:∀ pre x W,J pre W→pre.length<len→YieldAt F (n-1) Tryz.prog l #[.int .i64 x] W fun e W' =>
   (e=.returned (.bool true)∧J (pre++[x]) W'∧Below n₀ W W')∨(e=.returned (.bool false)∧Jx (pre++[x]) W'))
  (W:World) (hBs:W.cell? ⟨Bs,0,none⟩=some (.slice (some ⟨b,off,none⟩) len cap)) (hc:∀ j,j<len→W.cell? ⟨b,off+j,none⟩=some (.int .i64 (zs[j]?.getD 0))) (h0:J [] W) :
  CallsIn F n Tryz.prog 195 #[.func (.yield l) #[] #[],.pointer (some ⟨Bs,0,none⟩)] W fun e W'=>(∃ v,e=.returned v) ∧
   ((∃ ys,ys=upto (fun j=>zs[j]?.getD 0) len∧J ys W')∨(∃ pre,(∃ k,k≤len∧pre=upto (fun j=>zs[j]?.getD 0) k)∧Jx pre W')):=by
 refine callsIn_of_wp Tryz.func195 rfl h7 ?_ hro;simp only [Tryz.ntmps195,List.size_toArray,List.length_cons,List.length_nil,Nat.reduceAdd,Nat.reduceSub,Array.replicate_succ,Array.replicate_zero,List.push_toArray,List.append_toArray,List.nil_append,List.cons_append]
 gi_wp2
 gi_loopw [7] (fun i wr=>∃ k:Nat,k≤len∧i=.int .i64 k∧J (upto (fun j=>zs[j]?.getD 0) k) wr∧Below n₀ W wr)
  (fun i _=>len-(intOf i).toNat)
 case atStart=>exact ⟨0,Nat.zero_le _,rfl,h0,Below.refl _ _⟩
 case round =>
  obtain ⟨k,hk,rfl,hJs,hnx⟩:=hrel;have hcx:k<len→wr.cell? ⟨b,off+k,none⟩=some (.int .i64 (zs[k]?.getD 0)):=fun h=>(hnx.cell (p:=⟨b,off+k,none⟩) hb).trans (hc k h);by_cases hlt:k<len
  ·obtain ⟨fn,tmps,assign,body,hy,hR⟩:=hY _ (zs[k]?.getD 0) wr hJs (by rw [upto_length];exact hlt);have hcx':=hcx hlt
   gi_wp2
   refine hR.mono ?_;rintro e W3 (⟨rfl,hJ3,hk3⟩|⟨rfl,hJx3⟩)
   ·gi_wp2
    go_roundw
    case rel=>exact ⟨k+1,by omega,by simp,by rw [upto_succ];exact hJ3,hnx.trans hk3⟩
    case measure=>simp [intOf];omega
   ·gi_wp2
    refine bodyPost_ret (results_none rfl _ _ _) rfl ?_;exact ⟨⟨_,rfl⟩,.inr ⟨_,⟨k+1,by omega,(upto_succ _ _).symm⟩,hJx3⟩⟩
  ·obtain rfl:k=len:=by omega
   gi_wp2
   go_end0
   exact ⟨⟨_,rfl⟩,.inl ⟨_,rfl,hJs⟩⟩
def IntsAt (n₀:Nat) (W:World) (sv:Value) (zs:List Int):Prop :=
 (∃ a cap,sv=.slice a 0 cap∧zs=[])∨∃ b off cap,sv=.slice (some ⟨b,off,none⟩) zs.length cap∧b<n₀∧∀ j,j<zs.length→W.cell? ⟨b,off+j,none⟩=some (.int .i64 (zs[j]?.getD 0))
theorem IntsAt.below {n₀:Nat} {A B:World} (h:Below n₀ A B) {sv:Value} {zs:List Int}:IntsAt n₀ A sv zs→IntsAt n₀ B sv zs
 | .inl e=>.inl e
 | .inr ⟨b,off,cap,e,hb,hc⟩=>.inr ⟨b,off,cap,e,hb,fun j hj=>(h.cell (p:=⟨b,off+j,none⟩) hb).trans (hc j hj)⟩
set_option maxHeartbeats 1000000 in
theorem values1_nil_in (F : Fence) (n : Nat) (h7 : F.fn 195) (hro : F.round = none) (l Bs : Nat) (a : Option Addr) (cap : Nat) (J : List Int → World → Prop) (W : World) (hBs : W.cell? ⟨Bs, 0, none⟩ = some (.slice a 0 cap)) (h0 : J [] W) :
  CallsIn F n Tryz.prog 195 #[.func (.yield l) #[] #[],.pointer (some ⟨Bs,0,none⟩)] W fun e W'=>(∃ v,e=.returned v)∧J [] W':=by
 refine callsIn_of_wp Tryz.func195 rfl h7 ?_ hro;simp only [Tryz.ntmps195,List.size_toArray,List.length_cons,List.length_nil,Nat.reduceAdd,Nat.reduceSub,Array.replicate_succ,Array.replicate_zero,List.push_toArray,List.append_toArray,List.nil_append,List.cons_append]
 gi_wp2
 gi_loopw [7] (fun i wr=>i=.int .i64 0∧J [] wr) (fun _ _=>0)
 case atStart=>exact ⟨rfl,h0⟩
 case round =>
  obtain ⟨rfl,hJs⟩:=hrel
  gi_wp2
  go_end0
  exact ⟨⟨_,rfl⟩,hJs⟩
set_option maxHeartbeats 1000000 in
theorem values_in (F : Fence) (n : Nat) (h5 : F.fn 157) (hro : F.round = none) (a : Option Addr) (len cap : Nat) (w : World) :
  CallsIn F n Tryz.prog 157 #[.slice a len cap] w fun e w'=>e=.returned (.func (.func 195) #[] #[.pointer (some ⟨w.heap.size,0,none⟩)])∧w'=w.alloc (.cells #[.slice a len cap] 60):=by
 refine callsIn_of_wp Tryz.func157 rfl h5 ?_ hro;simp only [Tryz.ntmps157,List.size_toArray,List.length_cons,List.length_nil,Nat.reduceAdd,Nat.reduceSub,Array.replicate_succ,Array.replicate_zero,List.push_toArray,List.append_toArray,List.nil_append,List.cons_append]
 gi_wp2
 go_ret
 exact ⟨rfl,rfl⟩
theorem values_stops (F : Fence) (n : Nat) (h7 : F.fn 195) (hro : F.round = none) (hn : 1 ≤ n) (Bs n₀ : Nat) (sv : Value) (zs : List Int) (hreach : zs.length * 8 ≤ 140737488351232) (w : World) (hBs : Bs < w.heap.size) (hn₀ : n₀ ≤ w.heap.size)
  (hc:w.cell? ⟨Bs,0,none⟩=some sv) (hI:IntsAt n₀ w sv zs) :
  SeqStopsK F n Tryz.prog 195 #[.pointer (some ⟨Bs,0,none⟩)] (fun x:Int=>#[Value.int .i64 x]) (Below n₀) (fun ys=>ys=zs) (fun pre=>pre <+: zs) zs.length w:=fun l J Jx W hW _ _ hY h0=>by
 have hc':=(hW.cell (p:=⟨Bs,0,none⟩) hBs).trans hc;rcases hI.below (hW.mono hn₀) with ⟨a,cap,rfl,rfl⟩|⟨b,off,cap,rfl,hb,hcs⟩
 ·exact (values1_nil_in F n h7 hro l Bs a cap J W hc' h0).mono fun e W' ⟨he,hj⟩=>⟨he,.inl ⟨_,rfl,hj⟩⟩
 ·refine (values1_in F n h7 hro hn l Bs n₀ b off zs.length cap zs hreach hb J Jx hY W hc' hcs h0).mono ?_;rintro e W' ⟨he,⟨ys,rfl,hj⟩|⟨pre,⟨k,hk,rfl⟩,hj⟩⟩
  ·exact ⟨he,.inl ⟨_,upto_all zs,hj⟩⟩
  ·exact ⟨he,.inr ⟨_,by rw [upto_take zs hk];exact List.take_prefix _ _,hj⟩⟩
set_option maxRecDepth 100000
attribute [local go_sem] Oper.semAt_some
theorem infoI:(Tryz.prog.info? 3).map (fun i=>(i.zero,i.size,i.bytes))=some (some (.int .i64 0),1,8):=by kernel_rfl
set_option maxHeartbeats 4000000 in
theorem appendSeq_in (F : Fence) (n : Nat) (h1 : F.fn 221) (hro : F.round = none) (hn : 2 ≤ n) (g : Nat) (lb : Array Value) (hFg : F.fn g) (eg : ∀ args w, (callFunc g args).run Tryz.prog w = .ok (.enter g args) w)
  (S Sp:List Int→Prop) (N:Nat) (hN:N≤maxLen) (hNb:N*8≤140737488355328) (hS:∀ l,S l→l.length≤N) (w:World) (hseq:SeqStopsK F (n-1) Tryz.prog g lb (fun x:Int=>#[Value.int .i64 x]) (Below w.heap.size) S Sp N w) :
  CallsIn F n Tryz.prog 221 #[.slice none 0 0,.func (.func g) #[] lb] w fun e w'=>∃ (v:Value) (ss:List Int),e=.returned v∧S ss∧w'.ownsRow w.heap.size 3 1 v ss.length (ss.map (Value.int .i64))∧(v=.slice none 0 0↔ss=[])∧Below w.heap.size w w':=by
 have h1':1≤n:=by omega
 obtain ⟨i0,hi,hz0,hz1,hz2⟩:=info_parts infoI;refine callsIn_of_wp_marks Tryz.func221 rfl h1 ?_ hro;simp only [Tryz.ntmps221,List.size_toArray,List.length_cons,List.length_nil,Nat.reduceAdd,Nat.reduceSub,Array.replicate_succ,Array.replicate_zero,List.push_toArray,List.append_toArray,List.nil_append,List.cons_append]
 gi_wp2
 have bO:=Boxed.new w 60 (.slice none 0 0);have hB0:Below w.heap.size w (w.alloc (.cells #[.slice none 0 0] 60)):=(Below.refl _ w).alloc (Nat.le_refl _) _;refine wpIn_rangeFunc_ownG hro h1' (gf:=g) (lb:=lb) rfl hFg eg hseq belowK_t (belowK_b (by simp)) hB0 (fun _=>rfl)
  (fun pre W=>(∃ v,Boxed W w.heap.size 60 v∧W.ownsRow w.heap.size 3 1 v pre.length (pre.map (Value.int .i64))∧(v=.slice none 0 0↔pre=[]))∧Below w.heap.size w W)
  (fun _ _ _=>False)
  (OwnFrom.and (Own.from (holdsRow_own w.heap.size w.heap.size 60 3 1 (fun pre=>pre.length) (fun pre=>pre.map (Value.int .i64)) (fun pre v=>v=.slice none 0 0↔pre=[])) _) (ownFrom_below (Nat.le_refl _) (by simp)))
  (fun _ _ _ _ _ hs _ _=>hs)
  ⟨⟨_,bO,World.ownsRow_nil _ _ _ _,by simp⟩,hB0⟩
  (fun x=>{ tmps:=#[.slice none 0 0,.func (.func g) #[] lb,.pointer (some ⟨w.heap.size,0,none⟩),undef,.slice none 0 0,.int .i64 x,.func (.func g) #[] lb,.int .i64 x,undef,undef,undef,undef,undef],defers:=[] }) ?assign ?body ?done ?stop
 case assign =>
  intro l x W K hK
  gi_wp2
  exact hK
 case body =>
  rintro l pre x W ⟨⟨v,hv,hrow,hnil⟩,hB⟩ hlt;have hc:=hv.cell
  gi_wp2_with (gi_at_builtin;refine wpListIn_append_own _ rfl _ _ 60 rfl w.heap.size 3 i0 (.int .i64 0) 1 8 Tryz.underlying60 hi hz0 hz1 hz2 rfl (by decide) _ _ _ rfl (hrow.alloc _) ⟨W.heap.size,0,none⟩ 1 1 [.int .i64 x] rfl rfl (cell_one_new _ _ _) (by simp [Value.oneCell']) (by omega) (by omega) (by have:=hB.size;simp;omega) ?_;intro v' w1 hown' hgrow _;obtain ⟨g',cap',rfl⟩:=ownsRow_succ hown';obtain ⟨hv1,hv2,hr2,hk2,hb2⟩:=hv.appended (by decide) hrow hB.size (Nat.le_refl _) hown' hgrow;have hc1:=hv1.cell;have hf1:=hv1.frozen)
  exact ⟨hk2.from _,hb2,⟨_,hv2,by simpa using hr2,by simp⟩,hB.trans hb2⟩
 case done =>
  rintro D ys W hD hS ⟨⟨v,hv,hrow,hnil⟩,hB⟩ hK;have hc:=hv.cell
  gi_wp2
  refine ⟨by simp,.inl ⟨_,_,rfl,run_takeDeferred hK,?_⟩⟩;exact ⟨_,results_tmp rfl _ _ _,v,ys,rfl,hS,ownsRow_putObj hrow _ hK rfl,hnil,hB.trans (belowK_b (w:=w) (Nat.le_refl _) W D _ _ (by simp at hD;omega) hK rfl rfl)⟩
 case stop =>
  rintro D c pre W _ _ h _;exact h.elim
set_option maxHeartbeats 1000000 in
theorem collect_in (F : Fence) (n : Nat) (h8 : F.fn 193) (h11 : F.fn 221) (hro : F.round = none) (hn : 3 ≤ n) (g : Nat) (lb : Array Value) (hFg : F.fn g) (eg : ∀ args w, (callFunc g args).run Tryz.prog w = .ok (.enter g args) w)
  (S Sp:List Int→Prop) (N:Nat) (hN:N≤maxLen) (hNb:N*8≤140737488355328) (hS:∀ l,S l→l.length≤N) (w:World) (hseq:SeqStopsK F (n-1-1) Tryz.prog g lb (fun x:Int=>#[Value.int .i64 x]) (Below w.heap.size) S Sp N w) :
  CallsIn F n Tryz.prog 193 #[.func (.func g) #[] lb] w fun e w'=>∃ (v:Value) (ss:List Int),e=.returned v∧S ss∧w'.ownsRow w.heap.size 3 1 v ss.length (ss.map (Value.int .i64))∧(v=.slice none 0 0↔ss=[])∧Below w.heap.size w w':=by
 have h1:1≤n:=by omega
 refine callsIn_of_wp Tryz.func193 rfl h8 ?_ hro;simp only [Tryz.ntmps193,List.size_toArray,List.length_cons,List.length_nil,Nat.reduceAdd,Nat.reduceSub,Array.replicate_succ,Array.replicate_zero,List.push_toArray,List.append_toArray,List.nil_append,List.cons_append]
 gi_wp2_with (gi_at_call 221;refine (appendSeq_in F (n-1) h11 hro (by omega) g lb hFg eg S Sp N hN hNb hS _ hseq).mono ?_;rintro e w' ⟨v,ss,rfl,hS,hrow,hnil,hb⟩)
 go_ret
 exact ⟨_,ss,rfl,hS,hrow,hnil,hb⟩
end Go.Proofs.w
namespace Go.VM
open Go
abbrev forever:Int:=1048577
def CanonF:Int→List Sp→Prop
 | _,[]=>True
 | b,s::r=>b<s.frm∧s.frm<s.to∧s.to≤forever∧CanonF s.to r
theorem CanonF.mono {b b':Int} (hb:b≤b'):∀ {l:List Sp},CanonF b' l→CanonF b l
 | [],_=>trivial
 | s::r,h=>⟨Int.lt_of_le_of_lt hb h.1,h.2⟩
def mergeS:List Sp→Sp→List Sp
 | [],x=>[x]
 | s::r,x=>if x.frm≤s.to then ⟨s.frm,if s.to<x.to then x.to else s.to⟩::r else x::s::r
def accS (ss:List Sp) (i:Nat):List Sp:=(ss.take i).foldl mergeS []
def mergeAll (ss:List Sp):List Sp:=(ss.foldl mergeS []).reverse
structure MS (ss : List Sp) (i : Nat) (rows : List Sp) (n : Nat) : Prop where
 len : rows.length = ss.length
 le : n ≤ i
 le2 : i ≤ ss.length
 cnt : n = (accS ss i).length
 tk : rows.take n = (accS ss i).reverse
 dr : rows.drop i = ss.drop i
theorem MS.get {ss rows:List Sp} {i n:Nat} (h:MS ss i rows n) (hi:i<ss.length):rows[i]?=some ss[i]:=by
 have e:(rows.drop i)[0]?=(ss.drop i)[0]?:=by rw [h.dr]
 rw [List.getElem?_drop,List.getElem?_drop] at e;exact e.trans (List.getElem?_eq_getElem hi)
theorem accS_succ {ss:List Sp} {i:Nat} (hi:i<ss.length):accS ss (i+1)=mergeS (accS ss i) ss[i]:=by
 unfold accS;rw [List.take_add_one,List.getElem?_eq_getElem hi,List.foldl_append];rfl
theorem drop_of_set {α:Type} {l m:List α} {i k:Nat} {x:α} (h:l.drop i=m.drop i) (hk:k≤i):(l.set k x).drop (i+1)=m.drop (i+1):=by
 rw [List.drop_set_of_lt (by omega)];have:=congrArg (List.drop 1) h
 simpa [List.drop_drop] using this
theorem MS.top {ss rows:List Sp} {i n:Nat} (h:MS ss i rows (n+1)):∃ s r,accS ss i=s::r∧rows[n]?=some s∧r.length=n∧rows.take n=r.reverse:=by
 have h1:=h.cnt;have h2:=h.tk;cases ha:accS ss i with
 | nil=>rw [ha] at h1;cases h1
 | cons s r =>
  rw [ha] at h1 h2;have hr:r.length=n:=by simpa using h1.symm
  refine ⟨s,r,rfl,?_,hr,?_⟩
  ·have:=congrArg (fun l=>l[n]?) h2
   simpa [List.getElem?_take,hr] using this
  ·have:=congrArg (List.take n) h2;rw [List.take_take,Nat.min_eq_left (Nat.le_succ n)] at this;rw [this];simp [← hr]
theorem MS.join {ss rows : List Sp} {i n : Nat} (h : MS ss i rows (n + 1)) (hi : i < ss.length) (s : Sp) (hs : rows[n]? = some s) (hc : ss[i].frm ≤ s.to) :
  MS ss (i+1) (rows.set n ⟨s.frm,if s.to<ss[i].to then ss[i].to else s.to⟩) (n+1):=by
 obtain ⟨s',r,h1,h2,h3,h4⟩:=h.top;rw [h2] at hs;cases hs;have hn:=h.le;have hl:=h.len;have ha:accS ss (i+1)=⟨s.frm,if s.to<ss[i].to then ss[i].to else s.to⟩::r:=by rw [accS_succ hi,h1];simp [mergeS,hc]
 refine ⟨by simpa using hl,by omega,by omega,by rw [ha];simp [h3],?_,drop_of_set h.dr (by omega)⟩;rw [ha,List.take_add_one,List.take_set_of_le (Nat.le_refl _),h4];rw [List.getElem?_set_self (by omega)];simp
theorem MS.push {ss rows : List Sp} {i n : Nat} (h : MS ss i rows n) (hi : i < ss.length) (hc : ∀ m s, n = m + 1 → rows[m]? = some s → ¬ ss[i].frm ≤ s.to) :
  MS ss (i+1) (rows.set n ss[i]) (n+1):=by
 have hn:=h.le;have hl:=h.len;have ha:accS ss (i+1)=ss[i]::accS ss i:=by
  rw [accS_succ hi];cases n with
  | zero=>have:=h.cnt;rw [List.eq_nil_of_length_eq_zero this.symm];rfl
  | succ m =>
   obtain ⟨s,r,h1,h2,h3,h4⟩:=h.top;have:=hc m s rfl h2;rw [h1];simp [mergeS,this]
 refine ⟨by simpa using hl,by omega,by omega,by rw [ha];simp [← h.cnt],?_,drop_of_set h.dr hn⟩;rw [ha,List.take_add_one,List.take_set_of_le (Nat.le_refl _),h.tk,List.getElem?_set_self (by omega)];simp
theorem MS.fin {ss rows:List Sp} {n:Nat} (h:MS ss ss.length rows n):rows.take n=mergeAll ss:=by
 rw [h.tk];simp [accS,mergeAll]
def spOk (s:Sp):Prop:=0≤s.frm∧s.frm<s.to∧s.to≤forever
def RevC:List Sp→Prop
 | []=>True
 | [s]=>spOk s
 | s::t::r=>spOk s∧t.to<s.frm∧RevC (t::r)
theorem RevC.tail:∀ {s:Sp} {r:List Sp},RevC (s::r)→RevC r
 | _,[],_=>trivial
 | _,_::_,h=>h.2.2
theorem RevC.ok:∀ {s:Sp} {r:List Sp},RevC (s::r)→spOk s
 | _,[],h=>h
 | _,_::_,h=>h.1
theorem RevC.below:∀ {r:List Sp} {s:Sp},RevC (s::r)→∀ t∈r,t.to<s.frm
 | [],_,_,_,h=>by cases h
 | u::r,s,h,t,ht=>by
  rcases List.mem_cons.1 ht with rfl|ht
  ·exact h.2.1
  ·have:=RevC.below h.2.2 t ht;have:=h.2.1;have:=h.2.2.ok.2.1;omega
theorem get_bang {d:Array Int} {i:Nat} (h:i<d.size):d[i]! = d[i]:=getElem!_pos d i h
theorem compact_up {d:Array Int} (hs:∀ i j,i≤j→j<d.size→d[i]! ≤ d[j]!):∀ m,m≤d.size→(Lib.compactUpTo d m).Pairwise (·<·)∧∀ x,x∈Lib.compactUpTo d m↔∃ j,j<m∧d[j]! = x
  | 0,_=>⟨.nil,fun x=>⟨fun h=>(by cases h),fun ⟨j,hj,_⟩=>by cases hj⟩⟩
  | m+1,hm=>by
    obtain ⟨i1,i2⟩:=compact_up hs m (by omega);rw [Lib.compactUpTo_succ];have hmem:∀ x,(∃ j,j<m+1∧d[j]! = x)↔(∃ j,j<m∧d[j]! = x)∨d[m]! = x:=fun x=>by
      constructor
      · rintro ⟨j,hj,h⟩
        rcases Nat.lt_or_eq_of_le (Nat.le_of_lt_succ hj) with h1|rfl
        · exact .inl ⟨j,h1,h⟩
        · exact .inr h
      · rintro (⟨j,hj,h⟩|h)
        · exact ⟨j,by omega,h⟩
        · exact ⟨m,by omega,h⟩
    cases hk:Lib.keeps d m with
    | true =>
      simp only [Lib.keeps,Zx3] at hk;refine ⟨?_,fun x=>?_⟩
      · rw [if_pos rfl,List.pairwise_append]
        refine ⟨i1,List.pairwise_singleton _ _,fun a ha b hb=>?_⟩;rw [List.mem_singleton] at hb;subst hb;obtain ⟨j,hj,rfl⟩:=(i2 a).1 ha;rcases hk with rfl|hk
        · cases hj
        · have h1:=hs j (m-1) (by omega) (by omega)
          have h2:=hs (m-1) m (by omega) (by omega);omega
      · rw [if_pos rfl,List.mem_append,i2,List.mem_singleton,hmem,eq_comm (a:=x)]
    | false =>
      simp only [Lib.keeps,Zx2,not_or,Decidable.not_not] at hk;refine ⟨by simpa using i1,fun x=>?_⟩;rw [hmem];simp only [Bool.false_eq_true,if_false,List.append_nil,i2];constructor
      · exact .inl
      · rintro (h|h)
        · exact h
        · exact ⟨m-1,by omega,by rw [← hk.2];exact h⟩
theorem compact_sorted {zs:List Int} (hs:zs.Pairwise (·≤·)):(Lib.compact zs).Pairwise (·<·)∧∀ x,x∈Lib.compact zs↔x∈zs:=by
  have hs':∀ i j,i≤j→j<zs.toArray.size→zs.toArray[i]! ≤ zs.toArray[j]!:=fun i j hij hj=>by
    rw [get_bang (d:=zs.toArray) hj,get_bang (d:=zs.toArray) (Nat.lt_of_le_of_lt hij hj)];simp only [List.getElem_toArray];rcases Nat.lt_or_eq_of_le hij with h|rfl
    · exact List.pairwise_iff_getElem.1 hs i j _ _ h
    · exact Int.le_refl _
  obtain ⟨h1,h2⟩:=compact_up hs' zs.length (by simp);refine ⟨h1,fun x=>(h2 x).trans ?_⟩;constructor
  · rintro ⟨j,hj,rfl⟩
    rw [get_bang (d:=zs.toArray) (by simpa using hj)];simp
  · intro h
    obtain ⟨j,hj,rfl⟩:=List.mem_iff_getElem.1 h;exact ⟨j,hj,by rw [get_bang (d:=zs.toArray) (by simpa using hj)];simp⟩
end Go.VM
namespace Go.Proofs.w
open Go Go.VM
theorem lt_ext:∀ {l m:List Int},l.Pairwise (·<·)→m.Pairwise (·<·)→(∀ x,x∈l↔x∈m)→l=m
  | [],[],_,_,_=>rfl
  | [],b::m,_,_,h=>absurd ((h b).2 List.mem_cons_self) (by simp)
  | a::l,[],_,_,h=>absurd ((h a).1 List.mem_cons_self) (by simp)
  | a::l,b::m,h1,h2,h=>by
    rw [List.pairwise_cons] at h1 h2;have hab:a=b:=by
      rcases List.mem_cons.1 ((h a).1 List.mem_cons_self) with e|e
      · exact e
      · rcases List.mem_cons.1 ((h b).2 List.mem_cons_self) with e2|e2
        · exact e2.symm
        · have:=h1.1 b e2;have:=h2.1 a e;omega
    subst hab;rw [lt_ext h1.2 h2.2 fun x=>?_];constructor
    · intro hx
      rcases List.mem_cons.1 ((h x).1 (Zx7 _ hx)) with rfl|e
      · exact absurd (h1.1 _ hx) (by omega)
      · exact e
    · intro hx
      rcases List.mem_cons.1 ((h x).2 (Zx7 _ hx)) with rfl|e
      · exact absurd (h2.1 _ hx) (by omega)
      · exact e
def srtI (l:List Int):List Int:=l.mergeSort fun x y=>decide (x≤y)
theorem srtI_sorted (zs:List Int):(srtI zs).Pairwise (·≤·):=by
  have:=List.pairwise_mergeSort (le:=fun a b:Int=>decide (a≤b)) (fun a b c h1 h2=>by simp at *;omega) (fun a b=>by simp;omega) zs;exact this.imp (by simp)
def Zbv (l:List Int):List Int:=Lib.compact (srtI l)
theorem onceI_lt (l:List Int):(Zbv l).Pairwise (·<·):=(compact_sorted (srtI_sorted l)).1
theorem mem_onceI (l:List Int) (x:Int):x∈Zbv l↔x∈l:=((compact_sorted (srtI_sorted l)).2 x).trans (List.mergeSort_perm ..).mem_iff
theorem onceI_ext {l m:List Int} (h:∀ x,x∈l↔x∈m):Zbv l=Zbv m :=
 lt_ext (onceI_lt l) (onceI_lt m) fun x=>by rw [mem_onceI,mem_onceI,h]
theorem onceI_self {l:List Int} (h:l.Pairwise (·<·)):Zbv l=l:=lt_ext (onceI_lt l) h (mem_onceI l)
theorem onceI_len (l:List Int):(Zbv l).length≤l.length:=by
 have h:∀ (d:Array Int) (m:Nat),(Lib.compactUpTo d m).length≤m:=by
  intro d m;unfold Lib.compactUpTo;rw [List.length_map];exact Nat.le_trans (List.length_filter_le _ _) (by simp)
 unfold Zbv Lib.compact;exact Nat.le_trans (h _ _) (by simp [srtI])
def Zbo:Int→List Int→Nat
 | _,[]=>0
 | a,b::r=>if b=a+1 then Zbo b r+1 else 0
theorem runLen_le:∀ (l:List Int) (a:Int),Zbo a l≤l.length
 | [],_=>Nat.le_refl _
 | b::r,a=>by
  unfold Zbo;split
  ·have:=runLen_le r b;simp;omega
  ·simp
theorem runLen_at:∀ (l:List Int) (a:Int) (j:Nat) (h:j<Zbo a l),l[j]'(Nat.lt_of_lt_of_le h (runLen_le l a))=a+1+j
 | b::r,a,j,h=>by
  have h':=h;unfold Zbo at h';split at h'
  ·rename_i hb
   match j,h,h' with
   | 0,_,_=>simp [hb]
   | j+1,h,h' =>
    have:=runLen_at r b j (by omega);simp only [List.getElem_cons_succ,this];omega
  ·omega
theorem runLen_stop:∀ (l:List Int) (a:Int) (h:Zbo a l<l.length),l[Zbo a l]≠a+1+Zbo a l
 | b::r,a,h=>by
  by_cases hb:b=a+1
  ·have e:Zbo a (b::r)=Zbo b r+1:=if_pos hb;have ih:=runLen_stop r b (by rw [e] at h;simpa using h);simp only [e,List.getElem_cons_succ];omega
  ·have e:Zbo a (b::r)=0:=if_neg hb;simp only [e,List.getElem_cons_zero];omega
def toT:Str:=[32,116,111,32]
def runT (a:Int) (k:Nat):List Str:=if k=0 then [Lib.itoa a] else if k=1 then [Lib.itoa a,Lib.itoa (a+1)] else [Lib.itoa a++toT++Lib.itoa (a+k)]
def partsT:Nat→List Int→List Str
 | 0,_=>[]
 | _,[]=>[]
 | f+1,a::r=>runT a (Zbo a r)++partsT f (r.drop (Zbo a r))
theorem partsT_fuel:∀ (f g:Nat) (l:List Int),l.length≤f→l.length≤g→partsT f l=partsT g l
 | 0,0,_,_,_=>rfl
 | 0,_+1,[],_,_=>rfl
 | _+1,0,[],_,_=>rfl
 | _+1,_+1,[],_,_=>rfl
 | f+1,g+1,a::r,h1,h2=>by
  unfold partsT;rw [partsT_fuel f g _ (by simp at *;omega) (by simp at *;omega)]
def partsI (l:List Int):List Str:=partsT l.length l
theorem partsI_cons (a:Int) (r:List Int):partsI (a::r)=runT a (Zbo a r)++partsI (r.drop (Zbo a r)):=by
 unfold partsI;rw [List.length_cons,partsT,partsT_fuel r.length (r.drop (Zbo a r)).length _ (by simp) (Nat.le_refl _)]
theorem runT_len (a:Int) (k:Nat):(runT a k).length≤k+1:=by
 unfold runT;split
 ·simp
 ·split
  ·simp;omega
  ·simp
theorem partsT_len:∀ (f:Nat) (l:List Int),(partsT f l).length≤l.length
 | 0,l=>by simp [partsT]
 | _+1,[]=>by simp [partsT]
 | f+1,a::r=>by
  have h1:=runT_len a (Zbo a r);have h2:=partsT_len f (r.drop (Zbo a r));have h3:=runLen_le r a;simp only [partsT,Zx5,List.length_cons,List.length_drop] at *;omega
def sepT:Str:=[44,32]
def rangesS (l:List Int):Str:=Lib.join (partsI (Zbv l)) sepT
end Go.Proofs.w
namespace Go.Proofs.w
open Go Go.RowKit Go.Shelf Go.Sort Go.VM
set_option maxRecDepth 100000
theorem ints_cells {g:Gh} {w:World} {h:Heap} (r:Rel g w h) {v:Value} {l:List Int} (hv:Rep g v (.sl 1 (l.map fun x=>[pI x]))):IntsAt w.heap.size w v l:=by
 generalize hes:l.map (fun x=>[pI x])=es at hv;cases hv with
 | slE a cap z=>exact .inl ⟨a,cap,rfl,by simpa using hes⟩
 | sl b o len cap z a es vs ha hl hc hz hm hr =>
  subst hes;subst ha;have hlen:l.length=len:=by simpa using hl
  subst hlen;by_cases h0:l=[]
  ·subst h0;exact .inl ⟨_,_,rfl,rfl⟩
  ·have h1:0<l.length:=List.length_pos_iff.2 h0;have cell:∀ j,j<l.length→w.cell? ⟨b,o+j,none⟩=some (.int .i64 (l[j]?.getD 0)):=by
    intro j hj;have k1:=hm j 0 hj (by omega);have k2:=hr j 0 hj (by omega);have e:PV.nth (PV.row (l.map fun x=>[pI x]) j) 0=pI l[j]:=by simp [PV.row,PV.nth,Zx1,hj]
    rw [e] at k2;obtain hk:=k2.int_inv;have k3:=(r.mem _ _ _ k1).1;rw [hk] at k3
    simpa [hj] using k3
   refine .inr ⟨b,o,cap,rfl,?_,cell⟩;have:=cell 0 h1;rcases Nat.lt_or_ge b w.heap.size with h2|h2
   ·exact h2
   ·simp [World.cell?,Array.getElem?_eq_none h2] at this
set_option maxHeartbeats 4000000 in
theorem sorted_calls (g : Nat) (lb : Array Value) (eg : ∀ args w, (callFunc g args).run Tryz.prog w = .ok (.enter g args) w) (S Sp : List Int → Prop) (N : Nat) (hN : N ≤ 1000000) (hS : ∀ l, S l → l.length ≤ N) (w : World)
  (hseq:SeqStopsK Fence.wide 1 Tryz.prog g lb (fun x:Int=>#[Value.int .i64 x]) (Below w.heap.size) S Sp N w) :
  Calls Tryz.prog 156 #[.func (.func g) #[] lb] w fun e w'=>∃ (v:Value) (ss:List Int),e=.returned v∧S ss∧w'.ownsRow w.heap.size 3 1 v ss.length ((srtI ss).map (Value.int .i64))∧Below w.heap.size w w':=by
 have hm:N≤maxLen:=Nat.le_trans hN (by decide);have C:=fun w0 (h0:w0=w)=>(callsIn_wide (n:=3)).1 (collect_in Fence.wide 3 trivial trivial rfl (by omega) g lb trivial eg S Sp N hm (by omega) hS w hseq)
 go_enter Tryz.func156,Tryz.ntmps156
 go_wp2_with (go_at_call 193;refine (C _ rfl).mono ?_;rintro e W ⟨v,ss,rfl,hSs,hrow,hnil,hb⟩)
 rcases hrow.2 with ⟨rfl,hz⟩|⟨gb,cap,cur,rfl,hbase,hgb,r1,r2,r3,r4⟩
 ·have hss:ss=[]:=List.eq_nil_of_length_eq_zero hz;subst hss
  go_wp2_with (go_at_call 194;refine (Tryz.slices_Sort_int_none none 0 W).mono ?_;rintro e w' ⟨rfl,rfl⟩)
  go_ret
  exact ⟨.slice none 0 0,[],rfl,hSs,by simpa [srtI] using hrow,hb⟩
 ·have hH:Holds (Value.int .i64) W gb 0 ss.toArray:=holds_of_block_i hgb (by simpa using r4);have hgl:gb<W.heap.size:=(Array.getElem?_eq_some_iff.1 hgb).1;have hlen:=hS ss hSs;have cS:=Tryz.slices_Sort_int gb 0 cap ss W hH hgl (by omega)
  go_wp2_with (go_at_call 194;refine cS.mono ?_;rintro e w' ⟨rfl,nn,os,rfl⟩)
  go_ret
  exact ⟨_,ss,rfl,hSs,ownsRow_sorted_i (by simp [srtI]) hbase hgb r1 r2 r3,hb.grown (grownBy_sorted_i _) hb.size (fun j hj=>by cases hj;exact hbase)⟩
theorem putCells_at (c:Array Value) (d:Array Int) (j:Nat) (h:j<d.size) (hc:j<c.size):(putCells (Value.int .i64) 0 d c)[j]?=some (.int .i64 d[j]!):=by
 simp [putCells,h,hc]
set_option maxHeartbeats 4000000 in
theorem sp_concordance_once (l:List Int) (hl:l.length≤1000000):Zam Tryz.prog 97 [.sl 1 (l.map fun x=>[pI x])] (.sl 1 ((Zbv l).map fun x=>[pI x])):=by
 refine ⟨by kernel_rfl,by intro x hx;rw [List.mem_singleton] at hx;subst hx;exact closed_sc _,fun g w vals r ha=>?_⟩;obtain ⟨v0,rfl,hv⟩:=args_1 ha;have hI:=ints_cells r hv;have key:Calls Tryz.prog 97 #[v0] w fun e w'=>(e=.returned (.slice none 0 0)∧Zbv l=[]∧Below w.heap.size w w')∨(∃ gb cap cur,e=.returned (.slice (some ⟨gb,0,none⟩) (Zbv l).length cap)∧w.heap.size≤gb∧w'.heap[gb]?=some (.cells cur 3 (0,0))∧(Zbv l).length≤cap∧(∀ j,j<(Zbv l).length→cur[j]?=some (.int .i64 ((Zbv l).getD j 0)))∧Below w.heap.size w w'):=by
  have hsl:∃ a len cap,v0=.slice a len cap:=by
   rcases hI with ⟨a,cap,rfl,_⟩|⟨b,off,cap,rfl,_⟩
   ·exact ⟨_,_,_,rfl⟩
   ·exact ⟨_,_,_,rfl⟩
  obtain ⟨a,len,cap0,rfl⟩:=hsl;have CV:=fun w0=>(callsIn_wide (n:=1)).1 (values_in Fence.wide 1 trivial rfl a len cap0 w0);have CS:=fun w1 (hw:w1=w.alloc (.cells #[.slice a len cap0] 60)) =>
   sorted_calls 195 #[.pointer (some ⟨w.heap.size,0,none⟩)] (enters_of Tryz.func195 (by kernel_rfl) rfl) (fun ys=>ys=l) (fun pre=>pre <+: l) l.length hl (fun _ h=>by rw [h];exact Nat.le_refl _) w1
    (values_stops Fence.wide 1 trivial rfl (Nat.le_refl _) w.heap.size w1.heap.size (.slice a len cap0) l (by omega) w1 (by rw [hw];simp) (Nat.le_refl _) (by rw [hw];exact (Boxed.new w 60 (.slice a len cap0)).cell) (by
     have hb:Below w.heap.size w w1:=by rw [hw];exact (Below.refl _ w).alloc (Nat.le_refl _) _
     rcases hI.below hb with ⟨a',cap',e1,e2⟩|⟨b,off,cap',e1,hb',hc⟩
     ·exact .inl ⟨a',cap',e1,e2⟩
     ·exact .inr ⟨b,off,cap',e1,Nat.lt_of_lt_of_le hb' hb.size,hc⟩))
  have hb0:Below w.heap.size w (w.alloc (.cells #[.slice a len cap0] 60)):=(Below.refl _ w).alloc (Nat.le_refl _) _
  go_enter Tryz.func97,Tryz.ntmps97
  go_wp2_with (first
   |(go_at_call 157;refine (CV _).mono ?_;rintro e w1 ⟨rfl,rfl⟩)
   |(go_at_call 156;refine (CS _ rfl).mono ?_;rintro e w2 ⟨v,ss,rfl,rfl,hrow,hb2⟩))
  have hsz0:(w.alloc (.cells #[.slice a len cap0] 60)).heap.size=w.heap.size+1:=by simp
  have hb3:Below w.heap.size w w2:=hb0.trans (hb2.mono (by omega));rcases hrow.2 with ⟨rfl,hz⟩|⟨gb,cap,cur,rfl,hbase,hgb,r1,r2,r3,r4⟩
  ·have hss:ss=[]:=List.eq_nil_of_length_eq_zero hz;subst hss
   go_wp2_with (go_at_call 155;refine (Tryz.slices_Compact_int_empty none 0 w2).mono ?_;rintro e w3 ⟨rfl,rfl⟩)
   go_ret
   exact .inl ⟨rfl,List.eq_nil_of_length_eq_zero (by have:=onceI_len ([]:List Int);simpa using this),hb3⟩
  ·have hzl:(srtI ss).length=ss.length:=by simp [srtI]
   have hcl:=Lib.compact_length_le (srtI ss);have hH:Holds (Value.int .i64) w2 gb 0 (srtI ss).toArray:=holds_of_block_i hgb (by rw [hzl];simpa using r4);have cC:=Tryz.slices_Compact_int gb 0 cap (srtI ss) w2 hH (by omega) (by omega);rw [hzl] at cC;have hgo:Zbv ss=Lib.compact (srtI ss):=rfl;generalize hD:Lib.compact (srtI ss)++List.replicate (ss.length-(Lib.compact (srtI ss)).length) 0=Dz at cC;have hDl:Dz.length=ss.length:=by rw [← hD];simp;omega
   have hDg:∀ j,j<(Zbv ss).length→Dz.getD j 0=(Zbv ss).getD j 0:=fun j hj=>by
    rw [← hD,hgo,Zx1,Zx1,List.getElem?_append_left (by rw [hgo] at hj;exact hj)]
   go_wp2_with (go_at_call 155;refine cC.mono ?_;rintro e w3 ⟨rfl,q,rfl⟩)
   go_ret
   refine .inr ⟨gb,cap,putCells (Value.int .i64) 0 Dz.toArray cur,rfl,by omega,?_,by rw [hgo];omega,?_,?_⟩
   ·have:=heap_sorted_i (n:=q) (os:=#[]) Dz.toArray hgb;rw [grow_empty] at this;exact this
   ·intro j hj;have h1:j<Dz.length:=by rw [hDl];rw [hgo] at hj;omega
    rw [putCells_at _ _ j (by simpa using h1) (by omega),← hDg j hj];simp [h1]
   ·have:=grownBy_sorted_i (w:=w2) (g:=gb) (n:=q) (os:=#[]) Dz.toArray;rw [grow_empty] at this;exact hb3.grown this hb3.size (fun k e=>by cases e;omega)
 refine key.mono ?_;rintro e w' (⟨rfl,h0,hb⟩|⟨gb,cap,cur,rfl,h1,h2,h3,h4,hb⟩)
 ·rw [h0];exact ⟨_,g.m,rfl,.slE _ _ _,Zc2 r hb,hb⟩
 ·have hlen:((Zbv l).map (Value.int .i64)).length=(Zbv l).length:=by simp
  have hget:∀ j,j<(Zbv l).length→((Zbv l).map (Value.int .i64)).getD j Go.undef=.int .i64 ((Zbv l).getD j 0):=fun j hj=>by
   simp [Zx1,hj]
  obtain ⟨m', hr, hm⟩ := row_result r hb ((Zbv l).map (Value.int .i64)) ((Zbv l).map pI) (by simp) (fun j hj g => by
    rw [hlen] at hj;rw [hget j hj];have:PV.nth ((Zbv l).map pI) j=pI ((Zbv l).getD j 0):=by simp [PV.nth,Zx1,hj]
    rw [this];exact .int _ _) (fun j hj=>by rw [hlen] at hj;rw [hget j hj];rfl) h1 h2 (by rw [hlen];exact h3) (fun j hj=>by rw [hlen] at hj;rw [hget j hj];exact h4 j hj)
  rw [hlen,List.map_map] at hr;exact ⟨_,m',rfl,hr,hm,hb⟩
end Go.Proofs.w
namespace Go.Proofs.w
open Go Go.VM
def c_concordance_bare:VC:=(ZR [ZO 2 (.mv (.c (.str [])))] (ZR [ZM 3 0,ZO 4 (.call 152 [.t 3,(.c (.str [40]))]),ZO 5 (.call 151 [.t 4,(.c (.str [44,59,46,58,41]))]),ZM 2 5] .ret))
theorem known_pow:known.lookup 2=some (Lib.pow10Tab.map fun z=>Value.int .u64 z):=by kernel_rfl
theorem sp_strconv_Itoa (n:Int) (hn:i64 n):Zam Tryz.prog 98 [pI n] (.str (Lib.itoa n)):=by
 refine PCall_of (by kernel_rfl) (by intro x hx;rw [List.mem_singleton] at hx;subst hx;exact cI _) fun g w vals r ha=>?_;obtain ⟨v,rfl,hv⟩:=args_1 ha;obtain rfl:=hv.int_inv;rw [i64_iff] at hn;refine (Tryz.strconv_Itoa n (by omega) (by omega) w (var_known r known_pow (by kernel_rfl))).mono ?_;rintro e w' ⟨rfl,k,os,rfl⟩;exact ⟨_,rfl,fun g=>.str _ _ rfl,Lib.below_grow _ _ (Nat.le_refl _) _ _⟩
theorem sp_strings_Repeat (s:Str) (n:Nat) (hn:n≤1000000) (hs:s.length≤1000):Zam Tryz.prog 93 [.str s,pI n] (.str (Lib.repeatL s n)):=by
 refine PCall_of (by kernel_rfl) (by intro x hx;simp only [List.mem_cons,List.not_mem_nil,or_false] at hx;rcases hx with rfl|rfl;exact cS _;exact cI _) fun g w vals r ha=>?_;obtain ⟨v,u,rfl,hv,hu⟩:=args_2 ha;obtain ⟨z,rfl,hz⟩:=hv.str_inv;obtain rfl:=hu.int_inv;rw [str_eq hz];have hm:s.length*n≤1000*1000000:=Nat.mul_le_mul hs hn;refine (Tryz.strings_Repeat ⟨s.toArray⟩ n w (by omega) (by show s.toArray.size*n≤_;rw [List.size_toArray];omega)).mono ?_;rintro e w' ⟨rfl,hb⟩;exact ⟨_,rfl,fun g=>.str _ _ rfl,hb⟩
def behindT:Str:=[44,59,46,58,41]
theorem sp_strings_TrimLeft (s:Str):Zam Tryz.prog 152 [.str s,.str [40]] (.str (Lib.trimLeftB s 40)):=by
 refine PCall_of (by kernel_rfl) (by intro x hx;simp only [List.mem_cons,List.not_mem_nil,or_false] at hx;rcases hx with rfl|rfl<;>exact cS _) fun g w vals r ha=>?_;obtain ⟨v,u,rfl,hv,hu⟩:=args_2 ha;obtain ⟨z,rfl,hz⟩:=hv.str_inv;obtain ⟨y,rfl,hy⟩:=hu.str_inv;rw [str_eq hz,str_eq hy];refine (Tryz.strings_TrimLeft_one ⟨s.toArray⟩ 40 (by decide) w).mono ?_;rintro e w' ⟨rfl,rfl⟩;exact ⟨_,rfl,fun g=>.str _ _ rfl,RowKit.Below.refl _ _⟩
theorem sp_strings_TrimRight (s:Str) (hs:s.length≤1000000):Zam Tryz.prog 151 [.str s,.str behindT] (.str (Lib.trimRightS s behindT)):=by
 refine PCall_of (by kernel_rfl) (by intro x hx;simp only [List.mem_cons,List.not_mem_nil,or_false] at hx;rcases hx with rfl|rfl<;>exact cS _) fun g w vals r ha=>?_;obtain ⟨v,u,rfl,hv,hu⟩:=args_2 ha;obtain ⟨z,rfl,hz⟩:=hv.str_inv;obtain ⟨y,rfl,hy⟩:=hu.str_inv;rw [str_eq hz,str_eq hy];refine (Any.strings_TrimRight_laid Tryz.lays162 (by kernel_rfl) ⟨s.toArray⟩ ⟨behindT.toArray⟩ w (by show s.toArray.size≤_;rw [List.size_toArray];omega) (by decide) (ascii_of_all (by decide))).mono ?_;rintro e w' ⟨rfl,hb⟩;exact ⟨_,rfl,fun g=>.str _ _ rfl,hb⟩
def bareS (s:Str):Str:=Lib.trimRightS (Lib.trimLeftB s 40) behindT
theorem trimLeftB_len (s:Str) (c:UInt8):(Lib.trimLeftB s c).length≤s.length:=by
 unfold Lib.trimLeftB;exact (List.dropWhile_sublist _).length_le
theorem sp_concordance_bare (s:Str) (hs:s.length≤1000000):Zam Tryz.prog 94 [.str s] (.str (bareS s)):=by
 have h1:=trimLeftB_len s 40;refine Gp (vc:=c_concordance_bare) [.t 2] (cS _) Tryz.func94 ?_;unfold c_concordance_bare;try dsimp only [ZM,ZO,ZN,ZG,ZR,ZU]
 refine Rp0 [0] ?_;refine Rp0 [2] ?_;refine Ap0 (sp_strings_TrimLeft s) ?_;refine Ap0 (sp_strings_TrimRight _ (by omega)) ?_;exact Tv0
theorem itoa_len (n:Int) (h:i64 n):(Lib.itoa n).length≤20:=by
 rw [i64_iff] at h;have d:∀ (k:Nat) (u:Nat),u<10 ^ (k+1)→(Lib.decDigits u).length≤k+1:=by
  intro k
  induction k with
  | zero=>intro u hu;rw [Lib.decDigits,dif_pos (by omega)];simp
  | succ k ih =>
   intro u hu;rw [Lib.decDigits];split
   ·simp
   ·have:=ih (u / 10) (by rw [Nat.pow_succ] at hu;omega);simp;omega
 unfold Lib.itoa;split
 ·have:=d 18 n.natAbs (by simp;omega);simp;omega
 ·have:=d 18 n.toNat (by simp;omega);omega
def Zct:VC:=(ZR [ZO 2 (.mv (.c (.str [])))] (ZR [ZO 3 (.mv (.c .nilsl))] (ZR [ZM 9 0,ZO 10 (.call 97 [.t 9]),ZM 4 10] (.seq (ZR [ZO 5 (.mv (.c (.int .i64 0)))] (.block 0 (.loop (.seq (ZR [ZM 11 5,ZM 12 4,ZO 13 (.len false (.t 12)),ZO 14 (.bin .lss (.t 11) (.t 13))] (.cond (.t 14) .skip (.exit 0))) (.block 1 (ZR [ZM 15 5,ZO 16 (.bin .add (.t 15) (.c (.int .i64 1))),ZM 6 16] (.seq (.block 2 (.loop (.seq (.seq (.region [ZM 17 6,ZM 18 4,ZO 19 (.len false (.t 18)),ZO 20 (.bin .lss (.t 17) (.t 19)),ZM 21 20,ZG 22 (.mv (.t 4)) 21 true,ZG 23 (.mv (.t 6)) 21 true,ZG 24 (.iaddr 1 (.t 22) (.t 23)) 21 true,ZG 25 (.load false 1 (.t 24)) 21 true,ZG 26 (.mv (.t 4)) 21 true,ZG 27 (.mv (.t 6)) 21 true,ZG 28 (.bin .sub (.t 27) (.c (.int .i64 1))) 21 true,ZG 29 (.iaddr 1 (.t 26) (.t 28)) 21 true,ZG 30 (.load false 1 (.t 29)) 21 true,ZG 31 (.bin .add (.t 30) (.c (.int .i64 1))) 21 true,ZG 32 (.bin .eql (.t 25) (.t 31)) 21 true,ZO 33 (.pick (.t 21) (.t 32) (.c (.bool false)))] true) (.cond (.t 33) .skip (.exit 2))) (.block 3 (.region [ZM 34 6,ZO 35 (.bin .add (.t 34) (.c (.int .i64 1))),ZM 6 35] false))))) (.seq (.region [ZM 36 4,ZM 37 5,ZO 38 (.iaddr 1 (.t 36) (.t 37)),ZO 39 (.load false 1 (.t 38)),ZO 40 (.call 98 [.t 39]),ZM 41 4,ZM 42 6,ZO 43 (.bin .sub (.t 42) (.c (.int .i64 1))),ZO 44 (.iaddr 1 (.t 41) (.t 43)),ZO 45 (.load false 1 (.t 44)),ZO 46 (.call 98 [.t 45]),ZM 7 40,ZM 8 46] true) (.seq (ZR [ZM 47 6,ZM 48 5,ZO 49 (.bin .sub (.t 47) (.t 48))] (.block 4 (ZR [ZO 58 (.bin .eql (.t 49) (.c (.int .i64 1))),ZM 57 58] (.cond (.t 57) (.region [ZM 59 3,ZM 60 7,ZO 61 (.bslice 1 1 [(.str [])] [(0,(.t 60))]),ZO 62 (.app 1 16 [(.str [])] false (.t 59) (.t 61)),ZM 3 62] false) (ZR [ZO 64 (.bin .eql (.t 49) (.c (.int .i64 2))),ZM 63 64] (.cond (.t 63) (.region [ZM 65 3,ZM 66 7,ZM 67 8,ZO 68 (.bslice 1 2 [(.str [])] [(0,(.t 66)),(1,(.t 67))]),ZO 69 (.app 1 16 [(.str [])] false (.t 65) (.t 68)),ZM 3 69] false) (.region [ZM 50 3,ZM 51 7,ZO 52 (.bin .add (.t 51) (.c (.str [32,116,111,32]))),ZM 53 8,ZO 54 (.bin .add (.t 52) (.t 53)),ZO 55 (.bslice 1 1 [(.str [])] [(0,(.t 54))]),ZO 56 (.app 1 16 [(.str [])] false (.t 50) (.t 55)),ZM 3 56] false))))))) (.region [ZM 70 6,ZM 5 70] false)))))))))) (ZR [ZM 71 3,ZO 72 (.call 59 [.t 71,(.c (.str [44,32]))]),ZM 2 72] .ret)))))
theorem join_lenS (sep:Str) (m:Nat):∀ (l:List Str),(∀ s∈l,s.length≤m)→(Lib.join l sep).length≤l.length*(m+sep.length)
 | [],_=>by simp [Lib.join]
 | [x],h=>by
  have:=h x (by simp);rw [Lib.join_one];simp;omega
 | x::y::r,h=>by
  have ih:=join_lenS sep m (y::r) (fun s hs=>h s (Zx7 _ hs));have hx:=h x List.mem_cons_self;have e:Lib.join (x::y::r) sep=x++(sep++Lib.join (y::r) sep):=by simp [Lib.join,List.intercalate]
  rw [e,Zx5,Zx5,List.length_cons];rw [Nat.add_mul];omega
theorem run_step {l:List Int} {a:Int} {k:Nat} (h:k≤Zbo a l):k<Zbo a l↔∃ hk:k<l.length,l[k]=a+1+k:=by
 constructor
 ·intro h1;exact ⟨Nat.lt_of_lt_of_le h1 (runLen_le l a),runLen_at l a k h1⟩
 ·rintro ⟨hk,e⟩;rcases Nat.lt_or_eq_of_le h with h1|rfl
  ·exact h1
  ·exact absurd e (runLen_stop l a hk)
theorem runT_small (a:Int) (k:Nat) (h0:i64 a) (h1:i64 (a+1)) (h2:i64 (a+k)):∀ s∈runT a k,s.length≤44:=by
 have l0:=itoa_len a h0;have l1:=itoa_len _ h1;have l2:=itoa_len _ h2;intro s hs;unfold runT at hs;split at hs
 ·simp at hs;subst hs;omega
 ·split at hs
  ·simp at hs;rcases hs with rfl|rfl<;>omega
  ·simp at hs;subst hs;simp [toT];omega
theorem partsI_nil:partsI []=[]:=rfl
theorem Zck (l:List Int) (hl:l.length≤100000) (hi:∀ x∈l,i64 x):Zam Tryz.prog 57 [.sl 1 (l.map fun x=>[pI x])] (.str (rangesS l)):=by
 have hOnce:=sp_concordance_once l (by omega);have hAl:=onceI_len l;have hAlt:=onceI_lt l;have hAi:∀ x∈Zbv l,-9223372036854775808≤x∧x≤9223372036854775807:=fun x hx=>i64_iff.1 (hi x ((mem_onceI l x).1 hx));refine Gp (vc:=Zct) [.t 2] (cS _) Tryz.func57 ?_;unfold Zct;try dsimp only [ZM,ZO,ZN,ZG,ZR,ZU]
 refine Rp0 [0] ?_;refine Rp0 [0,3] ?_;refine Zcx 3 1 rfl ?_;refine Sp0 ?_;refine Rp0 [3,4] ?_;refine Zaq hOnce ?_;unfold rangesS;generalize Zbv l=A at hAl hAlt hAi ⊢;refine Sp0 ?_;refine Zaa ?_;refine Rp0 [3,4,5] ?_;refine Zab ?_;refine Zak (σ:={ s:(Nat×Nat×Nat)×List Str//s.1.1≤A.length∧s.1.2.1<s.1.2.2∧s.2++partsI (A.drop s.1.1)=partsI A∧s.2.length≤s.1.1∧∀ x∈s.2,x.length≤44 }) (fun s=>([(3,.own s.1.1.2.1 0 s.1.2.length),(4,.sl 1 (A.map fun x=>[pI x])),(5,pI s.1.1.1)],⟨[(s.1.1.2.1,.arr false 1 (strR s.1.2))],s.1.1.2.2⟩)) (fun s=>A.length-s.1.1.1) ⟨((0,0,1),[]),by simp⟩ ?_ ?_ ?_
 ·refine Sp0 ?_;rfl
 ·exact Sr0
 rintro ⟨⟨⟨k,id,n⟩,P⟩,hk,hid,hP,hPl,hPs⟩;simp only [] at hk hid hP hPl hPs ⊢;have qq:=N3 id n (n+1);refine Zaa ?_;refine Rp1 [3,4,5,14] @xlm ?_;refine Zac rfl (fun h1=>?_) (fun h1=>?_)
 ·simp only [Zx3] at h1;have ka:k<A.length:=by omega
  have hdrop:A.drop k=A[k]::A.drop (k+1):=List.drop_eq_getElem_cons ka;have hat:∀ j (hj:k+1+j<A.length),(A.drop (k+1))[j]'(by simp;omega)=A[k+1+j]:=fun j hj=>by simp
  refine Kp0 ?_;refine Zab ?_;refine Rp1 [3,4,5,6] (w64 (n:=(k:Int)+1) (by omega) (by omega)) ?_;have hRl:=runLen_le (A.drop (k+1)) A[k];rw [List.length_drop] at hRl;refine Zaa ?_;refine Zab ?_;refine Zak (σ:={ j:Nat//j≤Zbo A[k] (A.drop (k+1)) }) (fun s=>([(3,.own id 0 P.length),(4,.sl 1 (A.map fun x=>[pI x])),(5,pI k),(6,pI ((k+1+s.1:Nat):Int))],⟨[(id,.arr false 1 (strR P))],n⟩)) (fun s=>A.length-s.1) ⟨0,Nat.zero_le _⟩ ?_ ?_ ?_
  ·exact Fn1 qq
  ·exact Sc0
  rintro ⟨j,hj⟩;simp only [];have hst:=run_step hj;have cur:∃ hm:k+j<A.length,A[k+j]=A[k]+j:=by
   refine ⟨by omega,?_⟩;cases j with
   | zero=>simp
   | succ j =>
    have:=runLen_at _ _ j (Nat.lt_of_succ_le hj);rw [hat j (by omega)] at this;have e:k+(j+1)=k+1+j:=by omega
    simp only [e,this];omega
  obtain ⟨hm,hcur⟩:=cur;refine Zaa ?_;refine Zaa (Zc1 (σ:={ b:Bool//b=true↔j<Zbo A[k] (A.drop (k+1)) }) (fun b=>([(3,.own id 0 P.length),(4,.sl 1 (A.map fun x=>[pI x])),(5,pI k),(6,pI ((k+1+j:Nat):Int)),(33,.bool b.1)],⟨[(id,.arr false 1 (strR P))],n⟩)) (Zbh [3,4,5,6,33] (by simp [Heap.le,Heap.get,HL.le,HL.get]) ?_) (fun b=>?_))
  ·by_cases h2:k+1+j<A.length
   ·have e1:decide (((k+1+j:Nat):Int)<(A.length:Int))=true:=by simpa using by omega
    have e2:IntKind.i64.wrap (((k+1+j:Nat):Int)-1)=((k+j:Nat):Int):=by rw [w64 (by omega) (by omega)];omega
    have hlt:A[k+j]<A[k+1+j]:=List.pairwise_iff_getElem.1 hAlt _ _ _ _ (by omega);have hb:=hAi _ (List.getElem_mem h2);have hb2:=hAi _ (List.getElem_mem hm);simp only [vmL,Nat.reduceEqDiff,Nat.reduceAdd,Nat.reduceLT,Nat.reduceLeDiff,Nat.reduceSub,Nat.reduceMul,reduceIte,reduceCtorEq,Int.reduceToNat,List.length_map,e1,e2,rowm h2,rowm hm,w64 (n:=A[k+j]+1) (by omega) (by omega)];refine Ok ?_;refine ⟨⟨A[k+1+j]==A[k+j]+1,?_⟩,?_⟩
    ·rw [hst,beq_iff_eq];constructor
     ·intro e;exact ⟨by simp;omega,by rw [hat j h2];omega⟩
     ·rintro ⟨_,e⟩;rw [hat j h2] at e;omega
    ·all_goals exact Fn1 qq
   ·have e1:decide (((k+1+j:Nat):Int)<(A.length:Int))=false:=by simp;omega
    refine Sp1 (x2 @xlm e1) ?_;refine ⟨⟨false,?_⟩,?_⟩
    ·rw [hst];constructor
     ·intro h;cases h
     ·rintro ⟨h,_⟩;simp at h;omega
    ·exact Fn1 qq
  obtain ⟨b,hb⟩:=b;simp only [];refine Zac rfl (fun h2=>?_) (fun h2=>?_)
  ·have hj2:=hb.1 h2;refine Kp0 ?_;refine Zab ?_;refine rp1 [3,4,5,6] (w64 (n:=((k+1+j:Nat):Int)+1) (by omega) (by omega)) ?_;refine ⟨⟨j+1,hj2⟩,?_⟩;have e:((k+1+j:Nat):Int)+1=((k+1+(j+1):Nat):Int):=by omega
   exact Fn1 (x2 qq e)
  have hjr:j=Zbo A[k] (A.drop (k+1)):=by
   have:¬ j<Zbo A[k] (A.drop (k+1)):=fun h=>by rw [hb.2 h] at h2;cases h2
   omega
  refine Ep0 ?_;have e2:IntKind.i64.wrap (((k+1+j:Nat):Int)-1)=((k+j:Nat):Int):=by rw [w64 (by omega) (by omega)];omega
  have b0:=hAi _ (List.getElem_mem ka);have b1:=hAi _ (List.getElem_mem hm);refine Zaa (Zbh [3,4,5,6,7,8] (by simp [Heap.le,Heap.get,HL.le,HL.get]) ?_);simp only [vmL,Nat.reduceEqDiff,Nat.reduceAdd,Nat.reduceLT,Nat.reduceLeDiff,Nat.reduceSub,Nat.reduceMul,reduceIte,reduceCtorEq,Int.reduceToNat,List.length_map,e2,rowm ka,rowm hm];refine ⟨by omega,_,.inl (sp_strconv_Itoa _ (i64_iff.2 b0)),?_⟩;try simp only [vmL,Nat.reduceEqDiff,Nat.reduceAdd,Nat.reduceLT,Nat.reduceLeDiff,Nat.reduceSub,Nat.reduceMul,reduceIte,reduceCtorEq,Int.reduceToNat,List.length_map,e2,rowm hm]
  refine ⟨by omega,_,.inl (sp_strconv_Itoa _ (i64_iff.2 b1)),?_⟩;have hkA:partsI (A.drop k)=runT A[k] j++partsI (A.drop (k+1+j)):=by
   rw [hdrop,partsI_cons,← hjr,List.drop_drop]
  have hlast:Lib.itoa A[k+j]=Lib.itoa (A[k]+j):=by rw [hcur]
  have hN:(P++runT A[k] j)++partsI (A.drop (k+1+j))=partsI A:=by rw [List.append_assoc,← hkA,hP]
  have hNl:(P++runT A[k] j).length≤k+1+j:=by
   have:=runT_len A[k] j;rw [Zx5];omega
  have i1:A[k]+1≤9223372036854775807∨j=0:=by
   rcases Nat.eq_zero_or_pos j with h|h
   ·exact .inr h
   ·left;omega
  have hNs:∀ x∈P++runT A[k] j,x.length≤44:=by
   intro x hx;rcases List.mem_append.1 hx with h|h
   ·exact hPs x h
   ·rcases i1 with h3|h3
    ·exact runT_small A[k] j (i64_iff.2 b0) (i64_iff.2 (by omega)) (i64_iff.2 (by omega)) x h
    ·subst h3;simp only [runT,if_pos,List.mem_singleton] at h;subst h;have:=itoa_len _ (i64_iff.2 b0);omega
  have fl:=itoa_len _ (i64_iff.2 b0);have ll:=itoa_len _ (i64_iff.2 b1);have hsub:IntKind.i64.wrap (((k+1+j:Nat):Int)-(k:Int))=((j+1:Nat):Int):=by rw [w64 (by omega) (by omega)];omega
  have htk:=strR_take P;have hln:=Za7 P;refine Sp1 @xlm ?_;refine Zaa ?_;refine Rp1 [3,4,6,7,8,49] hsub ?_;refine Zab ?_;refine Rp0 [3,4,6,7,8,49,57] ?_;refine Zac rfl (fun h3=>?_) (fun h3=>?_)
  ·have hj0:j=0:=by rw [beq_iff_eq] at h3;omega
   have hr:strR P++[[PV.str (Lib.itoa A[k])]]=strR (P++runT A[k] j):=by
    rw [← strR_app];simp [runT,hj0,strR]
   have hrl:P.length+1=(P++runT A[k] j).length:=by simp [runT,hj0]
   refine rp1 [3,4,6] (x4 hln htk hr qq) ?_;refine ⟨by omega,by omega,?_⟩;refine rp0 [3,4,5] ?_;refine ⟨⟨((k+1+j,n+1,n+1+1),P++runT A[k] j),(by show k+1+j≤A.length;omega),by simp,hN,hNl,hNs⟩,?_⟩;simp only [← hrl]
   all_goals exact Fn1 qq
  ·refine Rp0 [3,4,6,7,8,63] ?_;refine Zac rfl (fun h4=>?_) (fun h4=>?_)
   ·have hj1:j=1:=by rw [beq_iff_eq] at h4;omega
    have e1:Lib.itoa A[k+j]=Lib.itoa (A[k]+1):=by rw [hlast,hj1];rfl
    have hr:strR P++[[PV.str (Lib.itoa A[k])],[PV.str (Lib.itoa A[k+j])]]=strR (P++runT A[k] j):=by
     rw [← strR_app,e1];simp [runT,hj1,strR]
    have hrl:P.length+2=(P++runT A[k] j).length:=by simp [runT,hj1]
    refine rp1 [3,4,6] (x4 hln htk hr qq) ?_;refine ⟨by omega,by omega,?_⟩;refine rp0 [3,4,5] ?_;refine ⟨⟨((k+1+j,n+1,n+1+1),P++runT A[k] j),(by show k+1+j≤A.length;omega),by simp,hN,hNl,hNs⟩,?_⟩;simp only [← hrl]
    all_goals exact Fn1 qq
   ·have hj2:j≠0∧j≠1:=by rw [beq_eq_false_iff_ne] at h3 h4;omega
    have hr:strR P++[[PV.str (Lib.itoa A[k]++[32,116,111,32]++Lib.itoa A[k+j])]]=strR (P++runT A[k] j):=by
     rw [← strR_app,hlast];simp [runT,hj2.1,hj2.2,strR,toT]
    have hrl:P.length+1=(P++runT A[k] j).length:=by simp [runT,hj2.1,hj2.2]
    refine Zae [3,4,6] ?_;simp only [vmL,Nat.reduceEqDiff,Nat.reduceAdd,Nat.reduceLT,Nat.reduceLeDiff,Nat.reduceSub,Nat.reduceMul,reduceIte,reduceCtorEq,Int.reduceToNat,hln,htk,hr,Zx5,qq];refine ⟨by omega,by omega,by omega,by omega,?_⟩;refine rp0 [3,4,5] ?_;refine ⟨⟨((k+1+j,n+1,n+1+1),P++runT A[k] j),(by show k+1+j≤A.length;omega),by simp,hN,hNl,hNs⟩,?_⟩;simp only [← hrl]
    all_goals exact Fn1 qq
 ·simp only [Zx2] at h1;obtain rfl:k=A.length:=by omega
  rw [List.drop_length,partsI_nil,List.append_nil] at hP;subst hP;have hjl:=join_lenS sepT 44 (partsI A) hPs;have hm:(partsI A).length*(44+sepT.length)≤100000*(44+2):=Nat.mul_le_mul (by omega) (by decide);refine Ep0 ?_;refine Rp0 [2] ?_;refine ACall_v [It.strs (partsI A),.str sepT] ⟨View.own_all (fz:=false) (by simp [Heap.get,HL.get];rfl) (by simp),View.refl _ _,trivial⟩ (sp_strings_Join _ _ (by omega) (by omega)) (Zcy _) ?_;refine Sp0 ?_;exact Tv0
structure Ent where
 key : Str
 id : Nat
 ns : List Int
 deriving Inhabited
def encI (l:List Int):List (List PV):=l.map fun x=>[pI x]
theorem encI_len (l:List Int):(encI l).length=l.length:=List.length_map _
theorem encI_take (l:List Int):List.take l.length (encI l)=encI l:=List.take_of_length_le (by rw [encI_len];exact Nat.le_refl _)
theorem encI_app (l:List Int) (n:Int):encI l++[[pI n]]=encI (l++[n]):=by simp [encI]
def encE (E:List Ent):List (PV×PV):=E.map fun e=>(.str e.key,.own e.id 0 e.ns.length)
def tailE (E:List Ent):List (Nat×AB):=E.map fun e=>(e.id,.arr false 1 (encI e.ns))
def canH (m:Nat) (E:List Ent):List (Nat×AB):=(m,.map (encE E))::tailE E
def findE (E:List Ent) (s:Str):Option Ent:=E.find? fun e=>e.key==s
def updE (id:Nat) (s:Str) (n:Int):List Ent→List Ent
 | []=>[⟨s,id,[n]⟩]
 | e::r=>if e.key==s then ⟨s,id,e.ns++[n]⟩::r else e::updE id s n r
theorem keyEq_str (a b:Str):keyEq (.str a) (.str b)=(a==b):=by simp [keyEq,PV.cells,Zav,Zbt]
theorem mapFind_enc (s:Str):∀ E:List Ent,Za8 (.str s) (encE E)=(findE E s).map fun e=>.own e.id 0 e.ns.length
 | []=>rfl
 | e::r=>by
  have ih:=mapFind_enc s r;unfold findE encE at *;simp only [List.map_cons,Za8,List.find?_cons,keyEq_str];cases h:e.key==s with
  | true =>
   have:s==e.key:=by rw [beq_iff_eq] at h ⊢;exact h.symm
   rw [this];rfl
  | false =>
   have:(s==e.key)=false:=by rw [beq_eq_false_iff_ne] at h ⊢;exact h.symm
   rw [this];simpa using ih
theorem mapPut_enc (id:Nat) (s:Str) (n:Int):∀ E:List Ent,mapPut (.str s) (.own id 0 (((findE E s).map fun e=>e.ns.length).getD 0+1)) (encE E)=encE (updE id s n E)
 | []=>rfl
 | e::r=>by
  have ih:=mapPut_enc id s n r;unfold findE encE at *;simp only [List.map_cons,mapPut,List.find?_cons,keyEq_str,updE];cases h:e.key==s with
  | true =>
   have:s==e.key:=by rw [beq_iff_eq] at h ⊢;exact h.symm
   rw [this];simp
  | false =>
   have:(s==e.key)=false:=by rw [beq_eq_false_iff_ne] at h ⊢;exact h.symm
   rw [this];simpa using ih
theorem keysOk_enc (s:Str) (E:List Ent):keysOk (.one .s) (.str s) (encE E):=by
 refine ⟨trivial,fun p hp=>?_⟩;simp only [encE,List.mem_map] at hp;obtain ⟨x,_,rfl⟩:=hp;trivial
structure OkE (m t : Nat) (E : List Ent) : Prop where
 nod : (E.map Ent.id).Nodup
 ne : ∀ e ∈ E, e.id ≠ m
 lt : ∀ e ∈ E, e.id < t
 full : ∀ e ∈ E, e.ns ≠ []
 m : m < t
theorem OkE.mono {m t t':Nat} {E:List Ent} (h:OkE m t E) (ht:t≤t'):OkE m t' E:=⟨h.nod,h.ne,fun e he=>Nat.lt_of_lt_of_le (h.lt e he) ht,h.full,Nat.lt_of_lt_of_le h.m ht⟩
theorem tail_get {E:List Ent} (hn:(E.map Ent.id).Nodup):∀ {e:Ent},e∈E→HL.get (tailE E) e.id=some (.arr false 1 (encI e.ns)):=by
 intro e he;refine HL.get_mem_nod ?_ ?_
 ·unfold Nod tailE;rw [List.map_map];exact hn
 ·exact List.mem_map.2 ⟨e,he,rfl⟩
theorem tail_off {E:List Ent} {x:Nat} (h:∀ e∈E,e.id≠x):Off (tailE E) x:=by
 intro q hq;obtain ⟨e,he,rfl⟩:=List.mem_map.1 hq;exact h e he
theorem upd_mem (id:Nat) (s:Str) (n:Int):∀ (E:List Ent) (e:Ent),e∈updE id s n E→(e∈E∧∀ o,findE E s=some o→(E.map Ent.id).Nodup→e.id≠o.id)∨(e.id=id∧e.key=s∧e.ns=((findE E s).map Ent.ns).getD []++[n])
 | [],e,h=>by
  simp only [updE,List.mem_singleton] at h;subst h;exact .inr ⟨rfl,rfl,rfl⟩
 | a::r,e,h=>by
  unfold findE;simp only [updE] at h;rw [List.find?_cons];cases hk:a.key==s with
  | true =>
   rw [hk,if_pos rfl] at h;rcases List.mem_cons.1 h with rfl|h
   ·exact .inr ⟨rfl,rfl,rfl⟩
   ·refine .inl ⟨Zx7 _ h,fun o ho hn=>?_⟩;simp only [Zx0] at ho;subst ho;rw [List.map_cons,List.nodup_cons] at hn;exact fun e1=>hn.1 (e1▸List.mem_map.2 ⟨e,h,rfl⟩)
  | false =>
   rw [hk] at h;simp only [Bool.false_eq_true,if_false] at h;rcases List.mem_cons.1 h with rfl|h
   ·refine .inl ⟨List.mem_cons_self,fun o ho hn=>?_⟩;rw [List.map_cons,List.nodup_cons] at hn;exact fun e1=>hn.1 (e1▸List.mem_map.2 ⟨o,List.mem_of_find?_eq_some ho,rfl⟩)
   ·rcases upd_mem id s n r e h with ⟨h1,h2⟩|h1
    ·refine .inl ⟨Zx7 _ h1,fun o ho hn=>?_⟩;rw [List.map_cons,List.nodup_cons] at hn;exact h2 o ho hn.2
    ·exact .inr h1
theorem upd_ids (id:Nat) (s:Str) (n:Int):∀ (E:List Ent),(E.map Ent.id).Nodup→(∀ e∈E,e.id≠id)→((updE id s n E).map Ent.id).Nodup
 | [],_,_=>by simp [updE]
 | a::r,hn,h=>by
  rw [List.map_cons,List.nodup_cons] at hn;simp only [updE];split
  ·rw [List.map_cons,List.nodup_cons];refine ⟨fun h1=>?_,hn.2⟩;obtain ⟨e,he,e1⟩:=List.mem_map.1 h1;exact h e (Zx7 _ he) e1
  ·rw [List.map_cons,List.nodup_cons];refine ⟨fun h1=>?_,upd_ids id s n r hn.2 fun e he=>h e (Zx7 _ he)⟩;obtain ⟨e,he,e1⟩:=List.mem_map.1 h1;rcases upd_mem id s n r e he with ⟨h2,_⟩|⟨h2,_⟩
   ·exact hn.1 (e1▸List.mem_map.2 ⟨e,h2,rfl⟩)
   ·exact h a List.mem_cons_self (by rw [← e1,h2])
theorem OkE.upd {m t:Nat} {E:List Ent} (h:OkE m t E) (id:Nat) (s:Str) (n:Int) (hi:t≤id):OkE m (id+1) (updE id s n E):=by
 have hm:=h.m;refine ⟨upd_ids id s n E h.nod fun e he=>by have:=h.lt e he;omega,fun e he=>?_,fun e he=>?_,fun e he=>?_,by omega⟩
 ·rcases upd_mem id s n E e he with ⟨h1,_⟩|⟨h1,_⟩
  ·exact h.ne e h1
  ·omega
 ·rcases upd_mem id s n E e he with ⟨h1,_⟩|⟨h1,_⟩
  ·have:=h.lt e h1;omega
  ·omega
 ·rcases upd_mem id s n E e he with ⟨h1,_⟩|⟨_,_,h1⟩
  ·exact h.full e h1
  ·rw [h1];simp
theorem canH_le {m t id : Nat} {E : List Ent} (h : OkE m t E) (s : Str) (n : Int) (hi : t ≤ id) (f : Nat → Option AB) (hm : f m = some (.map (encE (updE id s n E))))
  (hid:f id=some (.arr false 1 (encI (((findE E s).map Ent.ns).getD []++[n])))) (ho:∀ e∈E,(∀ o,findE E s=some o→e.id≠o.id)→f e.id=some (.arr false 1 (encI e.ns))):HL.le (canH m (updE id s n E)) f:=by
 refine ⟨hm,HL.le_all fun k v hk=>?_⟩;obtain ⟨e,he,e1⟩:=List.mem_map.1 hk;simp only [Prod.mk.injEq] at e1;obtain ⟨rfl,rfl⟩:=e1;rcases upd_mem id s n E e he with ⟨h1,h2⟩|⟨h1,_,h3⟩
 ·exact ho e h1 fun o h4=>h2 o h4 h.nod
 ·rw [h1,h3];exact hid
def addO (s:Str) (n:Int):List (Str×List Int)→List (Str×List Int)
 | []=>[(s,[n])]
 | e::r=>if e.1==s then (s,e.2++[n])::r else e::addO s n r
def viewE (E:List Ent):List (Str×List Int):=E.map fun e=>(e.key,e.ns)
theorem view_upd (id:Nat) (s:Str) (n:Int):∀ E:List Ent,viewE (updE id s n E)=addO s n (viewE E)
 | []=>rfl
 | e::r=>by
  have ih:=view_upd id s n r;unfold viewE at *;simp only [updE,List.map_cons,addO];split
  ·rfl
  ·rw [List.map_cons,ih]
def onS (occ:List (Str×Int)) (o:List (Str×List Int)):List (Str×List Int):=occ.foldl (fun o x=>addO x.1 x.2 o) o
structure OnOk (occ : List (Str × Int)) (o : List (Str × List Int)) : Prop where
  nod : (o.map (·.1)).Nodup
  val : ∀ x ∈ o, x.2 = (occ.filter fun y => y.1 == x.1).map (·.2)
  keys : ∀ s, s ∈ o.map (·.1) ↔ ∃ y ∈ occ, y.1 = s
theorem addO_mem (s:Str) (n:Int):∀ (o:List (Str×List Int)) (x:Str×List Int),x∈addO s n o→(x∈o∧(x.1=s→(∀ y∈o,y.1=s→y=x)→False∨¬ (o.map (·.1)).Nodup))∨(x.1=s∧((∃ y∈o,y.1=s∧x.2=y.2++[n])∨((∀ y∈o,y.1≠s)∧x.2=[n])))
  | [],x,h=>by
    simp only [addO,List.mem_singleton] at h;subst h;exact .inr ⟨rfl,.inr ⟨fun y hy=>(by cases hy),rfl⟩⟩
  | e::r,x,h=>by
    simp only [addO] at h;cases hk:e.1==s with
    | true =>
      rw [hk,if_pos rfl] at h;rcases List.mem_cons.1 h with rfl|h
      · exact .inr ⟨rfl,.inl ⟨e,List.mem_cons_self,by simpa using hk,rfl⟩⟩
      · refine .inl ⟨Zx7 _ h,fun h1 _=>.inr fun h2=>?_⟩
        rw [List.map_cons,List.nodup_cons] at h2;have h3:e.1=s:=by simpa using hk
        exact h2.1 (List.mem_map.2 ⟨x,h,by rw [h1,h3]⟩)
    | false =>
      have h3:e.1≠s:=by simpa using hk
      rw [hk] at h;simp only [Bool.false_eq_true,if_false] at h;rcases List.mem_cons.1 h with rfl|h
      · exact .inl ⟨List.mem_cons_self,fun h1=>absurd h1 h3⟩
      · rcases addO_mem s n r x h with ⟨h1,h2⟩|⟨h1,h2⟩
        · refine .inl ⟨Zx7 _ h1,fun h4 h5=>?_⟩
          rcases h2 h4 (fun y hy e1=>h5 y (Zx7 _ hy) e1) with h6|h6
          · exact .inl h6
          · exact .inr fun h7=>h6 (by rw [List.map_cons,List.nodup_cons] at h7;exact h7.2)
        · refine .inr ⟨h1,?_⟩
          rcases h2 with ⟨y,hy,e1⟩|⟨h4,e1⟩
          · exact .inl ⟨y,Zx7 _ hy,e1⟩
          · refine .inr ⟨fun y hy=>?_,e1⟩
            rcases List.mem_cons.1 hy with rfl|hy
            · exact h3
            · exact h4 y hy
theorem addO_keys (s:Str) (n:Int):∀ (o:List (Str×List Int)),(addO s n o).map (·.1)=if s∈o.map (·.1) then o.map (·.1) else o.map (·.1)++[s]
  | []=>by simp [addO]
  | e::r=>by
    have ih:=addO_keys s n r;simp only [addO];by_cases hk:e.1=s
    · rw [if_pos (by simpa using hk)]
      simp [hk]
    · rw [if_neg (by simpa using hk),List.map_cons,ih]
      by_cases h2:s∈r.map (·.1)
      · rw [if_pos h2,if_pos (by rw [List.map_cons];exact Zx7 _ h2)]
        rfl
      · rw [if_neg h2,if_neg (by rw [List.map_cons,List.mem_cons];rintro (h3|h3);exact hk h3.symm;exact h2 h3)]
        rfl
theorem on_step {occ:List (Str×Int)} {o:List (Str×List Int)} (h:OnOk occ o) (y:Str×Int):OnOk (occ++[y]) (addO y.1 y.2 o):=by
  have hnod:((addO y.1 y.2 o).map (·.1)).Nodup:=by
    rw [addO_keys];split
    · exact h.nod
    · rename_i hs
      rw [List.nodup_append];exact ⟨h.nod,by simp,fun a ha b hb=>by rw [List.mem_singleton] at hb;rw [hb];exact fun e=>hs (e▸ha)⟩
  refine ⟨hnod,fun x hx=>?_,fun s=>?_⟩
  · rw [List.filter_append,List.map_append]
    rcases addO_mem y.1 y.2 o x hx with ⟨h1,h2⟩|⟨h1,h2⟩
    · have huniq : ∀ z ∈ o, z.1 = x.1 → z = x := fun z hz ez => by
        obtain ⟨i,hi,rfl⟩:=List.mem_iff_getElem.1 hz;obtain ⟨j,hj,rfl⟩:=List.mem_iff_getElem.1 h1;have hn:=List.pairwise_iff_getElem.1 h.nod;rcases Nat.lt_trichotomy i j with h3|h3|h3
        · exact absurd (show (o.map (·.1))[i]'(by simpa using hi)=(o.map (·.1))[j]'(by simpa using hj) by rw [List.getElem_map,List.getElem_map];exact ez) (hn i j (by simpa using hi) (by simpa using hj) h3)
        · subst h3;rfl
        · exact absurd (show (o.map (·.1))[j]'(by simpa using hj)=(o.map (·.1))[i]'(by simpa using hi) by rw [List.getElem_map,List.getElem_map];exact ez.symm) (hn j i (by simpa using hj) (by simpa using hi) h3)
      have hne:y.1≠x.1:=fun e=>by
        rcases h2 e.symm (fun z hz ez=>huniq z hz (by rw [ez,e])) with h3|h3
        · exact h3
        · exact h3 h.nod
      have:([y].filter fun z=>z.1==x.1)=[]:=by simp [hne]
      rw [this,List.map_nil,List.append_nil];exact h.val x h1
    · have:([y].filter fun z=>z.1==x.1)=[y]:=by simp [h1]
      rw [this];rcases h2 with ⟨z,hz,e1,e2⟩|⟨h4,e2⟩
      · rw [e2,h.val z hz,e1,h1];rfl
      · have : (occ.filter fun z => z.1 == x.1) = [] := by
          rw [List.filter_eq_nil_iff];intro z hz e3;have:x.1∈o.map (·.1):=(h.keys x.1).2 ⟨z,hz,by simpa using e3⟩;obtain ⟨w,hw,e4⟩:=List.mem_map.1 this;exact h4 w hw (by rw [e4,h1])
        rw [e2,this];rfl
  · rw [addO_keys]
    have hk:=h.keys s;split
    · rename_i hs
      rw [hk];constructor
      · rintro ⟨z,hz,e⟩;exact ⟨z,List.mem_append_left _ hz,e⟩
      · rintro ⟨z,hz,e⟩
        rcases List.mem_append.1 hz with hz|hz
        · exact ⟨z,hz,e⟩
        · rw [List.mem_singleton] at hz
          subst hz;rw [e] at hs;exact hk.1 hs
    · rw [List.mem_append,List.mem_singleton,hk]
      constructor
      · rintro (⟨z,hz,e⟩|e)
        · exact ⟨z,List.mem_append_left _ hz,e⟩
        · exact ⟨y,by simp,e.symm⟩
      · rintro ⟨z,hz,e⟩
        rcases List.mem_append.1 hz with hz|hz
        · exact .inl ⟨z,hz,e⟩
        · rw [List.mem_singleton] at hz
          subst hz;exact .inr e.symm
theorem on_ok:∀ (occ pre:List (Str×Int)) (o:List (Str×List Int)),OnOk pre o→OnOk (pre++occ) (onS occ o)
 | [],pre,o,h=>by simpa [onS] using h
 | y::r,pre,o,h=>by
  have:=on_ok r (pre++[y]) (addO y.1 y.2 o) (on_step h y);rw [List.append_assoc] at this;exact this
theorem on_all (occ:List (Str×Int)):OnOk occ (onS occ []):=on_ok occ [] [] ⟨.nil,fun x hx=>(by cases hx),fun s=>⟨fun h=>(by cases h),fun ⟨y,hy,_⟩=>by cases hy⟩⟩
structure SmalQ (l : List Pg) : Prop where
 len : l.length ≤ 1000
 words : (wdsL l).length ≤ 100000
 lines : ∀ p ∈ l, (lnsP p).length ≤ 1000
 line : ∀ p ∈ l, ∀ s ∈ lnsP p, s.length ≤ 100000
theorem SmalQ.P {l:List Pg} (h:SmalQ l):SmalP l:=⟨by have:=h.len;omega,by have:=h.words;omega,h.lines,h.line⟩
theorem sp_paginate_Words (l:List Pg) (hs:SmalQ l):Zam Tryz.prog 21 [.sl 4 (l.map Pg.enc)] (.sl 1 (strR (wdsL l))):=by
 refine Zad (Zal.mono (own_Words l hs.P 0) ?_) (Zbs _) (by intro y hy;rw [List.mem_singleton] at hy;subst hy;exact closed_pgs l);rintro p h' ⟨id,t',q1,q2,rfl,rfl⟩;exact View.own_all (fz:=false) (by simp [Heap.get,HL.get]) (by rw [Za7])
def wordBc (n:Int) (w:Str):List (Str×Int):=if bareS w=[] then [] else [(bareS w,n)]
def occW (n:Int) (W:List Str):List (Str×Int):=W.flatMap (wordBc n)
def occP (p:Pg):List (Str×Int):=occW p.number (wdsP p)
def occL (l:List Pg):List (Str×Int):=l.flatMap occP
theorem onS_app (a b:List (Str×Int)) (o:List (Str×List Int)):onS (a++b) o=onS b (onS a o):=by unfold onS;rw [List.foldl_append]
theorem occL_step {l:List Pg} {k:Nat} (h:k<l.length):occL (l.take (k+1))=occL (l.take k)++occP l[k]:=by
 unfold occL;rw [List.take_add_one,List.getElem?_eq_getElem h,List.flatMap_append];simp
theorem occW_step (n:Int) {W:List Str} {j:Nat} (h:j<W.length):occW n (W.take (j+1))=occW n (W.take j)++wordBc n W[j]:=by
 unfold occW;rw [List.take_add_one,List.getElem?_eq_getElem h,List.flatMap_append];simp
theorem occW_len (n:Int):∀ W:List Str,(occW n W).length≤W.length
 | []=>Nat.le_refl _
 | w::r=>by
  have:=occW_len n r;have hb:(wordBc n w).length≤1:=by unfold wordBc;split<;>simp
  unfold occW at *;rw [List.flatMap_cons,Zx5,List.length_cons];omega
theorem occL_len:∀ l:List Pg,(occL l).length≤(wdsL l).length
 | []=>Nat.le_refl _
 | p::r=>by
  have:=occL_len r;have h:=occW_len p.number (wdsP p);unfold occL wdsL at *;rw [List.flatMap_cons,Zx5,List.flatMap_cons,Zx5];unfold occP at *;omega
theorem occL_take (l:List Pg) (k:Nat):(occL (l.take k)).length≤(wdsL l).length:=Nat.le_trans (occL_len _) (wdsL_take l k)
theorem SmalQ.one {l:List Pg} (h:SmalQ l) {p:Pg} (hp:p∈l):SmalQ [p]:=by
 refine ⟨by simp,?_,fun x hx=>?_,fun x hx=>?_⟩
 ·obtain ⟨a,b,rfl⟩:=List.append_of_mem hp;have:=h.words;simp only [wdsL,List.flatMap_append,List.flatMap_cons,Zx5,List.flatMap_nil,List.append_nil,List.length_nil] at this ⊢;omega
 ·rw [List.mem_singleton] at hx;subst hx;exact h.lines _ hp
 ·rw [List.mem_singleton] at hx;subst hx;exact h.line _ hp
theorem wdsL_one (p:Pg):wdsL [p]=wdsP p:=by simp [wdsL]
def keysS (l:List Pg):List Str:=((onS (occL l) []).map (·.1)).mergeSort leB
def pagesS (l:List Pg) (s:Str):List Int:=((occL l).filter fun y=>y.1==s).map (·.2)
def indexS (l:List Pg):List (Str×List Int):=(keysS l).map fun s=>(s,Zbv (pagesS l s))
def encEn (e:Str×List Int):List PV:=[.str e.1,.sl 1 (e.2.map fun x=>[pI x])]
theorem ent_ns {occ:List (Str×Int)} {E:List Ent} (h:viewE E=onS occ []) {e:Ent} (he:e∈E):e.ns=(occ.filter fun y=>y.1==e.key).map (·.2):=by
  have:=(on_all occ).val (e.key,e.ns) (by rw [← h];exact List.mem_map.2 ⟨e,he,rfl⟩);exact this
theorem ent_len {occ:List (Str×Int)} {E:List Ent} (h:viewE E=onS occ []) {e:Ent} (he:e∈E):e.ns.length≤occ.length:=by
 rw [ent_ns h he,List.length_map];exact List.length_filter_le _ _
theorem fldF_lenE:∀ (s cur:Str),∀ w∈fldF cur s,w.length≤cur.length+s.length
 | [],cur,w,h=>by
  unfold fldF at h;split at h
  ·cases h
  ·rw [List.mem_singleton] at h;subst h;simp
 | b::r,cur,w,h=>by
  have hc:(b::r).length=r.length+1:=rfl;unfold fldF at h;split at h
  ·split at h
   ·have:=fldF_lenE r [] w h;simp only [List.length_nil] at this;omega
   ·rcases List.mem_cons.1 h with rfl|h
    ·omega
    ·have:=fldF_lenE r [] w h;simp only [List.length_nil] at this;omega
  ·have:=fldF_lenE r _ w h;rw [Zx5] at this;simp only [List.length_cons,List.length_nil] at this;omega
theorem wdsP_len {p:Pg} {m:Nat} (h:∀ s∈lnsP p,s.length≤m):∀ w∈wdsP p,w.length≤m:=by
 intro w hw;unfold wdsP at hw;rw [List.mem_flatMap] at hw;obtain ⟨s,h1,h2⟩:=hw;have h3:=fldF_lenE s [] w h2;have h4:=h s h1;simp only [List.length_nil] at h3;omega
theorem bareS_len (s:Str):(bareS s).length≤s.length:=by
  unfold bareS;refine Nat.le_trans ?_ (trimLeftB_len s 40);unfold Lib.trimRightS;rw [List.length_reverse];have:=(List.dropWhile_sublist (behindT.contains ·) (l:=(Lib.trimLeftB s 40).reverse)).length_le;rw [List.length_reverse] at this;exact this
theorem occL_mem {l:List Pg} {y:Str×Int}:y∈occL l↔∃ p∈l,∃ w∈wdsP p,bareS w≠[]∧y=(bareS w,p.number):=by
 unfold occL;rw [List.mem_flatMap];constructor
 ·rintro ⟨p,hp,h⟩;unfold occP occW at h;rw [List.mem_flatMap] at h;obtain ⟨w,hw,h⟩:=h;unfold wordBc at h;split at h
  ·cases h
  ·rw [List.mem_singleton] at h;exact ⟨p,hp,w,hw,by assumption,h⟩
 ·rintro ⟨p,hp,w,hw,hb,rfl⟩;refine ⟨p,hp,?_⟩;unfold occP occW;rw [List.mem_flatMap];exact ⟨w,hw,by unfold wordBc;rw [if_neg hb];simp⟩
theorem SmalQ.key {l:List Pg} (h:SmalQ l):∀ y∈occL l,y.1.length≤100000:=by
 intro y hy;obtain ⟨p,hp,w,hw,_,rfl⟩:=occL_mem.1 hy;exact Nat.le_trans (bareS_len w) (wdsP_len (h.line p hp) w hw)
theorem addO_len (s:Str) (n:Int):∀ o:List (Str×List Int),(addO s n o).length≤o.length+1
 | []=>Nat.le_refl _
 | e::r=>by
  have:=addO_len s n r;simp only [addO];split<;>simp<;>omega
theorem onS_len:∀ (occ:List (Str×Int)) (o:List (Str×List Int)),(onS occ o).length≤o.length+occ.length
 | [],o=>Nat.le_refl _
 | y::r,o=>by
  have h1:=onS_len r (addO y.1 y.2 o);have h2:=addO_len y.1 y.2 o;show (onS r (addO y.1 y.2 o)).length≤_;rw [List.length_cons];omega
theorem keysS_len (l:List Pg):(keysS l).length≤(occL l).length:=by
 unfold keysS;rw [List.length_mergeSort,List.length_map];have:=onS_len (occL l) [];simp only [List.length_nil] at this;omega
def rowsE (E:List Ent):List (PV×PV):=E.map fun e=>(.str e.key,.sl 1 (encI e.ns))
theorem mapFind_rows (s:Str):∀ E:List Ent,Za8 (.str s) (rowsE E)=(findE E s).map fun e=>.sl 1 (encI e.ns)
 | []=>rfl
 | e::r=>by
  have ih:=mapFind_rows s r;unfold findE rowsE at *;simp only [List.map_cons,Za8,List.find?_cons,keyEq_str];cases h:e.key==s with
  | true =>
   have:s==e.key:=by rw [beq_iff_eq] at h ⊢;exact h.symm
   rw [this];rfl
  | false =>
   have:(s==e.key)=false:=by rw [beq_eq_false_iff_ne] at h ⊢;exact h.symm
   rw [this];simpa using ih
theorem rows_find {l:List Pg} {E:List Ent} (h:viewE E=onS (occL l) []) {s:Str} (hs:s∈keysS l):Za8 (.str s) (rowsE E)=some (.sl 1 (encI (pagesS l s))):=by
  rw [mapFind_rows];have h1:s∈(viewE E).map (·.1):=by
    rw [h];unfold keysS at hs;exact (List.mergeSort_perm _ _).mem_iff.1 hs
  unfold viewE at h1;rw [List.map_map,List.mem_map] at h1;obtain ⟨e0,he0,hk0⟩:=h1;cases hf:findE E s with
  | none =>
    exfalso
    unfold findE at hf;rw [List.find?_eq_none] at hf;exact hf e0 he0 (by simpa using hk0)
  | some e =>
    have hem:e∈E:=List.mem_of_find?_eq_some hf;have hek:e.key=s:=by have:=List.find?_some hf;simpa using this
    rw [Option.map_some,ent_ns h hem,hek];rfl
theorem pagesS_len (l:List Pg) (s:Str):(pagesS l s).length≤(occL l).length:=by
 unfold pagesS;rw [List.length_map];exact List.length_filter_le _ _
end Go.Proofs.w
