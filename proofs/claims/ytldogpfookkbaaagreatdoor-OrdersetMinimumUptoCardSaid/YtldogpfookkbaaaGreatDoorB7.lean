import Derived.Test.YtldogpfookkbaaaGreatDoorB6
import Derived.Test.YtldogpfookkbaaaGreatDoorVmAb
import Derived.Test.YtldogpfookkbaaaGreatDoorVmBl
set_option linter.all false
set_option maxRecDepth 20000
set_option maxHeartbeats 0
namespace Go.Proofs.w
open Go Go.RowKit Go.Shelf Go.Sort Go.VM
set_option maxRecDepth 100000
theorem Zo3(l:List Int)(h:Heap):Zam Tryz.prog 28 [.sl 1 (zR l)] h (fun p h'=>p=.fnb (.func 52) (.sl 1 (zR l))∧h'=h):=by
 refine⟨by kernel_rfl,fun g w vals r ha=>?_⟩;obtain⟨v,rfl,hv⟩:=Xcl ha;obtain⟨a,len,cap,rfl⟩:∃a len cap,v=.slice a len cap:=by
  generalize zR l=Z at hv;cases hv<;>exact⟨_,_,_,rfl⟩
 refine((callsIn_wide (n:=1)).1 (values_in Fence.wide 1 trivial rfl a len cap w)).mono ?_;rintro e w' ⟨rfl,rfl⟩;obtain⟨g',f1,f2,f3,f4⟩:=Zqm r #[.slice a len cap] 22 1 [[.sl 1 (zR l)]] (fun i hi=>by
   obtain rfl:i=0:=by simp at hi;omega
   rfl) (by
   refine⟨rfl,fun i j hi hj=>?_⟩;obtain rfl:i=0:=by simp at hi;omega
   obtain rfl:j=0:=by omega
   exact⟨rfl,hv⟩)
 obtain⟨v,k1,k2⟩:=f2.of_one rfl;have e1:=(f3.mem _ _ _ k1).1;obtain rfl:v=.slice a len cap:=by
  simp[World.cell?]at e1;exact e1.symm
 exact⟨_,_,g',h,rfl,⟨rfl,rfl⟩,.fnb _ _ _ _ k1 k2,f3,f4⟩
theorem Zo4(l:List Int)(hl:l.length≤1000000)(h:Heap):Zam Tryz.prog 27 [.fnb (.func 52) (.sl 1 (zR l))] h (fun p h'=>p=.sl 1 (zR (Zkw l))∧h'=h):=by
 refine⟨by kernel_rfl,fun g w vals r ha=>?_⟩;obtain⟨v,rfl,hv⟩:=Xcl ha;cases hv with
 |fnb _ Bm v _ hm h1=>
 have hI:Zrc w.heap.size w v l:=Z4d r h1;have hcell:=(r.mem Bm 0 _ hm).1;have hBm:Bm<w.heap.size:=by
  rcases Nat.lt_or_ge Bm w.heap.size with h1|h1
  ·exact h1
  ·simp[World.cell?,Array.getElem?_eq_none h1]at hcell
 have hseq:=values_stops Fence.wide 1 trivial rfl (Nat.le_refl _) Bm w.heap.size v l (by omega) w hBm (Nat.le_refl _) hcell hI;refine(Zvl 52 #[.pointer (some ⟨Bm,0,none⟩)] (enters_of Tryz.func52 (by kernel_rfl) rfl) (fun ys=>ys=l) (fun pre=>pre<+:l) l.length hl (fun _ h=>by rw[h];exact Nat.le_refl _) w hseq).mono ?_;rintro e w' ⟨v',ss,rfl,rfl,hrow,hb⟩;have hzl:(Zkw ss).length=ss.length:=by simp[Zkw]
 rcases hrow.2 with⟨rfl,hz⟩|⟨gb,cap,cur,rfl,hbase,hgb,r1,r2,r3,r4⟩
 ·have hss:ss=[]:=List.eq_nil_of_length_eq_zero hz;subst hss;obtain⟨R,E⟩:=r.below (Zfb r hb) hb;have e0:zR (Zkw [])=[]:=by simp[Zkw,zR]
  exact⟨_,_,_,h,rfl,⟨rfl,rfl⟩,by rw[e0];exact .slE _ _ _,R,E⟩
 ·have hlen:((Zkw ss).map (Value.int .i64)).length=ss.length:=by simp[Zkw]
  have hget:∀j,j<ss.length→((Zkw ss).map (Value.int .i64)).getD j Go.undef=.int .i64 ((Zkw ss).getD j 0):=fun j hj=>by
   simp[Zx1,hzl,hj]
  obtain⟨m',hr,hm2⟩:=Zqv (cap:=cap) r hb ((Zkw ss).map (Value.int .i64)) ((Zkw ss).map pI) (by simp) (fun j hj g=>by
    rw[hlen]at hj;rw[hget j hj];have:PV.nth ((Zkw ss).map pI) j=pI ((Zkw ss).getD j 0):=by simp[PV.nth,Zx1,hzl,hj]
    rw[this];exact .int _ _) (fun j hj=>by rw[hlen]at hj;rw[hget j hj];rfl) hbase hgb (by rw[hlen];exact r1) (fun j hj=>by
    have h2:(cur.toList.take (ss.length*1))[j]?=((Zkw ss).map (Value.int .i64))[j]?:=by rw[r4]
    rw[hlen]at hj;rw[List.getElem?_take,if_pos (by omega)]at h2;rw[←Array.getElem?_toList,h2,Zx1,Zye (by rw[hlen];exact hj)];rfl)
  obtain⟨R,E⟩:=r.below hm2 hb;rw[hlen]at hr;refine⟨_,.sl 1 (zR (Zkw ss)),⟨m',g.β⟩,h,rfl,⟨rfl,rfl⟩,?_,R,E⟩;have hle:Gh.le ⟨m',fun _=>none⟩ ⟨m',g.β⟩:=⟨fun _ _ _ e=>e,(fun _ _ e=>by cases e),fun _ _ e=>e⟩;have:=hr.mono hle;rw[List.map_map]at this;exact this
end Go.Proofs.w
namespace Go.VM
open Go Go.Proofs.w
theorem Zz5:∀(n:Nat) (r:List Int),r.length=n→(∀i:Nat,i<n→(i:Int)∈r)→(nz (List.range n)).Perm r
 |0,r,hl,_=>by rw[List.eq_nil_of_length_eq_zero hl];exact List.Perm.refl _
 |n+1,r,hl,hm=>by
  have h1:=hm n (by omega);have h2:=Zz5 n (r.erase (n:Int)) (by rw[List.length_erase_of_mem h1,hl];rfl) (fun i hi=>(List.mem_erase_of_ne (by omega)).2 (hm i (by omega)));have e:nz (List.range (n+1))=nz (List.range n)++[(n:Int)]:=by unfold nz;rw[List.range_succ,List.map_append];rfl
  rw[e];exact((List.perm_append_comm).trans (h2.cons _)).trans (List.perm_cons_erase h1).symm
theorem nz_lt(n:Nat):(nz (List.range n)).Pairwise (·<·):=by
  unfold nz;rw[List.pairwise_map];exact List.pairwise_lt_range.imp fun h=>by omega
theorem Zrd{r:List Nat}{x:Int}:x∈nz r↔∃i∈r,(i:Int)=x:=by unfold nz;rw[List.mem_map]
theorem Zre(l:List Int)(n:Nat):decide (Zkw l=nz (List.range n))=Zzq l n:=by
  rw[Bool.eq_iff_iff,Zx3];unfold Zzq;rw[Zx4,Zx3,List.all_eq_true,Zyk];constructor
  · intro h
    have hp:l.Perm (nz (List.range n)):=by rw[←h];exact(List.mergeSort_perm _ _).symm
    refine⟨by rw[hp.length_eq,Zhi,List.length_range],fun i hi=>?_⟩;rw[List.contains_iff_mem,hp.mem_iff,Zrd];exact⟨i,hi,rfl⟩
  · rintro⟨h1,h2⟩
    have hp:=Zz5 n l (by omega) (fun i hi=>by have:=h2 i (List.mem_range.2 hi);rwa [List.contains_iff_mem]at this);have hq:(Zkw l).Perm (nz (List.range n)):=(List.mergeSort_perm _ _).trans hp.symm;have hnd:(Zkw l).Nodup:=hq.nodup_iff.2 ((nz_lt n).imp fun h=>by omega);have hlt:(Zkw l).Pairwise (·<·):=(List.pairwise_and_iff.2 ⟨Zz4 l,hnd⟩).imp fun⟨a,b⟩=>by
      have:∀x y:Int,x≤y→x≠y→x<y:=fun x y h1 h2=>by omega
      exact this _ _ a b
    exact Xcx hlt (nz_lt n) fun x=>hq.mem_iff
def Zz6(n:Int)(K by':List Int):List (List Nat):=if 0≤n∧n≤5∧Zzq by' n=true then(Za3 n.toNat).filter fun r=>Za4 r (by'.map Int.toNat) fun i=>K.contains (i:Int)else[]
theorem Xec{l:List Int}{n:Nat}(h:Zzq l n=true):nz (l.map Int.toNat)=l∧Zot n (l.map Int.toNat):=by
 unfold Zzq at h;rw[Zx4,Zx3,List.all_eq_true,Zyk]at h;obtain⟨h1,h2⟩:=h;have hp:=Zz5 n l (by omega) (fun i hi=>by have:=h2 i (List.mem_range.2 hi);rwa [List.contains_iff_mem]at this);refine⟨?_,by rw[Zyc];omega,fun i hi=>?_⟩
 ·unfold nz;rw[List.map_map];refine(List.map_congr_left fun x hx=>?_).trans (List.map_id _);obtain⟨i,_,e⟩:=Zrd.1 (hp.mem_iff.2 hx);simp only[Function.comp,id];omega
 ·have:=h2 i (List.mem_range.2 hi);rw[List.contains_iff_mem]at this;exact List.mem_map.2 ⟨i,this,by simp⟩
theorem Zci{n:Nat}(hn:n≤5){r:List Nat}(h:r∈Za3 n):r.length=n∧Zot r.length r:=by
 have hok:=Zzn n hn r h;unfold Z7d at hok;simp only[Zx4,Zx3,List.all_eq_true]at hok;obtain⟨⟨⟨h1,h2⟩,h3⟩,_⟩:=hok;refine⟨h1,rfl,fun i hi=>?_⟩;have hs:∀(n:Nat) (r:List Nat),r.Nodup→(∀x∈r,x<n)→r.length=n→∀i,i<n→i∈r:=by
  intro n
  induction n with
  |zero=>intro r _ _ _ i hi;omega
  | succ n ih=>
   intro r hnd hlt hl i hi;by_cases hm:n∈r
   ·by_cases e:i=n
    ·rw[e];exact hm
    ·have:=ih (r.erase n) (hnd.erase n) (fun x hx=>by
      have h1:=hlt x (List.mem_of_mem_erase hx);have h2:x≠n:=fun e=>by rw[e]at hx;exact(hnd.not_mem_erase) hx
      omega) (by rw[List.length_erase_of_mem hm,hl];rfl) i (by omega)
     exact List.mem_of_mem_erase this
   ·exfalso
    have key:∀(n:Nat) (r:List Nat),r.Nodup→(∀x∈r,x<n)→r.length≤n:=by
     intro n
     induction n with
     |zero=>intro r _ h;cases r with
      |nil=>exact Nat.le_refl _
      |cons a r=>have:=h a List.mem_cons_self;omega
     | succ n ih=>
      intro r hnd h;have h1:=ih (r.erase n) (hnd.erase n) (fun x hx=>by
       have h1:=h x (List.mem_of_mem_erase hx);have h2:x≠n:=fun e=>by rw[e]at hx;exact(hnd.not_mem_erase) hx
       omega)
      by_cases hm:n∈r
      ·rw[List.length_erase_of_mem hm]at h1;omega
      ·rw[List.erase_of_not_mem hm]at h1;omega
    have:=key n r hnd (fun x hx=>by
     have h1:=hlt x hx;have h2:x≠n:=fun e=>hm (e▸hx);omega)
    omega
 exact hs n r h3 h2 h1 i (by omega)
end Go.VM
namespace Go.VM
open Go
theorem Zz7{α:Type}(p:α→Bool)(l:List α)(a:α):(l++[a]).filter p=if p a=true then l.filter p++[a]else l.filter p:=by
 rw[List.filter_append];cases h:p a<;>simp[List.filter,h]
theorem Xed(O:List (List Nat)):oR O=llR (O.map nz):=by
 unfold oR llR;rw[List.map_map];refine List.map_congr_left fun r _=>?_;rw[Zmu];rfl
end Go.VM
namespace Go.Proofs.w
open Go Go.VM
noncomputable def Y94:VC:=(ZR [Yw 4 1 1,Yw 5 1 2,ZO 6 (.mv (.c .nilsl))] (.seq (ZR [Yl 10 5,Yc 11 28 [10],Yc 12 27 [11],ZM 7 12] (ZR [ZM 13 0,Yu 14 .lss 13 0,ZM 15 14,Yg 16 0 15 false,ZG 17 (.bin .gtr (.t 16) (Yi 5)) 15 false,Yh 18 15 17,ZM 19 18,Yg 20 7 19 false,Yg 21 0 19 false,ZG 22 (.call 30 [.t 21]) 19 false,ZG 23 (.call 29 [.t 20,.t 22]) 19 false,Yq 24 23 19 false,Yh 25 19 24] (YC 25 (ZR [ZO 6 (.mv (.c .nilsl))] .ret) .skip))) (ZR [ZO 8 (.alloc [.nilsl])] (.seq (ZR [ZM 26 0,Yc 27 31 [26]] (.block 0 (.other (Zzg Tryz.f11)))) (ZR [Yl 39 8,ZM 6 39] .ret)))))
theorem unm0{K:PV→Heap→Prop}{p:PV}{h:Heap}(hok:Heap.le h h)(hd:∀id D o,h.get id≠some (.dfr D o))(hk:K p h):Z64 K p h:=⟨h,hok,fun id D o e=>absurd e (hd id D o),hk⟩
theorem dfr3{L:List (Nat×AB)}{t i D:Nat}{o:Bool}(hL:∀q∈L,q.1=3∨∀D o,q.2≠.dfr D o)(h:Heap.get ⟨L,t⟩ i=some (.dfr D o)):i=3:=by
 rcases hL _ (HL.get_mem h)with h|h
 ·exact h
 ·exact absurd rfl (h D o)
theorem Z4e(n:Nat)(hn0:0<n)(hn5:n≤5)(K:List Int)(hK:K.length≤1000000)(b:List Nat)(hb:Zot n b):Tc 11 [pI n,.sl 1 (zR K),.sl 1 (nR b)] (.sl 1 (oR ((Za3 n).filter fun r=>Za4 r b fun i=>K.contains (i:Int)))):=by
 have hbl:=hb.1;have hnz:Zzq (nz b) n=true:=by
  unfold Zzq;rw[Zx4,Zx3,List.all_eq_true,Zhi,Zyk];refine⟨by omega,fun i hi=>?_⟩;rw[List.contains_iff_mem,Zrd];exact⟨i,hb.2 i (List.mem_range.1 hi),rfl⟩
 have hsr:Zkw (nz b)=nz (List.range n):=by
  have:=Zre (nz b) n;rw[hnz,Zx3]at this;exact this
 have GV:=Zst n (by omega);have EQ:=Zhn (nz (List.range n)) (nz (List.range n)) (by rw[Zhi,List.length_range];omega);rw[Zyf rfl]at EQ;rw[Zmu (List.range n)]at GV;have OF:=Zvj n;have hne:=(Zos n hn5).2.1;have hRP:=fun r (h:r∈Za3 n)=>Zci hn5 h;have hRl:=Zgl n hn5;refine Zac ?_ (by rw[Xed];exact Zh6 _) (CL3 (cI _) (Zb5 _) (Zbm _));refine Zol (vc:=Y94) (ts:=[.t 6]) Tryz.func11 (by kernel_rfl) rfl rfl (Zym rfl) (by kernel_rfl) ?_;simp only[Y94,YY];have g1:decide ((n:Int)<0)=false:=Vf;have g2:decide ((n:Int)>5)=false:=Vf;refine Rp0 [0,4,5] ?_;refine Zav [(0,pI n),(4,.ro [.sl 1 (zR K)]),(5,.ro [.sl 1 (nR b)])] ⟨Vr,View.loc (z:=1) (fz:=false) (es:=[[.sl 1 (zR K)]]) rfl (by simp) rfl (by simp),View.loc (z:=1) (fz:=false) (es:=[[.sl 1 (nR b)]]) rfl (by simp) rfl (by simp),trivial⟩ ?_;refine Zaa<|Rp0 [0,4,5,7] ?_;have AV:=Zo3 (nz b) ⟨[],2⟩;rw[←Zmu]at AV;have AS:=Zo4 (nz b) (by rw[Zhi];omega) ⟨[],2⟩;rw[←Zmu,hsr]at AS;refine Zam.mono AV ?_;rintro p h' ⟨rfl,rfl⟩
 skip
 refine Zam.mono AS ?_;rintro p h' ⟨rfl,rfl⟩
 skip
 refine Rp1 [0,4,5,25] (x2 g1 g2) ?_;refine Zag GV ?_;refine Ap0 EQ ?_;refine Fp0 ?_;refine Rp0 [0,4,5,8] ?_;generalize hF:PV.fn (.func 53) [] [.ro [pI n]]=F at*;refine Zuz rfl (gx:=.tmp 27) (ps:=#[28]) (asg:=Zzh (Zzg Tryz.f11)) (body:=Zok (Zzg Tryz.f11)) (by kernel_rfl) ?_;refine rp0 [4,5,8,27] ?_;refine Zag OF ?_;refine⟨.t 27,53,[.ro [pI n]],rfl,hF.symm,fun l D=>?_⟩;have hI:OrI (fun pre L t=>∃io,4<io∧io<t∧L=stO (lpO l D .ready none (Zp0 K b F)) D (pre.filter fun r=>Za4 r b fun i=>K.contains (i:Int)) io):=by
  refine⟨?_,?_,?_,?_⟩
  ·rintro p L t ⟨io,h1,-,rfl⟩;exact Zz2 h1
  ·rintro p L t ⟨io,h1,h2,rfl⟩;exact stO_lt h1 h2
  ·rintro p L t ⟨io,h1,h2,rfl⟩;exact Z2c (fun fz z h=>by cases h)
  ·rintro p L t t' ⟨io,h1,h2,rfl⟩ hle;exact⟨io,h1,by omega,rfl⟩
 have IT:=Zzy l n hn0 hn5 hI (t0:=6) (fun pre r post L1 t1 ir hrows hInv hir0 hir hoff=>by
  obtain⟨io,q1,q2,rfl⟩:=hInv;have hmem:r∈Za3 n:=by rw[hrows];simp
  obtain⟨hrl,hrp⟩:=hRP r hmem;have hpl:pre.length≤120:=by
   have:=congrArg List.length hrows;rw[Zx5]at this;omega
  have hfl:(pre++[r]).filter (fun r=>Za4 r b fun i=>K.contains (i:Int))=if Za4 r b (fun i=>K.contains (i:Int))=true then(pre.filter fun r=>Za4 r b fun i=>K.contains (i:Int))++[r]else pre.filter fun r=>Za4 r b fun i=>K.contains (i:Int):=Zz7 _ _ _;have hol:(pre.filter fun r=>Za4 r b fun i=>K.contains (i:Int)).length≤1000000:=Nat.le_trans (List.length_filter_le _ _) (by omega);generalize(pre.filter fun r=>Za4 r b fun i=>K.contains (i:Int))=O at*;obtain⟨i2,p1,p2,p3,p4⟩:∃i2,4<i2∧i2<t1∧i2≠ir∧stO (lpO l D .ready none (Zp0 K b F)) D O io=stO (lpO l D .ready none (Zp0 K b F)) D O i2:=by
   by_cases hO:O=[]
   ·subst hO;exact⟨5,by omega,by omega,by omega,rfl⟩
   ·refine⟨io,q1,q2,?_,rfl⟩;exact hoff (io,_) (by rw[Zkf hO];exact List.mem_cons_self)
  rw[p4];refine(Z7y K hK b r n hrl.symm (fun e=>by rw[e]at hrl;simp at hrl;omega) (by omega) hrp (by rw[hrl];exact hb) l D F O ir i2 t1 p1 p2 (by omega) hir p3 hol).mono ?_;rintro v h' ⟨rfl,i3,t3,w1,w2,w3,w4,rfl⟩;exact⟨rfl,_,_,rfl,w3,Zz1 (by omega) w4,i3,w1,w2,by rw[hfl]⟩) (L0:=stO (lpO l D .ready none (Zp0 K b F)) D [] 5) ⟨5,by omega,by omega,rfl⟩
 refine Zam.weakenL (h0:=⟨stO (lpO l D .ready none (Zp0 K b F)) D [] 5,6⟩) ?_ (Zam.mono IT ?_)
 ·rw[Zo2];exact⟨by show 5≤6;omega,rfl,rfl,rfl,trivial⟩
 rintro p h' ⟨L2,t2,rfl,io,q1,q2,rfl⟩;have hOl:((Za3 n).filter fun r=>Za4 r b fun i=>K.contains (i:Int)).length≤1000000:=Nat.le_trans (List.length_filter_le _ _) (by omega);generalize(Za3 n).filter (fun r=>Za4 r b fun i=>K.contains (i:Int))=O at*;have ol:=Zvi O;by_cases hO:O=[]
 ·subst hO;rw[Zo2];refine⟨.ready,none,⟨[(3,.dfr D true),(2,.arr false 1 [[.nilsl]])],t2⟩,by simp,rfl,by simp[Vh],rfl,?_⟩;refine Rp0 [6] ?_;refine Tp0 ?_;refine⟨⟨⟨[(2,.arr false 1 [[.nilsl]])],t2⟩,by simp[Vh],fun i D o h=>?_,View.nil _ _⟩,3,D,rfl,rfl⟩;obtain rfl:=dfr3 (by simp) h;rfl
 ·rw[Zkf hO];have qq:=N5 2 3 4 io t2;refine⟨.ready,none,⟨[(io,.arr false 1 (oR O)),(3,.dfr D true),(2,.arr false 1 [[.own io 0 O.length]])],t2⟩,by simp,by simp[Vh,qq];rfl,by simp[Vh,qq],by simp[Vh,qq],?_⟩;refine Rp1 [6] qq ?_;refine Tp1 qq ?_;refine⟨⟨⟨[(io,.arr false 1 (oR O)),(2,.arr false 1 [[.own io 0 O.length]])],t2⟩,by simp[Vh,qq],fun i D o h=>?_,View.own_all (fz:=false) (by simp[Vh]) ol.symm⟩,3,D,by simp[Vh,qq],rfl⟩;obtain rfl:=dfr3 (by simp) h;simp[Heap.get,HL.get,qq]
theorem Zvm:Tc 30 [pI 0] .nilsl:=by
 refine Zac ?_ Zar (by intro y hy;rw[Zyr]at hy;subst hy;exact cI _);refine Gn (vc:=Y66) [.t 2] Tryz.func30 ?_;simp only[Y66,YY];refine Rp0 [0] ?_;refine Rp0 [0,3] ?_;refine Zaa<|Rp0 [3,5,6] ?_;refine Zab ?_;refine Zai (σ:=Unit) (fun _=>([(3,.nilsl),(5,pI 0),(6,pI 0)],⟨[],0⟩)) (fun _=>0) () ?_ ?_ ?_
 ·exact Fn0
 ·simp only[vmL]
  try trivial
 intro _;simp only[];refine Zaa (Zad [3,5,6,7] ?_);have g:decide ((0:Int)<0)=false:=by decide
 refine Sp1 g ?_;refine Zaa<|Cf ?_;refine Ep0 ?_;exact Rv0 [2]
theorem Z70:Tc 34 [.nilsl] .nilsl:=by
 refine Zac ?_ Zar (by intro y hy;rw[Zyr]at hy;subst hy;exact Zar);refine Gn (vc:=Y84) [.t 2] Tryz.func34 ?_;simp only[Y84,YY];refine Rp0 [0] ?_;refine Zaa<|Rp0 [0,4] ?_;refine fun b hb _=>?_;subst hb;refine Ct ?_;exact Rv0 [2]
theorem Zz8(l:Nat){L0:List (Nat×AB)}{t0:Nat}(n0:Nod L0){Q:List (Nat×AB)→Nat→Prop}
  (hy:AY Tryz.prog l [.nilsl] ⟨L0,t0⟩ (fun v h'=>v=.bool true∧∃L2 t2,h'=⟨L2,t2⟩∧Nod L2∧Q L2 t2)):
  Zam Tryz.prog 53 [.fn (.yield l) [] [],.ro [pI 0]] ⟨L0,t0⟩ (fun _ h'=>∃L2 t2,h'=⟨L2,t2⟩∧Q L2 t2):=by
 refine Zam.drop ?_;refine Gn (vc:=Y90) [] Tryz.func53 ?_;simp only[Y90,YY];refine Rp0 [0,1,3] ?_;refine Zag Zvm ?_;refine Zab ?_;refine Zai (σ:=Unit) (fun _=>([(0,.fn (.yield l) [] []),(1,.ro [pI 0]),(3,.nilsl)],⟨L0,t0⟩)) (fun _=>0) () ?_ ?_ ?_
 ·exact Fn0
 ·exact Zev n0 _
 intro _;simp only[];refine Zab ?_;refine Zaa ?_;refine Zaa (Zra [0,1,3,11] ?_);simp only[vmL,Nat.reduceEqDiff,Nat.reduceLT,reduceCtorEq,Xcw,Z38];refine hy.mono ?_;rintro v h' ⟨rfl,L2,t2,rfl,n2,hQ⟩;refine Sp0 ?_;refine Fp0 ?_;have hx0:IntKind.i64.wrap ((0:Int)-2)= -2:=by decide
 refine Rp1 [0,1,3,4] hx0 ?_;refine Zaa<|Zab ?_;refine Zai (σ:=Unit) (fun _=>([(0,.fn (.yield l) [] []),(1,.ro [pI 0]),(3,.nilsl),(4,pI (-2))],⟨L2,t2⟩)) (fun _=>0) () ?_ ?_ ?_
 ·exact Fn0
 ·exact Zev n2 _
 intro _;simp only[];have g1:decide ((-2:Int)≥0)=false:=by decide
 have g2:decide ((-2:Int)<0)=true:=by decide
 refine Zaa ?_;refine Zaa (Ziv [0,1,3,4,27] ⟨[],t2⟩ (by simp[Vh]) ?_);refine Sp1 g1 ?_;refine Cf ?_;refine Ep0 ?_;refine Zaa<|Rp1 [0,1,3,4,31] g2 ?_;refine Ct ?_;refine Tp0 ?_;exact⟨⟨L2,t2⟩,Zev n2 _,L2,t2,rfl,hQ⟩
theorem Z4f(K:List Int)(hK:K.length≤1000000)(l D:Nat)(F:PV)(t:Nat)(ht:4<t):
  AY Tryz.prog l [.nilsl] ⟨stO (lpO l D .ready none (Zp0 K [] F)) D [] 5,t⟩ (fun v h'=>v=.bool true∧∃L2 t2,h'=⟨L2,t2⟩∧Nod L2∧∃io,4<io∧io<t2∧L2=[(io,.arr false 1 [[.nilsl]]),(4,lpO l D .ready none (Zp0 K [] F)),(3,.dfr D true),(2,.arr false 1 [[.own io 0 1]])]):=by
 have KE:=Zsw K hK;have KP:=Zsx [] [] K ⟨rfl,fun i hi=>by simp at hi⟩ ⟨rfl,fun i hi=>by simp at hi⟩ (by simp);have hk:Za4 [] [] (fun i=>K.contains (i:Int))=true:=rfl;rw[hk]at KP;rw[Zo2];refine AY.drop (Z1x (lid:=4) (l:=l) (ps:=#[28]) (asg:=Zzh (Zzg Tryz.f11)) (body:=Zok (Zzg Tryz.f11)) (D:=D) (n:=Tryz.f11.ntmps) (e0:=Zp0 K [] F) rfl rfl (fun p hp=>by
  simp only[Zyb,Zya,or_false]at hp;subst hp;exact Zym rfl) ?_)
 refine(?_:VW Tryz.prog ⟨Tryz.f11.ntmps,some l,[],fun _ _=>False⟩ Y92 _ _ _) (Zzh (Zzg Tryz.f11)) (by kernel_rfl);simp only[Y92,YY];refine Zad [4,5,8,9] ?_;refine⟨trivial,rfl,rfl,?_⟩;have B:VW Tryz.prog ⟨Tryz.f11.ntmps,some l,[],fun _ _=>False⟩ Y93 (fun x _ h'=>x=.normal∧∃io,4<io∧io<t+20∧Heap.le ⟨[(io,.arr false 1 [[.nilsl]]),(4,lpO l D .busy none (Zp0 K [] F)),(3,.dfr D true),(2,.arr false 1 [[.own io 0 1]])],t+20⟩ h') [(4,.ro [.sl 1 (zR K)]),(5,.ro [.sl 1 (nR [])]),(8,.loc 2 0 0),(9,.nilsl)] ⟨[(4,lpO l D .busy none (Zp0 K [] F)),(3,.dfr D true),(2,.arr false 1 [[.nilsl]])],t⟩:=by
  simp only[Y93,YY];generalize lpO l D .busy none (Zp0 K [] F)=RB;refine Zab ?_;refine Zaa (Ziv [8,9,33] ⟨[],t⟩ (by simp[Vh]) ?_);refine Sp0 ?_;refine⟨_,.inl KE,?_⟩
  skip
  refine⟨_,.inr ⟨[.sl 1 (nR []),.sl 1 (nR []),.agg (Zdl K)],⟨View.nil _ _,Vr,Vr,trivial⟩,KP,Zbs _⟩,?_⟩
  skip
  refine Ct ?_;have qq:=N6 2 3 4 t (t+1) (t+2);refine Zo0 2 [] ⟨[(4,RB),(3,.dfr D true),(2,.arr false 1 [[.nilsl]])],t+20⟩ rfl (by simp[Vh,qq]) ?_;simp only[vmL,Nat.reduceEqDiff,Nat.reduceAdd,Nat.reduceLT,Nat.reduceLeDiff,Nat.reduceMul,Zo1,Zsz,Zz0,Nat.reduceBEq,Nat.reduceAdd,hqA,zedA,Za2,List.getD_cons_zero,List.getD_cons_succ,qq];refine Zag Z70 ?_;simp only[vmL,Nat.reduceEqDiff,Nat.reduceLT,Nat.reduceLeDiff,Zyp,Zyo,VOp.writes,false_implies,implies_true,qq];refine⟨by omega,by omega,by omega,t,ht,by omega,by omega,by rw[if_pos rfl],rfl⟩
 refine AW.mono (B (Zok (Zzg Tryz.f11)) (by kernel_rfl)) ?_;rintro x e h' ⟨rfl,io,q1,q2,q5⟩;have q6:=q5.2;simp only[HL.le]at q6;obtain⟨a,b,c,d,_⟩:=q6;refine⟨b,⟨[(io,.arr false 1 [[.nilsl]]),(4,lpO l D .ready none (Zp0 K [] F)),(3,.dfr D true),(2,.arr false 1 [[.own io 0 1]])],t+20⟩,⟨q5.1,?_⟩,rfl,_,_,rfl,by simp[Nod];omega,io,q1,q2,rfl⟩;simp only[HL.le,Heap.get_set];exact⟨by rw[if_neg (by omega)];exact a,by rw[if_pos trivial,b];rfl,by rw[if_neg (by omega)];exact c,by rw[if_neg (by omega)];exact d,trivial⟩
theorem Z4g(K:List Int)(hK:K.length≤1000000):Tc 11 [pI 0,.sl 1 (zR K),.sl 1 []] (.sl 1 [[.sl 1 []]]):=by
 have EQ:=Zhn [] [] (by simp);rw[Zyf rfl]at EQ;have OF:=Zvj 0;refine Zac ?_ (Zh6 [[]]) (CL3 (cI _) (Zb5 _) (Zb5 []));refine Zol (vc:=Y94) (ts:=[.t 6]) Tryz.func11 (by kernel_rfl) rfl rfl (Zym rfl) (by kernel_rfl) ?_;simp only[Y94,YY];have g1:decide ((0:Int)<0)=false:=by decide
 have g2:decide ((0:Int)>5)=false:=by decide
 refine Rp0 [0,4,5] ?_;refine Zav [(0,pI 0),(4,.ro [.sl 1 (zR K)]),(5,.ro [.sl 1 (nR [])])] ⟨Vr,View.loc (z:=1) (fz:=false) (es:=[[.sl 1 (zR K)]]) rfl (by simp) rfl (by simp),View.loc (z:=1) (fz:=false) (es:=[[.sl 1 []]]) rfl (by simp) rfl (by simp),trivial⟩ ?_;refine Zaa<|Rp0 [0,4,5,7] ?_;refine Zam.mono (Zo3 [] ⟨[],2⟩) ?_;rintro p h' ⟨rfl,rfl⟩
 skip
 refine Zam.mono (Zo4 [] (by simp) ⟨[],2⟩) ?_;rintro p h' ⟨rfl,rfl⟩;have e0:Zkw []=[]:=by simp[Zkw]
 rw[e0]
 skip
 refine Rp1 [0,4,5,25] (x2 g1 g2) ?_;refine Zag Zvm ?_;refine Zsf [.sl 1 (zR []),.sl 1 (zR [])] ⟨Vr,View.nil _ _,trivial⟩ (Zag EQ ?_);refine Sp0 ?_;refine Fp0 ?_;refine Rp0 [0,4,5,8] ?_;generalize hF:PV.fn (.func 53) [] [.ro [pI 0]]=F at*;refine Zuz rfl (gx:=.tmp 27) (ps:=#[28]) (asg:=Zzh (Zzg Tryz.f11)) (body:=Zok (Zzg Tryz.f11)) (by kernel_rfl) ?_;refine rp0 [4,5,8,27] ?_;refine Zag OF ?_;refine⟨.t 27,53,[.ro [pI 0]],rfl,hF.symm,fun l D=>?_⟩;have R0:=Z4f K hK l D F 5 (by omega);rw[Zo2]at R0;have IT:=Zz8 l (by simp[Nod]) R0;refine Zam.weakenL ?_ (Zam.mono IT ?_)
 ·exact⟨Nat.le_refl _,rfl,rfl,rfl,trivial⟩
 rintro p h' ⟨L2,t2,rfl,io,q1,q2,rfl⟩;have qq:=N5 2 3 4 io t2;refine⟨.ready,none,⟨[(io,.arr false 1 [[.nilsl]]),(3,.dfr D true),(2,.arr false 1 [[.own io 0 1]])],t2⟩,by simp,by simp[Vh,qq];rfl,by simp[Vh,qq],by simp[Vh,qq],?_⟩;refine Rp1 [6] qq ?_;refine Tp1 qq ?_;refine⟨⟨⟨[(io,.arr false 1 [[.nilsl]]),(2,.arr false 1 [[.own io 0 1]])],t2⟩,by simp[Vh,qq],fun i D o h=>?_,?_⟩,3,D,by simp[Vh,qq],rfl⟩
 ·obtain rfl:=dfr3 (by simp) h;simp[Heap.get,HL.get,qq]
 ·refine View.ownV (z:=1) (fz:=false) (es:=[[.nilsl]]) (by simp[Vh]) (by simp) rfl (fun i hi=>?_) (fun i j hi hj=>?_)
  ·obtain rfl:i=0:=by omega
   rfl
  ·obtain rfl:i=0:=by omega
   obtain rfl:j=0:=by omega
   exact View.nil _ _
theorem Z4h(n:Int)(K b:List Int)(hb:b.length≤1000000)(hn:¬(0≤n∧n≤5∧Zzq b n=true)):Tc 11 [pI n,.sl 1 (zR K),.sl 1 (zR b)] (.sl 1 []):=by
 refine Zac ?_ (Zb5 []) (CL3 (cI _) (Zb5 _) (Zb5 _));refine Zol (vc:=Y94) (ts:=[.t 6]) Tryz.func11 (by kernel_rfl) rfl rfl (Zym rfl) (by kernel_rfl) ?_;simp only[Y94,YY];refine Rp0 [0,4,5] ?_;refine Zav [(0,pI n),(4,.ro [.sl 1 (zR K)]),(5,.ro [.sl 1 (zR b)])] ⟨Vr,View.loc (z:=1) (fz:=false) (es:=[[.sl 1 (zR K)]]) rfl (by simp) rfl (by simp),View.loc (z:=1) (fz:=false) (es:=[[.sl 1 (zR b)]]) rfl (by simp) rfl (by simp),trivial⟩ ?_;refine Zaa<|Rp0 [0,4,5,7] ?_;refine Zam.mono (Zo3 b ⟨[],2⟩) ?_;rintro p h' ⟨rfl,rfl⟩
 skip
 refine Zam.mono (Zo4 b hb ⟨[],2⟩) ?_;rintro p h' ⟨rfl,rfl⟩
 skip
 by_cases c1:n<0
 ·have g1:=Zyf c1;refine Rp1 [25] g1 ?_;refine Ct ?_;refine Rp0 [6] ?_;refine Tp0 ?_;exact unm0 (by simp[Vh]) (fun id D o=>by simp[Vh]) (View.nil _ _)
 ·have g1:=Zyg c1;by_cases c2:n>5
  ·have g2:=Zyf c2;refine Rp1 [25] (x2 g1 g2) ?_;refine Ct ?_;refine Rp0 [6] ?_;refine Tp0 ?_;exact unm0 (by simp[Vh]) (fun id D o=>by simp[Vh]) (View.nil _ _)
  ·have g2:=Zyg c2;obtain⟨m,rfl⟩:∃m:Nat,n=(m:Int):=⟨n.toNat,by omega⟩;have hb2:Zzq b m=false:=by
    cases h:Zzq b m with
    |false=>rfl
    |true=>exact absurd ⟨by omega,by omega,h⟩ hn
   have GV:=Zst m (by omega);have EQ:=Zhn (Zkw b) (nz (List.range m)) (by unfold Zkw;rw[(List.mergeSort_perm _ _).length_eq];exact hb);rw[Zre,hb2]at EQ;rw[Zmu]at GV;refine Rp1 [25] (x2 g1 g2) ?_;refine Zag GV ?_;refine Ap0 EQ ?_;refine Ct ?_;refine Rp0 [6] ?_;refine Tp0 ?_;exact unm0 (by simp[Vh]) (fun id D o=>by simp[Vh]) (View.nil _ _)
theorem Zo5(n:Int)(K b:List Int)(hK:K.length≤1000000)(hb:b.length≤1000000):Tc 11 [pI n,.sl 1 (zR K),.sl 1 (zR b)] (.sl 1 (llR ((Zz6 n K b).map nz))):=by
 rw[←Xed];unfold Zz6;by_cases h:0≤n∧n≤5∧Zzq b n=true
 ·rw[if_pos h];obtain⟨h0,h5,ho⟩:=h;obtain⟨m,rfl⟩:∃m:Nat,n=(m:Int):=⟨n.toNat,by omega⟩;obtain⟨e1,e2⟩:=Xec ho;rw[Zyk];by_cases hm:m=0
  ·subst hm;have hbn:b=[]:=by
    have:=e2.1;rw[Zyc]at this;exact List.eq_nil_of_length_eq_zero this
   subst hbn;exact Z4g K hK
  ·have:=Z4e m (by omega) (by omega) K hK _ e2;rw[Zmu,e1]at this;exact this
 ·rw[if_neg h];exact Z4h n K b hb h
end Go.Proofs.w
