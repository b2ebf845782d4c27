import Derived.Test.YtcgdjembdjdlhaaGreatDoorYa
import Derived.Test.YtcgdjembdjdlhaaGreatDoorVmPk
import Derived.Test.YtcgdjembdjdlhaaGreatDoorY4
import Derived.Test.YtcgdjembdjdlhaaGreatDoorY1
import Derived.Test.YtcgdjembdjdlhaaGreatDoorVmC
set_option linter.all false
set_option maxRecDepth 20000
set_option maxHeartbeats 0
namespace Go.Proofs.YtcgdjembdjdlhaaGreatDoor.w
open Go Go.VM
def Zb4:VC:=(.seq (ZR [ZM 25 2,ZM 26 1,ZO 27 (.bin .sub (.t 25) (.t 26)),ZO 28 (.bin .eql (.t 27) (.c (.int .i64 1)))] (.cond (.t 28) (ZR [ZM 29 2,ZM 10 29] (ZR [ZM 30 3,ZM 11 30] (.seq (.block 0 (.loop (.seq (ZR [ZM 31 10,ZM 32 11,ZO 33 (.bin .lss (.t 31) (.t 32))] (.cond (.t 33) .skip (.exit 0))) (.block 1 (ZR [ZM 34 10,ZM 35 11,ZO 36 (.bin .add (.t 34) (.t 35)),ZO 37 (.conv .u64 (.t 36)),ZO 38 (.bin .shr (.t 37) (.c (.int .u64 1))),ZO 39 (.conv .i64 (.t 38)),ZM 12 39] (.seq (.region [ZM 40 4,ZM 41 0,ZM 42 12,ZO 43 (.iaddr 8 (.t 41) (.t 42)),ZO 44 (.load true 8 (.t 43)),ZM 45 0,ZM 46 1,ZO 47 (.iaddr 8 (.t 45) (.t 46)),ZO 48 (.load true 8 (.t 47)),ZO 49 (.callv (.t 40) [.t 44,.t 48]),ZO 50 (.bin .lss (.t 49) (.c (.int .i64 0)))] true) (.cond (.t 50) (.region [ZM 51 12,ZO 52 (.bin .add (.t 51) (.c (.int .i64 1))),ZM 10 52] false) (.region [ZM 53 12,ZM 11 53] false)))))))) (.seq (ZR [ZM 54 1,ZM 13 54] (.block 2 (.loop (.seq (ZR [ZM 55 13,ZM 56 10,ZO 57 (.bin .sub (.t 56) (.c (.int .i64 1))),ZO 58 (.bin .lss (.t 55) (.t 57))] (.cond (.t 58) .skip (.exit 2))) (.seq (.block 3 (.draw2 [ZM 61 0,ZM 62 13,ZM 63 0,ZM 64 13,ZO 65 (.bin .add (.t 64) (.c (.int .i64 1))),ZM 66 0,ZM 67 13,ZO 68 (.bin .add (.t 67) (.c (.int .i64 1))),ZO 69 (.iaddr 8 (.t 66) (.t 68)),ZO 70 (.load true 8 (.t 69)),ZM 71 0,ZM 72 13,ZO 73 (.iaddr 8 (.t 71) (.t 72)),ZO 74 (.load true 8 (.t 73)),ZO 75 (.iaddr 8 (.t 61) (.t 62)),ZN (.store 8 (.t 75) (.t 70)),ZO 76 (.iaddr 8 (.t 63) (.t 65)),ZN (.store 8 (.t 76) (.t 74))] [true,true,false,false,false,true,true,true,true,true,true,true,true,true,true,false,false,false])) (.region [ZM 59 13,ZO 60 (.bin .add (.t 59) (.c (.int .i64 1))),ZM 13 60] false)))))) .ret)))) .skip)) (.seq (ZR [ZM 77 3,ZM 78 2,ZO 79 (.bin .sub (.t 77) (.t 78)),ZO 80 (.bin .eql (.t 79) (.c (.int .i64 1)))] (.cond (.t 80) (ZR [ZM 81 1,ZM 14 81] (ZR [ZM 82 2,ZM 15 82] (.seq (.block 4 (.loop (.seq (ZR [ZM 83 14,ZM 84 15,ZO 85 (.bin .lss (.t 83) (.t 84))] (.cond (.t 85) .skip (.exit 4))) (.block 5 (ZR [ZM 86 14,ZM 87 15,ZO 88 (.bin .add (.t 86) (.t 87)),ZO 89 (.conv .u64 (.t 88)),ZO 90 (.bin .shr (.t 89) (.c (.int .u64 1))),ZO 91 (.conv .i64 (.t 90)),ZM 16 91] (.seq (.region [ZM 92 4,ZM 93 0,ZM 94 2,ZO 95 (.iaddr 8 (.t 93) (.t 94)),ZO 96 (.load true 8 (.t 95)),ZM 97 0,ZM 98 16,ZO 99 (.iaddr 8 (.t 97) (.t 98)),ZO 100 (.load true 8 (.t 99)),ZO 101 (.callv (.t 92) [.t 96,.t 100]),ZO 102 (.bin .lss (.t 101) (.c (.int .i64 0))),ZO 103 (.un .not (.t 102))] true) (.cond (.t 103) (.region [ZM 104 16,ZO 105 (.bin .add (.t 104) (.c (.int .i64 1))),ZM 14 105] false) (.region [ZM 106 16,ZM 15 106] false)))))))) (.seq (ZR [ZM 107 2,ZM 17 107] (.block 6 (.loop (.seq (ZR [ZM 108 17,ZM 109 14,ZO 110 (.bin .gtr (.t 108) (.t 109))] (.cond (.t 110) .skip (.exit 6))) (.seq (.block 7 (.draw2 [ZM 113 0,ZM 114 17,ZM 115 0,ZM 116 17,ZO 117 (.bin .sub (.t 116) (.c (.int .i64 1))),ZM 118 0,ZM 119 17,ZO 120 (.bin .sub (.t 119) (.c (.int .i64 1))),ZO 121 (.iaddr 8 (.t 118) (.t 120)),ZO 122 (.load true 8 (.t 121)),ZM 123 0,ZM 124 17,ZO 125 (.iaddr 8 (.t 123) (.t 124)),ZO 126 (.load true 8 (.t 125)),ZO 127 (.iaddr 8 (.t 113) (.t 114)),ZN (.store 8 (.t 127) (.t 122)),ZO 128 (.iaddr 8 (.t 115) (.t 117)),ZN (.store 8 (.t 128) (.t 126))] [true,true,false,false,false,true,true,true,true,true,true,true,true,true,true,false,false,false])) (.region [ZM 111 17,ZO 112 (.bin .sub (.t 111) (.c (.int .i64 1))),ZM 17 112] false)))))) .ret)))) .skip)) (ZR [ZM 129 1,ZM 130 3,ZO 131 (.bin .add (.t 129) (.t 130)),ZO 132 (.conv .u64 (.t 131)),ZO 133 (.bin .shr (.t 132) (.c (.int .u64 1))),ZO 134 (.conv .i64 (.t 133)),ZM 18 134] (ZR [ZM 135 18,ZM 136 2,ZO 137 (.bin .add (.t 135) (.t 136)),ZM 19 137] (ZR [ZO 20 (.mv (.c (.int .i64 0))),ZO 21 (.mv (.c (.int .i64 0)))] (.seq (ZR [ZM 138 2,ZM 139 18,ZO 140 (.bin .gtr (.t 138) (.t 139))] (.cond (.t 140) (ZR [ZM 141 19,ZM 142 3,ZO 143 (.bin .sub (.t 141) (.t 142)),ZM 20 143] (.region [ZM 144 18,ZM 21 144] false)) (ZR [ZM 145 1,ZM 20 145] (.region [ZM 146 2,ZM 21 146] false)))) (ZR [ZM 147 19,ZO 148 (.bin .sub (.t 147) (.c (.int .i64 1))),ZM 22 148] (.seq (.block 8 (.loop (.seq (ZR [ZM 149 20,ZM 150 21,ZO 151 (.bin .lss (.t 149) (.t 150))] (.cond (.t 151) .skip (.exit 8))) (.block 9 (ZR [ZM 152 20,ZM 153 21,ZO 154 (.bin .add (.t 152) (.t 153)),ZO 155 (.conv .u64 (.t 154)),ZO 156 (.bin .shr (.t 155) (.c (.int .u64 1))),ZO 157 (.conv .i64 (.t 156)),ZM 23 157] (.seq (.region [ZM 158 4,ZM 159 0,ZM 160 22,ZM 161 23,ZO 162 (.bin .sub (.t 160) (.t 161)),ZO 163 (.iaddr 8 (.t 159) (.t 162)),ZO 164 (.load true 8 (.t 163)),ZM 165 0,ZM 166 23,ZO 167 (.iaddr 8 (.t 165) (.t 166)),ZO 168 (.load true 8 (.t 167)),ZO 169 (.callv (.t 158) [.t 164,.t 168]),ZO 170 (.bin .lss (.t 169) (.c (.int .i64 0))),ZO 171 (.un .not (.t 170))] true) (.cond (.t 171) (.region [ZM 172 23,ZO 173 (.bin .add (.t 172) (.c (.int .i64 1))),ZM 20 173] false) (.region [ZM 174 23,ZM 21 174] false)))))))) (ZR [ZM 175 19,ZM 176 20,ZO 177 (.bin .sub (.t 175) (.t 176)),ZM 24 177] (.seq (ZR [ZM 178 20,ZM 179 2,ZO 180 (.bin .lss (.t 178) (.t 179)),ZM 181 180,ZG 182 (.mv (.t 2)) 181 true,ZG 183 (.mv (.t 24)) 181 true,ZG 184 (.bin .lss (.t 182) (.t 183)) 181 true,ZO 185 (.pick (.t 181) (.t 184) (.c (.bool false)))] (.cond (.t 185) (.region [ZM 186 0,ZM 187 20,ZM 188 2,ZM 189 24,ZM 190 4,ZO 191 (.call 232 [.t 186,.t 187,.t 188,.t 189,.t 190])] false) .skip)) (.seq (ZR [ZM 192 1,ZM 193 20,ZO 194 (.bin .lss (.t 192) (.t 193)),ZM 195 194,ZG 196 (.mv (.t 20)) 195 true,ZG 197 (.mv (.t 18)) 195 true,ZG 198 (.bin .lss (.t 196) (.t 197)) 195 true,ZO 199 (.pick (.t 195) (.t 198) (.c (.bool false)))] (.cond (.t 199) (.region [ZM 200 0,ZM 201 1,ZM 202 20,ZM 203 18,ZM 204 4,ZO 205 (.call 214 [.t 200,.t 201,.t 202,.t 203,.t 204])] false) .skip)) (ZR [ZM 206 18,ZM 207 24,ZO 208 (.bin .lss (.t 206) (.t 207)),ZM 209 208,ZG 210 (.mv (.t 24)) 209 true,ZG 211 (.mv (.t 3)) 209 true,ZG 212 (.bin .lss (.t 210) (.t 211)) 209 true,ZO 213 (.pick (.t 209) (.t 212) (.c (.bool false)))] (.cond (.t 213) (.region [ZM 214 0,ZM 215 18,ZM 216 24,ZM 217 3,ZM 218 4,ZO 219 (.call 214 [.t 214,.t 215,.t 216,.t 217,.t 218])] false) .skip)))))))))))))
theorem half_uU {n:Nat} (h:n≤4611686018427387904):IntKind.i64.wrap ((IntKind.u64.wrap (n:Int)).fdiv (2 ^ min 1 IntKind.u64.bits))=((n / 2:Nat):Int):=by
 have e1:IntKind.u64.wrap (n:Int)=(n:Int):=by
  simp only [IntKind.wrap,IntKind.signed,IntKind.bits];simp;omega
 have e2:(2:Int) ^ min 1 IntKind.u64.bits=2:=by decide
 have e3:(n:Int).fdiv 2=((n / 2:Nat):Int):=by
  rw [Int.fdiv_eq_ediv_of_nonneg _ (by omega)];omega
 rw [e1,e2,e3,w64 (by omega) (by omega)]
theorem rot_lU (d:Nat→Un) {m e:Nat}:Rot d d m m e:=⟨fun _ _=>rfl,fun i hi=>rfl,fun i hi=>by omega⟩
theorem rot_rU (d:Nat→Un) {s m:Nat}:Rot d d s m m:=⟨fun _ _=>rfl,fun i hi=>by omega,fun i hi=>by rw [show s+(m-m)+i=s+i by omega]⟩
theorem mrg_noneU {u:Un} (d:Nat→Un) {a s b:Nat} (h:s=a∨s=b):Mrg (leU u) d d a s b:=Mrg.of_sorted fun h1 h2=>by
 rcases h with rfl|rfl
 ·exact h2
 ·exact h1
theorem sp_symMergeU {u : Un} (hu : SmU u) : ∀ (z id N a m b t : Nat) (d : Nat → Un), b - a ≤ z → id < t → a < m → m < b → b ≤ N → N ≤ 1000000 →
  Zal Tryz.prog 214 [.own id 0 N,pI a,pI m,pI b,.fn (.func 119) [] [.ro u.enc]] ⟨[(id,.arr false 8 (rwsU d N))],t⟩
   (fun _ h'=>∃ d',Mrg (leU u) d d' a m b∧∃ t',t≤t'∧h'=⟨[(id,.arr false 8 (rwsU d' N))],t'⟩):=by
 intro z
 induction z with
 | zero=>intro id N a m b t d h1 h2 h3 h4;omega
 | succ z ih =>
 intro id N a m b t d hz hid ham hmb hbN hN;refine Gn (vc:=Zb4) [] Tryz.func214 ?_;unfold Zb4;try dsimp only [ZM,ZO,ZN,ZG,ZR,ZU]
 have e1:=sbIU (a:=m) (b:=a) (by omega) (by omega);have e2:=sbIU (a:=b) (b:=m) (by omega) (by omega);refine Zaa ?_;refine Rp1 [0,1,2,3,4,28] e1 ?_;refine Zac rfl (fun h1=>?_) (fun h1=>?_)
 ·simp only [beq_iff_eq] at h1;obtain rfl:m=a+1:=by omega
  refine Rp0 [0,1,3,4,10] ?_;refine Rp0 [0,1,4,10,11] ?_;refine Zaa ?_;refine Zab ?_;refine Zah (σ:={ s:Nat×Nat//a+1≤s.1∧s.1≤s.2∧s.2≤b∧(s.2=b∨(leU u) (d a) (d s.2))∧(s.1=a+1∨(leU u) (d (s.1-1)) (d a)) }) (fun s=>([(0,.own id 0 N),(1,pI a),(4,.fn (.func 119) [] [.ro u.enc]),(10,pI s.1.1),(11,pI s.1.2)],⟨[(id,.arr false 8 (rwsU d N))],t⟩)) (fun s=>s.1.2-s.1.1) ⟨(a+1,b),⟨Nat.le_refl _,by show a+1≤b;omega,Nat.le_refl _,.inl rfl,.inl rfl⟩⟩ ?_ ?_ ?_
  ·exact Fn0
  ·exact Fn0
  rintro ⟨⟨i,j⟩,hi,hij,hj,hgj,hgi⟩;simp only [] at hi hij hj hgj hgi ⊢;refine Zaa ?_;refine Rp0 [0,1,4,10,11,33] ?_;refine Zac rfl (fun h2=>?_) (fun h2=>?_)
  ·refine Kp0 ?_;simp only [decide_eq_true_eq] at h2;have e3:=adIU (a:=i) (b:=j) (by omega);have e4:=half_uU (n:=i+j) (by omega);obtain ⟨c,hc⟩:∃ c,c=(i+j) / 2:=⟨_,rfl⟩;rw [← hc] at e4;have hci:i≤c:=by omega
   have hcj:c<j:=by omega
   refine Zab ?_;refine Rp1 [0,1,4,10,11,12] (x2 e3 e4) ?_;refine Ok ?_;have g1:∀ d:Nat→Un,(rwsU d N).getD c []=(d c).enc:=fun d=>Zcd (by omega);have g2:∀ d:Nat→Un,(rwsU d N).getD a []=(d a).enc:=fun d=>Zcd (by omega);refine Zaa (VW_drawS [0,1,4,10,11,12,50] (by simp [Heap.le,Heap.get,HL.le,HL.get]) ?_);simp only [vmL,Nat.reduceEqDiff,reduceCtorEq,e4,g1,g2,un_take8,un_len8,rws_lenU];refine Ok ?_;refine ⟨_,.inl (sp_own_1 hu ..),?_⟩;refine Sp1 @cmpU_lt ?_;refine Zac rfl (fun h3=>?_) (fun h3=>?_)
   ·refine Zae [0,1,4,10,11] ?_;simp only [vmL,Nat.reduceEqDiff,reduceCtorEq,ad1U (a:=c) (by omega)];refine ⟨⟨(c+1,j),by show a+1≤c+1;omega,by show c+1≤j;omega,hj,hgj,.inr (leU_of_ahead h3)⟩,?_⟩;exact Fn0
   ·refine rp0 [0,1,4,10,11] ?_;refine ⟨⟨(i,c),hi,hci,by show c≤b;omega,.inr h3,hgi⟩,?_⟩;exact Fn0
  ·simp only [decide_eq_false_iff_not] at h2;obtain rfl:i=j:=by omega
   refine Ep0 ?_;refine Zaa ?_;refine Rp0 [0,10,13] ?_;refine Zab ?_;refine Zah (σ:={ s:Nat×(Nat→Un)×Nat//a≤s.1∧s.1<i∧Rot d s.2.1 a (a+1) (s.1+1)∧t≤s.2.2 }) (fun s=>([(0,.own id 0 N),(10,pI i),(13,pI s.1.1)],⟨[(id,.arr false 8 (rwsU s.1.2.1 N))],s.1.2.2⟩)) (fun s=>i-s.1.1) ⟨(a,d,t),⟨Nat.le_refl _,by show a<i;omega,Rot.refl_left d a,Nat.le_refl _⟩⟩ ?_ ?_ ?_
   ·exact Fn0
   ·exact Fn0
   rintro ⟨⟨k,d2,t2⟩,hk,hki,hrot,ht2⟩;simp only [] at hk hki hrot ht2 ⊢;have e3:=sb1U (a:=i) (by omega) (by omega);refine Zaa ?_;refine Rp1 [0,10,13,58] e3 ?_;refine Zac rfl (fun h4=>?_) (fun h4=>?_)
   ·refine Kp0 ?_;simp only [decide_eq_true_eq] at h4;have e4:=ad1U (a:=k) (by omega);have g1:∀ d:Nat→Un,(rwsU d N).getD k []=(d k).enc:=fun d=>Zcd (by omega);have g2:∀ d:Nat→Un,(rwsU d N).getD (k+1) []=(d (k+1)).enc:=fun d=>Zcd (by omega);refine Zaa ?_;refine Zab ?_;refine VW_draw2H [0,10,13] (by simp [Heap.le,Heap.get,HL.le,HL.get]) ?_;simp only [vmL,Nat.reduceEqDiff,Nat.reduceAdd,reduceCtorEq,e4,g1,g2,un_take8,un_len8,un_drop8,rws_lenU,rws_setU,List.append_nil];refine Ok ?_;refine rp1 [0,10,13] e4 ?_;refine ⟨⟨(k+1,updU (updU d2 k (d2 (k+1))) (k+1) (d2 k),t2),by show a≤k+1;omega,by show k+1<i;omega,Rot.up hk hrot (swp_oneU' d2 k),ht2⟩,?_⟩;exact Fn0
   ·simp only [decide_eq_false_iff_not] at h4;obtain rfl:i=k+1:=by omega
    refine Ep0 ?_;refine Tp0 ?_;exact ⟨d2,Mrg.ins_left leU_trans (by omega) (by omega) hrot hgj hgi,t2,ht2,rfl⟩
 simp only [beq_eq_false_iff_ne,ne_eq] at h1;refine Kp0 ?_;refine Zaa ?_;refine Rp1 [0,1,2,3,4,80] e2 ?_;refine Zac rfl (fun h5=>?_) (fun h5=>?_)
 ·simp only [beq_iff_eq] at h5;obtain rfl:b=m+1:=by omega
  refine Rp0 [0,2,4,14] ?_;refine Rp0 [0,2,4,14,15] ?_;refine Zaa ?_;refine Zab ?_;refine Zah (σ:={ s:Nat×Nat//a≤s.1∧s.1≤s.2∧s.2≤m∧(s.1=a∨(leU u) (d (s.1-1)) (d m))∧(s.2=m∨(leU u) (d m) (d s.2)) }) (fun s=>([(0,.own id 0 N),(2,pI m),(4,.fn (.func 119) [] [.ro u.enc]),(14,pI s.1.1),(15,pI s.1.2)],⟨[(id,.arr false 8 (rwsU d N))],t⟩)) (fun s=>s.1.2-s.1.1) ⟨(a,m),⟨Nat.le_refl _,by show a≤m;omega,Nat.le_refl _,.inl rfl,.inl rfl⟩⟩ ?_ ?_ ?_
  ·exact Fn0
  ·exact Fn0
  rintro ⟨⟨i,j⟩,hi,hij,hj,hgi,hgj⟩;simp only [] at hi hij hj hgj hgi ⊢;refine Zaa ?_;refine Rp0 [0,2,4,14,15,85] ?_;refine Zac rfl (fun h6=>?_) (fun h6=>?_)
  ·refine Kp0 ?_;simp only [decide_eq_true_eq] at h6;have e3:=adIU (a:=i) (b:=j) (by omega);have e4:=half_uU (n:=i+j) (by omega);obtain ⟨c,hc⟩:∃ c,c=(i+j) / 2:=⟨_,rfl⟩;rw [← hc] at e4;have hci:i≤c:=by omega
   have hcj:c<j:=by omega
   refine Zab ?_;refine Rp1 [0,2,4,14,15,16] (x2 e3 e4) ?_;refine Ok ?_;have g1:∀ d:Nat→Un,(rwsU d N).getD c []=(d c).enc:=fun d=>Zcd (by omega);have g2:∀ d:Nat→Un,(rwsU d N).getD m []=(d m).enc:=fun d=>Zcd (by omega);refine Zaa (VW_drawS [0,2,4,14,15,16,103] (by simp [Heap.le,Heap.get,HL.le,HL.get]) ?_);simp only [vmL,Nat.reduceEqDiff,reduceCtorEq,e4,g1,g2,un_take8,un_len8,rws_lenU];refine Ok ?_;refine ⟨_,.inl (sp_own_1 hu ..),?_⟩;refine Sp1 @cmpU_lt ?_;refine Zac rfl (fun h7=>?_) (fun h7=>?_)
   ·simp only [Bool.not_eq_true'] at h7;refine Zae [0,2,4,14,15] ?_;simp only [vmL,Nat.reduceEqDiff,reduceCtorEq,ad1U (a:=c) (by omega)];refine ⟨⟨(c+1,j),by show a≤c+1;omega,by show c+1≤j;omega,hj,.inr h7,hgj⟩,?_⟩;exact Fn0
   ·simp only [Bool.not_eq_false'] at h7;refine rp0 [0,2,4,14,15] ?_;refine ⟨⟨(i,c),hi,hci,by show c≤m;omega,hgi,.inr (leU_of_ahead h7)⟩,?_⟩;exact Fn0
  ·simp only [decide_eq_false_iff_not] at h6;obtain rfl:i=j:=by omega
   refine Ep0 ?_;refine Zaa ?_;refine Rp0 [0,14,17] ?_;refine Zab ?_;refine Zah (σ:={ s:Nat×(Nat→Un)×Nat//i≤s.1∧s.1≤m∧Rot d s.2.1 s.1 m (m+1)∧t≤s.2.2 }) (fun s=>([(0,.own id 0 N),(14,pI i),(17,pI s.1.1)],⟨[(id,.arr false 8 (rwsU s.1.2.1 N))],s.1.2.2⟩)) (fun s=>s.1.1) ⟨(m,d,t),⟨by show i≤m;omega,Nat.le_refl _,Rot.refl_right d m,Nat.le_refl _⟩⟩ ?_ ?_ ?_
   ·exact Fn0
   ·exact Fn0
   rintro ⟨⟨k,d2,t2⟩,hk,hkm,hrot,ht2⟩;simp only [] at hk hkm hrot ht2 ⊢;refine Zaa ?_;refine Rp0 [0,14,17,110] ?_;refine Zac rfl (fun h8=>?_) (fun h8=>?_)
   ·refine Kp0 ?_;simp only [decide_eq_true_eq] at h8;obtain ⟨q,rfl⟩:∃ q,k=q+1:=⟨k-1,by omega⟩;have e4:IntKind.i64.wrap (((q+1:Nat):Int)-1)=((q:Nat):Int):=by rw [w64 (by omega) (by omega)];omega
    have g1:∀ d:Nat→Un,(rwsU d N).getD q []=(d q).enc:=fun d=>Zcd (by omega);have g2:∀ d:Nat→Un,(rwsU d N).getD (q+1) []=(d (q+1)).enc:=fun d=>Zcd (by omega);refine Zaa ?_;refine Zab ?_;refine VW_draw2H [0,14,17] (by simp [Heap.le,Heap.get,HL.le,HL.get]) ?_;simp only [vmL,Nat.reduceEqDiff,Nat.reduceAdd,reduceCtorEq,e4,g1,g2,un_take8,un_len8,un_drop8,rws_lenU,rws_setU,List.append_nil];refine Ok ?_;refine rp1 [0,14,17] e4 ?_;refine ⟨⟨(q,updU (updU d2 (q+1) (d2 q)) q (d2 (q+1)),t2),by show i≤q;omega,by show q≤m;omega,Rot.down hkm hrot (swp_oneU d2 q),ht2⟩,?_⟩;exact Fn0
   ·simp only [decide_eq_false_iff_not] at h8;obtain rfl:i=k:=by omega
    refine Ep0 ?_;refine Tp0 ?_;exact ⟨d2,Mrg.ins_right leU_trans (by omega) (by omega) hrot hgi hgj,t2,ht2,rfl⟩
 simp only [beq_eq_false_iff_ne,ne_eq] at h5;refine Kp0 ?_;have e3:=adIU (a:=a) (b:=b) (by omega);have e4:=half_uU (n:=a+b) (by omega);obtain ⟨mid,hmid⟩:∃ c,c=(a+b) / 2:=⟨_,rfl⟩;rw [← hmid] at e4;have hmid1:a<mid:=by omega
 have hmid2:mid<b:=by omega
 have e5:=adIU (a:=mid) (b:=m) (by omega);refine Rp1 [0,1,2,3,4,18] (x2 e3 e4) ?_;refine Ok ?_;refine Rp1 [0,1,2,3,4,18,19] e5 ?_;refine Rp0 [0,1,2,3,4,18,19] ?_;refine Zaa ?_;refine Zbl (σ:={ s:Nat×Nat//(s.1=a∨s.1+b=mid+m)∧(s.2=m∨s.2=mid)∧a≤s.1∧s.1≤s.2∧s.2≤m∧s.2≤mid∧mid+m≤s.1+b }) (fun s=>([(0,.own id 0 N),(1,pI a),(2,pI m),(3,pI b),(4,.fn (.func 119) [] [.ro u.enc]),(18,pI mid),(19,pI (mid+m:Nat)),(20,pI s.1.1),(21,pI s.1.2)],⟨[(id,.arr false 8 (rwsU d N))],t⟩)) ?_ (fun s=>?_)
 ·refine Rp0 [0,1,2,3,4,18,19,140] ?_;refine Zac rfl (fun h9=>?_) (fun h9=>?_)
  ·simp only [decide_eq_true_eq] at h9;refine Zaa (Zae [0,1,2,3,4,18,19,20] ?_);simp only [vmL,Nat.reduceEqDiff,reduceCtorEq,sbIU (a:=mid+m) (b:=b) (by omega) (by omega)];refine rp0 [0,1,2,3,4,18,19,20,21] ?_;refine ⟨⟨(mid+m-b,mid),⟨.inr (by show mid+m-b+b=mid+m;omega),.inr rfl,by show a≤mid+m-b;omega,by show mid+m-b≤mid;omega,by show mid≤m;omega,Nat.le_refl _,by show mid+m≤mid+m-b+b;omega⟩⟩,?_⟩;exact Fn0
  ·simp only [decide_eq_false_iff_not] at h9;refine Rp0 [0,1,2,3,4,18,19,20] ?_;refine rp0 [0,1,2,3,4,18,19,20,21] ?_;refine ⟨⟨(a,m),⟨.inl rfl,.inl rfl,Nat.le_refl _,by show a≤m;omega,Nat.le_refl _,by show m≤mid;omega,by show mid+m≤a+b;omega⟩⟩,?_⟩;exact Fn0
 obtain ⟨⟨st,r⟩,hst,hr,hast,hstr,hrm,hrmid,hstb⟩:=s;simp only [] at hst hr hast hstr hrm hrmid hstb ⊢;have e6:=sb1U (a:=mid+m) (by omega) (by omega);refine Rp1 [0,1,2,3,4,18,19,20,21,22] e6 ?_;refine Zaa ?_;refine Zab ?_;refine Zah (σ:={ s:Nat×Nat//st≤s.1∧s.1≤s.2∧s.2≤r∧(s.1=st∨(leU u) (d (s.1-1)) (d (mid+m-1-(s.1-1))))∧(s.2=r∨(leU u) (d (mid+m-1-s.2)) (d s.2)) })
  (fun s=>([(0,.own id 0 N),(1,pI a),(2,pI m),(3,pI b),(4,.fn (.func 119) [] [.ro u.enc]),(18,pI mid),(19,pI (mid+m:Nat)),(20,pI s.1.1),(21,pI s.1.2),(22,pI (mid+m-1:Nat))],⟨[(id,.arr false 8 (rwsU d N))],t⟩)) (fun s=>s.1.2-s.1.1) ⟨(st,r),⟨Nat.le_refl _,hstr,Nat.le_refl _,.inl rfl,.inl rfl⟩⟩ ?_ ?_ ?_
 ·exact Fn0
 ·exact Fn0
 rintro ⟨⟨s,r1⟩,hs1,hs2,hs3,hg1,hg2⟩;simp only [] at hs1 hs2 hs3 hg1 hg2 ⊢;refine Zaa ?_;refine Rp0 [0,1,2,3,4,18,19,20,21,22,151] ?_;refine Zac rfl (fun h10=>?_) (fun h10=>?_)
 ·refine Kp0 ?_;simp only [decide_eq_true_eq] at h10;have f3:=adIU (a:=s) (b:=r1) (by omega);have f4:=half_uU (n:=s+r1) (by omega);obtain ⟨c,hc⟩:∃ c,c=(s+r1) / 2:=⟨_,rfl⟩;rw [← hc] at f4;have hci:s≤c:=by omega
  have hcj:c<r1:=by omega
  have f5:=sbIU (a:=mid+m-1) (b:=c) (by omega) (by omega);refine Zab ?_;refine Rp1 [0,1,2,3,4,18,19,20,21,22,23] (x2 f3 f4) ?_;refine Ok ?_;have g1:∀ d:Nat→Un,(rwsU d N).getD c []=(d c).enc:=fun d=>Zcd (by omega);have g2:∀ d:Nat→Un,(rwsU d N).getD (mid+m-1-c) []=(d (mid+m-1-c)).enc:=fun d=>Zcd (by omega);refine Zaa (VW_drawS [0,1,2,3,4,18,19,20,21,22,23,171] (by simp [Heap.le,Heap.get,HL.le,HL.get]) ?_);simp only [vmL,Nat.reduceEqDiff,reduceCtorEq,f5,g1,g2,un_take8,un_len8,rws_lenU];refine Ok ?_;refine ⟨_,.inl (sp_own_1 hu ..),?_⟩;refine Sp1 @cmpU_lt ?_;refine Zac rfl (fun h11=>?_) (fun h11=>?_)
  ·simp only [Bool.not_eq_true'] at h11;refine Zae [0,1,2,3,4,18,19,20,21,22] ?_;simp only [vmL,Nat.reduceEqDiff,reduceCtorEq,ad1U (a:=c) (by omega)];refine ⟨⟨(c+1,r1),by show st≤c+1;omega,by show c+1≤r1;omega,hs3,.inr h11,hg2⟩,?_⟩;exact Fn0
  ·simp only [Bool.not_eq_false'] at h11;refine rp0 [0,1,2,3,4,18,19,20,21,22] ?_;refine ⟨⟨(s,c),hs1,hci,by show c≤r;omega,hg1,.inr (leU_of_ahead h11)⟩,?_⟩;exact Fn0
 simp only [decide_eq_false_iff_not] at h10;obtain rfl:s=r1:=by omega
 have hcut:=cut_of_search (le:=(leU u)) (d:=d) (a:=a) (m:=m) (b:=b) (mid:=mid) (n:=mid+m) (s:=s) (st:=st) (r:=r) rfl ⟨by omega,by omega⟩ ⟨hs1,hs3⟩ ⟨by omega,by omega⟩ hst hr hg1 hg2;obtain ⟨en,hen⟩:∃ e,e=mid+m-s:=⟨_,rfl⟩;have f6:=sbIU (a:=mid+m) (b:=s) (by omega) (by omega);rw [← hen] at f6 hcut;refine Ep0 ?_;refine Rp1 [0,1,2,3,4,18,20,24] f6 ?_;refine Zaa ?_;refine Zbl (σ:={ x:(Nat→Un)×Nat//Rot d x.1 s m en∧t≤x.2 }) (fun x=>([(0,.own id 0 N),(1,pI a),(3,pI b),(4,.fn (.func 119) [] [.ro u.enc]),(18,pI mid),(20,pI s),(24,pI en)],⟨[(id,.arr false 8 (rwsU x.1.1 N))],x.1.2⟩)) ?_ (fun x=>?_)
 ·refine VW_seqJ (σ:=Unit) [0,1,2,3,4,18,20,24,185] (fun _=>([(0,.own id 0 N),(1,pI a),(2,pI m),(3,pI b),(4,.fn (.func 119) [] [.ro u.enc]),(18,pI mid),(20,pI s),(24,pI en),(185,.bool (decide (s<m∧m<en)))],⟨[(id,.arr false 8 (rwsU d N))],t⟩)) ?_ (fun _=>?_)
  ·by_cases c1:s<m<;>by_cases c2:m<en
   all_goals
    simp only [c1,c2,decide_true,decide_false,true_and,and_true,false_and,and_false]
    first
    |have q1:decide ((s:Int)<(m:Int))=true:=decide_eq_true (by omega)
     first
     |have q2:decide ((m:Int)<(en:Int))=true:=decide_eq_true (by omega)
      refine Sp1 (x2 q1 q2) ?_;exact ⟨(),by first|trivial|rfl⟩
     |have q2:decide ((m:Int)<(en:Int))=false:=decide_eq_false (by omega)
      refine Sp1 (x2 q1 q2) ?_;exact ⟨(),by first|trivial|rfl⟩
    |have q1:decide ((s:Int)<(m:Int))=false:=decide_eq_false (by omega)
     refine Sp1 q1 ?_;exact ⟨(),by first|trivial|rfl⟩
  refine Zac rfl (fun h12=>?_) (fun h12=>?_)
  ·simp only [decide_eq_true_eq] at h12;refine rp0 [0,1,3,4,18,20,24] ?_;refine Zal.mono (sp_rotateU _ id N s m en t d hid h12.1 h12.2 (by omega) hN) ?_;rintro p h' ⟨d2,hs2,t2,ht2,rfl⟩;refine Sp0 ?_;refine ⟨⟨(d2,t2),hs2,ht2⟩,?_⟩;exact Fn0
  ·simp only [decide_eq_false_iff_not] at h12;refine Kp0 ?_;have hrot:Rot d d s m en:=by
    by_cases c1:s=m
    ·subst c1;exact rot_lU d
    ·obtain rfl:en=m:=by omega
     exact rot_rU d
   refine ⟨⟨(d,t),hrot,Nat.le_refl _⟩,?_⟩;exact Fn0
 obtain ⟨⟨d1,t1⟩,hrot,ht1⟩:=x;simp only [] at hrot ht1 ⊢;refine Zaa ?_;refine Zbl (σ:={ x:(Nat→Un)×Nat//Mrg (leU u) d1 x.1 a s mid∧t≤x.2 }) (fun x=>([(0,.own id 0 N),(3,pI b),(4,.fn (.func 119) [] [.ro u.enc]),(18,pI mid),(24,pI en)],⟨[(id,.arr false 8 (rwsU x.1.1 N))],x.1.2⟩)) ?_ (fun x=>?_)
 ·refine VW_seqJ (σ:=Unit) [0,1,3,4,18,20,24,199] (fun _=>([(0,.own id 0 N),(1,pI a),(3,pI b),(4,.fn (.func 119) [] [.ro u.enc]),(18,pI mid),(20,pI s),(24,pI en),(199,.bool (decide (a<s∧s<mid)))],⟨[(id,.arr false 8 (rwsU d1 N))],t1⟩)) ?_ (fun _=>?_)
  ·by_cases c1:a<s<;>by_cases c2:s<mid
   all_goals
    simp only [c1,c2,decide_true,decide_false,true_and,and_true,false_and,and_false]
    first
    |have q1:decide ((a:Int)<(s:Int))=true:=decide_eq_true (by omega)
     first
     |have q2:decide ((s:Int)<(mid:Int))=true:=decide_eq_true (by omega)
      refine Sp1 (x2 q1 q2) ?_;exact ⟨(),by first|trivial|rfl⟩
     |have q2:decide ((s:Int)<(mid:Int))=false:=decide_eq_false (by omega)
      refine Sp1 (x2 q1 q2) ?_;exact ⟨(),by first|trivial|rfl⟩
    |have q1:decide ((a:Int)<(s:Int))=false:=decide_eq_false (by omega)
     refine Sp1 q1 ?_;exact ⟨(),by first|trivial|rfl⟩
  refine Zac rfl (fun h13=>?_) (fun h13=>?_)
  ·simp only [decide_eq_true_eq] at h13;refine rp0 [0,3,4,18,24] ?_;refine Zal.mono (ih id N a s mid t1 d1 (by omega) (by omega) h13.1 h13.2 (by omega) hN) ?_;rintro p h' ⟨d2,hs2,t2,ht2,rfl⟩;refine Sp0 ?_;refine ⟨⟨(d2,t2),hs2,Nat.le_trans ht1 ht2⟩,?_⟩;exact Fn0
  ·simp only [decide_eq_false_iff_not] at h13;refine Kp0 ?_;refine ⟨⟨(d1,t1),mrg_noneU d1 (by omega),ht1⟩,?_⟩;exact Fn0
 obtain ⟨⟨d2,t2⟩,hm1,ht2⟩:=x;simp only [] at hm1 ht2 ⊢;have fin:∀ d3,Mrg (leU u) d2 d3 mid en b→Mrg (leU u) d d3 a m b:=fun d3 hm2 =>
  Mrg.join leU_trans (by omega) (by omega) (by omega) (by omega) (by omega) hrot hm1 hm2 (fun _ _=>hcut.1) (fun _ _=>hcut.2)
 refine VW_seqJ (σ:=Unit) [0,3,4,18,24,213] (fun _=>([(0,.own id 0 N),(3,pI b),(4,.fn (.func 119) [] [.ro u.enc]),(18,pI mid),(24,pI en),(213,.bool (decide (mid<en∧en<b)))],⟨[(id,.arr false 8 (rwsU d2 N))],t2⟩)) ?_ (fun _=>?_)
 ·by_cases c1:mid<en<;>by_cases c2:en<b
  all_goals
   simp only [c1,c2,decide_true,decide_false,true_and,and_true,false_and,and_false]
   first
   |have q1:decide ((mid:Int)<(en:Int))=true:=decide_eq_true (by omega)
    first
    |have q2:decide ((en:Int)<(b:Int))=true:=decide_eq_true (by omega)
     refine Sp1 (x2 q1 q2) ?_;exact ⟨(),by first|trivial|rfl⟩
    |have q2:decide ((en:Int)<(b:Int))=false:=decide_eq_false (by omega)
     refine Sp1 (x2 q1 q2) ?_;exact ⟨(),by first|trivial|rfl⟩
   |have q1:decide ((mid:Int)<(en:Int))=false:=decide_eq_false (by omega)
    refine Sp1 q1 ?_;exact ⟨(),by first|trivial|rfl⟩
 refine Zac rfl (fun h14=>?_) (fun h14=>?_)
 ·simp only [decide_eq_true_eq] at h14;refine rp0 [] ?_;refine Zal.mono (ih id N mid en b t2 d2 (by omega) (by omega) h14.1 h14.2 (by omega) hN) ?_;rintro p h' ⟨d3,hs3,t3,ht3,rfl⟩
  skip
  exact ⟨d3,fin d3 hs3,t3,Nat.le_trans ht2 ht3,rfl⟩
 ·simp only [decide_eq_false_iff_not] at h14;refine Kp0 ?_;exact ⟨d2,fin d2 (mrg_noneU d2 (by omega)),t2,ht2,rfl⟩
end Go.Proofs.YtcgdjembdjdlhaaGreatDoor.w
namespace Go.Proofs.YtcgdjembdjdlhaaGreatDoor.w
open Go Go.VM
def Zch:VC:=(ZR [ZO 6 (.mv (.c (.int .i64 20)))] (ZR [ZM 10 6,ZO 7 (.mv (.c (.int .i64 0))),ZM 8 10] (.seq (.block 0 (.loop (.seq (ZR [ZM 11 8,ZM 12 1,ZO 13 (.bin .leq (.t 11) (.t 12))] (.cond (.t 13) .skip (.exit 0))) (.block 1 (ZR [ZM 14 0,ZM 15 7,ZM 16 8,ZM 17 2,ZO 18 (.call 213 [.t 14,.t 15,.t 16,.t 17])] (ZR [ZM 19 8,ZM 7 19] (.region [ZM 20 8,ZM 21 6,ZO 22 (.bin .add (.t 20) (.t 21)),ZM 8 22] false))))))) (ZR [ZM 23 0,ZM 24 7,ZM 25 1,ZM 26 2,ZO 27 (.call 213 [.t 23,.t 24,.t 25,.t 26])] (.block 2 (.loop (.seq (ZR [ZM 28 6,ZM 29 1,ZO 30 (.bin .lss (.t 28) (.t 29))] (.cond (.t 30) .skip (.exit 2))) (.block 3 (ZR [ZM 31 6,ZO 32 (.bin .mul (.c (.int .i64 2)) (.t 31)),ZO 7 (.mv (.c (.int .i64 0))),ZM 8 32] (.seq (.block 4 (.loop (.seq (ZR [ZM 33 8,ZM 34 1,ZO 35 (.bin .leq (.t 33) (.t 34))] (.cond (.t 35) .skip (.exit 4))) (.block 5 (ZR [ZM 36 0,ZM 37 7,ZM 38 7,ZM 39 6,ZO 40 (.bin .add (.t 38) (.t 39)),ZM 41 8,ZM 42 2,ZO 43 (.call 214 [.t 36,.t 37,.t 40,.t 41,.t 42])] (ZR [ZM 44 8,ZM 7 44] (.region [ZM 45 8,ZM 46 6,ZO 47 (.bin .mul (.c (.int .i64 2)) (.t 46)),ZO 48 (.bin .add (.t 45) (.t 47)),ZM 8 48] false))))))) (.seq (ZR [ZM 49 7,ZM 50 6,ZO 51 (.bin .add (.t 49) (.t 50)),ZM 9 51] (ZR [ZM 52 9,ZM 53 1,ZO 54 (.bin .lss (.t 52) (.t 53))] (.cond (.t 54) (.region [ZM 55 0,ZM 56 7,ZM 57 9,ZM 58 1,ZM 59 2,ZO 60 (.call 214 [.t 55,.t 56,.t 57,.t 58,.t 59])] false) .skip))) (.region [ZM 61 6,ZO 62 (.bin .mul (.t 61) (.c (.int .i64 2))),ZM 6 62] false))))))))))))
def Zce:VC:=(.region [ZM 4 0,ZM 5 0,ZO 6 (.len false (.t 5)),ZM 7 1,ZO 8 (.call 173 [.t 4,.t 6,.t 7])] false)
theorem perm_extU {d d':Nat→Un} {a b n:Nat} (h:Same d d' a b) (hp:(seg d' a b).Perm (seg d a b)) (h1:a≤b) (h2:b≤n):(seg d' 0 n).Perm (seg d 0 n):=by
 rw [Zcn d' (show 0≤a by omega) (show a≤n by omega),Zcn d' h1 h2,Zcn d (show 0≤a by omega) (show a≤n by omega),Zcn d h1 h2,
  seg_congr (d:=d) (d':=d') (a:=0) (b:=a) (fun i _ hi=>h i (.inl hi)),seg_congr (d:=d) (d':=d') (a:=b) (b:=n) (fun i hi _=>h i (.inr hi))]
 exact List.Perm.append_left _ (hp.append_right _)
theorem ml2U {a:Nat} (h:a≤4611686018427387900):IntKind.i64.wrap (2*(a:Int))=((2*a:Nat):Int):=by rw [w64 (by omega) (by omega)];omega
theorem ml2U' {a:Nat} (h:a≤4611686018427387900):IntKind.i64.wrap ((a:Int)*2)=((2*a:Nat):Int):=by rw [w64 (by omega) (by omega)];omega
theorem sp_stableU {u : Un} (hu : SmU u) (id N t : Nat) (d : Nat → Un) (hid : id < t) (hN : N ≤ 1000000) :
  Zal Tryz.prog 173 [.own id 0 N,pI N,.fn (.func 119) [] [.ro u.enc]] ⟨[(id,.arr false 8 (rwsU d N))],t⟩
   (fun _ h'=>∃ d',((seg d' 0 N).Perm (seg d 0 N)∧Srt (leU u) d' 0 N)∧∃ t',t≤t'∧h'=⟨[(id,.arr false 8 (rwsU d' N))],t'⟩):=by
 refine Gn (vc:=Zch) [] Tryz.func173 ?_;unfold Zch;try dsimp only [ZM,ZO,ZN,ZG,ZR,ZU]
 refine Rp0 [0,1,2,6] ?_;refine Rp0 [0,1,2,6,7,8] ?_;refine Zaa ?_;refine Zab ?_;refine Zah (σ:={ s:Nat×(Nat→Un)×Nat//s.1*20≤N∧Blk (leU u) s.2.1 20 0 (s.1*20)∧(seg s.2.1 0 N).Perm (seg d 0 N)∧t≤s.2.2 }) (fun s=>([(0,.own id 0 N),(1,pI N),(2,.fn (.func 119) [] [.ro u.enc]),(6,pI (20:Nat)),(7,pI (s.1.1*20:Nat)),(8,pI (s.1.1*20+20:Nat))],⟨[(id,.arr false 8 (rwsU s.1.2.1 N))],s.1.2.2⟩)) (fun s=>N-s.1.1*20) ⟨(0,d,t),⟨Nat.zero_le _,Blk.zero,.refl _,Nat.le_refl _⟩⟩ ?_ ?_ ?_
 ·exact Fn0
 ·exact Fn0
 rintro ⟨⟨q,d1,t1⟩,hq,hb,hp,ht⟩;simp only [] at hq hb hp ht ⊢;refine Zaa ?_;refine Rp0 [0,1,2,6,7,8,13] ?_;refine Zac rfl (fun h1=>?_) (fun h1=>?_)
 ·refine Kp0 ?_;simp only [decide_eq_true_eq] at h1;have hle:q*20+20≤N:=by omega
  refine Zab ?_;refine Rp0 [0,1,2,6,8] ?_;refine Zal.mono (sp_insertionU hu id N (q*20) (q*20+20) t1 d1 (by omega) (by omega) (by omega) hN) ?_;rintro p h' ⟨d2,⟨k1,k2,k3⟩,t2,ht2,rfl⟩
  skip
  refine Rp0 [0,1,2,6,7,8] ?_;refine Zae [0,1,2,6,7,8] ?_;simp only [vmL,Nat.reduceEqDiff,reduceCtorEq,adIU (a:=q*20+20) (b:=20) (by omega)];refine ⟨⟨(q+1,d2,t2),⟨by show (q+1)*20≤N;omega,by
   have:=Blk.more hb k1 k3 (Nat.le_refl _)
   rwa [show q*20+20=(q+1)*20 by omega] at this,(perm_extU k1 k2 (by omega) (by omega)).trans hp,Nat.le_trans ht ht2⟩⟩,?_⟩
  all_goals exact Fn1 (show (q+1)*20=q*20+20 by omega)
 simp only [decide_eq_false_iff_not] at h1;refine Ep0 ?_;refine Rp0 [0,1,2,6] ?_;refine Zal.mono (sp_insertionU hu id N (q*20) N t1 d1 (by omega) (by omega) (by omega) hN) ?_;rintro p h' ⟨d2,⟨k1,k2,k3⟩,t2,ht2,rfl⟩;have hb2:Blk (leU u) d2 20 0 N:=Blk.more hb k1 k3 (by omega);have hp2:=(perm_extU k1 k2 (by omega) (Nat.le_refl _)).trans hp
 skip
 refine Zab ?_;refine Zah (σ:={ s:Nat×(Nat→Un)×Nat//20≤s.1∧s.1≤2*N+20∧Blk (leU u) s.2.1 s.1 0 N∧(seg s.2.1 0 N).Perm (seg d 0 N)∧t≤s.2.2 }) (fun s=>([(0,.own id 0 N),(1,pI N),(2,.fn (.func 119) [] [.ro u.enc]),(6,pI s.1.1)],⟨[(id,.arr false 8 (rwsU s.1.2.1 N))],s.1.2.2⟩)) (fun s=>2*N+20-s.1.1) ⟨(20,d2,t2),⟨Nat.le_refl _,by show 20≤2*N+20;omega,hb2,hp2,Nat.le_trans ht ht2⟩⟩ ?_ ?_ ?_
 ·exact Fn0
 ·exact Fn0
 clear k1 k2 k3 hb2 hp2 ht2 hb hp hq h1;rintro ⟨⟨bs,d2,t2⟩,hbs,hbs2,hb2,hp2,ht2⟩;simp only [] at hbs hbs2 hb2 hp2 ht2 ⊢;refine Zaa ?_;refine Rp0 [0,1,2,6,30] ?_;refine Zac rfl (fun h2=>?_) (fun h2=>?_)
 ·refine Kp0 ?_;simp only [decide_eq_true_eq] at h2;have hlt:bs<N:=by omega
  have m2:=ml2U (a:=bs) (by omega);refine Zab ?_;refine Rp1 [0,1,2,6,7,8] m2 ?_;refine Zaa ?_;refine Zab ?_;refine Zah (σ:={ s:Nat×Nat×(Nat→Un)×Nat//s.2.1=s.1*(2*bs)∧s.2.1≤N∧Blk (leU u) s.2.2.1 (2*bs) 0 (s.1*(2*bs))∧Blk (leU u) s.2.2.1 bs (s.1*(2*bs)) N∧(seg s.2.2.1 0 N).Perm (seg d 0 N)∧t≤s.2.2.2 }) (fun s=>([(0,.own id 0 N),(1,pI N),(2,.fn (.func 119) [] [.ro u.enc]),(6,pI bs),(7,pI s.1.2.1),(8,pI (s.1.2.1+2*bs:Nat))],⟨[(id,.arr false 8 (rwsU s.1.2.2.1 N))],s.1.2.2.2⟩)) (fun s=>N-s.1.2.1) ⟨(0,0,d2,t2),⟨by simp,Nat.zero_le _,by simp only [Nat.zero_mul];exact Blk.zero,by simp only [Nat.zero_mul];exact hb2,hp2,ht2⟩⟩ ?_ ?_ ?_
  ·exact Fn0
  ·exact Fn0
  rintro ⟨⟨q,A,d3,t3⟩,hA,hAN,hb3,hb4,hp3,ht3⟩;simp only [] at hA hAN hb3 hb4 hp3 ht3 ⊢;refine Zaa ?_;refine Rp0 [0,1,2,6,7,8,35] ?_;refine Zac rfl (fun h3=>?_) (fun h3=>?_)
  ·refine Kp0 ?_;simp only [decide_eq_true_eq] at h3;have hle:A+2*bs≤N:=by omega
   refine Zab ?_;refine Zaa (Zae [0,1,2,6,8] ?_);simp only [vmL,Nat.reduceEqDiff,reduceCtorEq,adIU (a:=A) (b:=bs) (by omega)];refine Zal.mono (sp_symMergeU hu (A+2*bs-A) id N A (A+bs) (A+2*bs) t3 d3 (Nat.le_refl _) (by omega) (by omega) (by omega) (by omega) hN) ?_;rintro p h' ⟨d4,hm,t4,ht4,rfl⟩
   skip
   refine Rp1 [0,1,2,6,7,8] m2 ?_;refine Zae [0,1,2,6,7,8] ?_;simp only [vmL,Nat.reduceEqDiff,reduceCtorEq,m2,adIU (a:=A+2*bs) (b:=2*bs) (by omega)];have hnext:(q+1)*(2*bs)=A+2*bs:=by rw [Nat.add_mul,Nat.one_mul,← hA]
   have hmm:Mrg (leU u) d3 d4 (q*(2*bs)) (q*(2*bs)+bs) (A+2*bs):=by rw [← hA];exact hm
   have hbb:=Blk.merge hb3 hb4 (b:=A+2*bs) (by omega) (by omega) (by omega) hmm;refine ⟨⟨(q+1,A+2*bs,d4,t4),⟨hnext.symm,hle,by rw [hnext];exact hbb.1,by rw [hnext];exact hbb.2,(perm_extU hm.out hm.perm (by omega) (by omega)).trans hp3,Nat.le_trans ht3 ht4⟩⟩,?_⟩;exact Fn0
  simp only [decide_eq_false_iff_not] at h3;refine Ep0 ?_;have m2':=ml2U' (a:=bs) (by omega);refine Zaa ?_;refine Zaa (Zae [0,1,2,6,7,9] ?_);simp only [vmL,Nat.reduceEqDiff,reduceCtorEq,adIU (a:=A) (b:=bs) (by omega)];refine Rp0 [0,1,2,6,7,9,54] ?_;refine Zac rfl (fun h4=>?_) (fun h4=>?_)
  ·simp only [decide_eq_true_eq] at h4;refine rp0 [0,1,2,6] ?_;refine Zal.mono (sp_symMergeU hu (N-A) id N A (A+bs) N t3 d3 (Nat.le_refl _) (by omega) (by omega) (by omega) (by omega) hN) ?_;rintro p h' ⟨d4,hm,t4,ht4,rfl⟩
   skip
   have hmm:Mrg (leU u) d3 d4 (q*(2*bs)) (q*(2*bs)+bs) N:=by rw [← hA];exact hm
   have hbb:=Blk.merge hb3 hb4 (b:=N) (by omega) (by omega) (by omega) hmm;refine rp1 [0,1,2,6] m2' ?_;refine ⟨⟨(2*bs,d4,t4),⟨by show 20≤2*bs;omega,by show 2*bs≤2*N+20;omega,hbb.1,(perm_extU hm.out hm.perm (by omega) (by omega)).trans hp3,Nat.le_trans ht3 ht4⟩⟩,?_⟩;exact Fn0
  ·simp only [decide_eq_false_iff_not] at h4;refine Kp0 ?_;refine rp1 [0,1,2,6] m2' ?_;refine ⟨⟨(2*bs,d3,t3),⟨by show 20≤2*bs;omega,by show 2*bs≤2*N+20;omega,Blk.rest hb3 hb4 (by omega),hp3,ht3⟩⟩,?_⟩;exact Fn0
 ·simp only [decide_eq_false_iff_not] at h2;refine Ep0 ?_;exact ⟨d2,⟨hp2,Blk.all hb2 (by omega)⟩,t2,ht2,rfl⟩
theorem sp_sortStableU {u : Un} (hu : SmU u) (id t : Nat) (l : List Un) (hid : id < t) (hN : l.length ≤ 1000000) :
  Zal Tryz.prog 118 [.own id 0 l.length,.fn (.func 119) [] [.ro u.enc]] ⟨[(id,.arr false 8 (l.map Un.enc))],t⟩
   (fun _ h'=>∃ l':List Un,(l'.Perm l∧l'.Pairwise (leU u))∧∃ t',t≤t'∧h'=⟨[(id,.arr false 8 (l'.map Un.enc))],t'⟩):=by
 have hrw:l.map Un.enc=rwsU (rowF l) l.length:=by
  refine List.ext_getElem (by simp [rwsU]) fun i h1 h2=>?_;have hi:i<l.length:=by simpa using h1
  simp [rwsU,rowF,List.getD_eq_getElem?_getD,hi]
 rw [hrw];refine Gn (vc:=Zce) [] Tryz.func118 ?_;unfold Zce;try dsimp only [ZM,ZO,ZN,ZG,ZR,ZU]
 refine rp0 [] ?_;refine Zal.mono (sp_stableU hu id l.length t (rowF l) hid hN) ?_;rintro p h' ⟨d',⟨k1,k2⟩,t',ht',rfl⟩
 skip
 rw [seg_rowF] at k1;refine ⟨seg d' 0 l.length,⟨k1,k2.pairwise⟩,t',ht',?_⟩;have:(seg d' 0 l.length).map Un.enc=rwsU d' l.length:=by
  simp [seg,rwsU,List.range_eq_range']
 rw [this]
end Go.Proofs.YtcgdjembdjdlhaaGreatDoor.w
namespace Go.VM
open Go
theorem HL.get_set (L:List (Nat×AB)) (k t:Nat) (x:AB):HL.get (HL.set L k x) t=if k=t then (if (HL.get L k).isSome then some x else none) else HL.get L t:=Heap.get_set ⟨L,0⟩ k t x
theorem HL.get_lt {L:List (Nat×AB)} {t id:Nat} {x:AB} (hd:HL.dec L t) (h:HL.get L id=some x):id<t:=by
 rcases Nat.lt_or_ge id t with h'|h'
 ·exact h'
 ·rw [HL.get_none hd h'] at h;cases h
def cellO:Option Nat→Nat→PV
 | none,_=>.nilsl
 | some b,n=>.own b 0 n
def rowO (u:Un) (s:Str) (tb:Bool) (c:PV):List PV:=[.str s,pI u.act,pI u.item,pI u.n,.bool tb,c]
structure OwnI (u : Un) (l : List Str) (ks : List Un) (nts : Nat → List Str) (tb : Bool) (c : Nat → Option Nat) (R : List (List PV)) (io ik : Nat) (L : List (Nat × AB)) (t : Nat) : Prop where
 dec : HL.dec L t
 gO : HL.get L io = some (.arr false 6 R)
 gK : HL.get L ik = some (.arr false 8 (ks.map Un.enc))
 ne : io ≠ ik
 len : R.length = l.length
 row : ∀ (i : Nat) (hi : i < l.length), R.getD i [] = rowO u l[i] (tb && (i + 1 == l.length)) (cellO (c i) (nts i).length)
 non : ∀ i, i < l.length → c i = none → nts i = []
 som : ∀ i b, i < l.length → c i = some b → HL.get L b = some (.arr false 1 ((nts i).map fun s => [PV.str s])) ∧ b ≠ io ∧ b ≠ ik
 inj : ∀ i j b, i < l.length → j < l.length → c i = some b → c j = some b → i = j
theorem OwnI.tie {u:Un} {l:List Str} {ks:List Un} {nts:Nat→List Str} {tb:Bool} {c:Nat→Option Nat} {R:List (List PV)} {io ik:Nat} {L:List (Nat×AB)} {t:Nat} (H:OwnI u l ks nts tb c R io ik L t) {m:Nat} (hm:l.length=m+1) {s:Str} (hs:s=l[m]):OwnI u l ks nts true c (R.set m (rowO u s true (cellO (c m) (nts m).length))) io ik (HL.set L io (.arr false 6 (R.set m (rowO u s true (cellO (c m) (nts m).length))))) t:=by
 refine { dec:=HL.dec_set _ _ H.dec,gO:=?_,gK:=?_,ne:=H.ne,len:=?_,row:=?_,non:=H.non,som:=?_,inj:=H.inj }
 ·rw [HL.get_set,if_pos rfl,H.gO];rfl
 ·rw [HL.get_set,if_neg H.ne];exact H.gK
 ·rw [List.length_set];exact H.len
 ·intro i hi;rw [List.getD_eq_getElem?_getD,List.getElem?_set];by_cases e:m=i
  ·subst e;have:(m+1==l.length)=true:=by rw [beq_iff_eq];omega
   rw [if_pos rfl,if_pos (by rw [H.len];omega),this,hs];rfl
  ·have h1:(i+1==l.length)=false:=by rw [beq_eq_false_iff_ne];omega
   have:=H.row i hi;rw [List.getD_eq_getElem?_getD,h1,Bool.and_false] at this;rw [if_neg e,this,h1,Bool.and_false]
 ·intro i b hi hb;obtain ⟨h1,h2,h3⟩:=H.som i b hi hb;exact ⟨by rw [HL.get_set,if_neg (Ne.symm h2)];exact h1,h2,h3⟩
def updN (f:Nat→List Str) (i:Nat) (x:List Str):Nat→List Str:=fun j=>if j=i then f j++x else f j
def updC (f:Nat→Option Nat) (i b:Nat):Nat→Option Nat:=fun j=>if j=i then some b else f j
def delO (L:List (Nat×AB)):Option Nat→List (Nat×AB)
 | none=>L
 | some b=>HL.del L b
theorem OwnI.add {u : Un} {l : List Str} {ks : List Un} {nts : Nat → List Str} {tb : Bool} {c : Nat → Option Nat} {R : List (List PV)} {io ik : Nat} {L : List (Nat × AB)} {t : Nat} (H : OwnI u l ks nts tb c R io ik L t) {i : Nat} (hi : i < l.length) {s : Str} (hs : s = l[i]) (x : List Str) {b n : Nat} {X : List (List PV)} (hb : b = t) (hn : n = (nts i ++ x).length) (hX : X = (nts i ++ x).map fun s => [PV.str s]) {R' : List (List PV)} (hR : R' = R.set i (rowO u s (tb && (i + 1 == l.length)) (.own b 0 n))) :
  OwnI u l ks (updN nts i x) tb (updC c i b) R' io ik ((b,.arr false 1 X)::HL.set (delO L (c i)) io (.arr false 6 R')) (t+1):=by
 subst hb hn hX hR;have hlo:=HL.get_lt H.dec H.gO;have hlk:=HL.get_lt H.dec H.gK;have hdec:HL.dec (delO L (c i)) b:=by
  cases c i with
  | none=>exact H.dec
  | some d=>exact HL.dec_del _ H.dec
 have hci:∀ d,c i=some d→d≠io∧d≠ik:=fun d hd=>(H.som i d hi hd).2;have hgd:∀ k,(∀ d,c i=some d→d≠k)→HL.get (delO L (c i)) k=HL.get L k:=by
  intro k hk;cases hc:c i with
  | none=>rfl
  | some d=>show HL.get (HL.del L d) k=_;rw [HL.get_del,if_neg (hk d hc)]
 have gO':HL.get (delO L (c i)) io=some (.arr false 6 R):=by rw [hgd io fun d hd=>(hci d hd).1];exact H.gO
 refine { dec:=⟨Nat.lt_succ_self _,HL.dec_set _ _ hdec⟩,gO:=?_,gK:=?_,ne:=H.ne,len:=?_,row:=?_,non:=?_,som:=?_,inj:=?_ }
 ·rw [HL.get,if_neg (by omega),HL.get_set,if_pos rfl,gO'];rfl
 ·rw [HL.get,if_neg (by omega),HL.get_set,if_neg H.ne,hgd ik fun d hd=>(hci d hd).2];exact H.gK
 ·rw [List.length_set];exact H.len
 ·intro j hj;rw [List.getD_eq_getElem?_getD,List.getElem?_set];unfold updC updN;by_cases e:i=j
  ·subst e;rw [if_pos rfl,if_pos (by rw [H.len];exact hi),if_pos rfl,if_pos rfl,hs];rfl
  ·rw [if_neg e,if_neg (Ne.symm e),if_neg (Ne.symm e)];have:=H.row j hj
   rwa [List.getD_eq_getElem?_getD] at this
 ·intro j hj hc;unfold updC at hc;unfold updN;by_cases e:j=i
  ·rw [if_pos e] at hc;cases hc
  ·rw [if_neg e] at hc ⊢;exact H.non j hj hc
 ·intro j d hj hd;unfold updC at hd;unfold updN;by_cases e:j=i
  ·rw [if_pos e] at hd ⊢;obtain rfl:b=d:=by simpa using hd
   subst e;exact ⟨by rw [HL.get,if_pos rfl],by omega,by omega⟩
  ·rw [if_neg e] at hd ⊢;obtain ⟨h1,h2,h3⟩:=H.som j d hj hd;have hdb:=HL.get_lt H.dec h1;refine ⟨?_,h2,h3⟩;rw [HL.get,if_neg (by omega),HL.get_set,if_neg (Ne.symm h2),hgd d fun d' hd'=>?_]
   ·exact h1
   ·rintro rfl;exact e (H.inj j i d' hj hi hd hd')
 ·intro j j' d hj hj' hd hd';unfold updC at hd hd';by_cases e:j=i
  ·by_cases e':j'=i
   ·rw [e,e']
   ·rw [if_pos e] at hd;rw [if_neg e'] at hd';obtain rfl:b=d:=by simpa using hd
    have:=HL.get_lt H.dec (H.som j' b hj' hd').1;omega
  ·by_cases e':j'=i
   ·rw [if_neg e] at hd;rw [if_pos e'] at hd';obtain rfl:b=d:=by simpa using hd'
    have:=HL.get_lt H.dec (H.som j b hj hd).1;omega
   ·rw [if_neg e] at hd;rw [if_neg e'] at hd';exact H.inj j j' d hj hj' hd hd'
end Go.VM
namespace Go.Proofs.YtcgdjembdjdlhaaGreatDoor.w
open Go Go.VM
theorem clone_own (X:AB) (i0 t:Nat) (h0:i0<t) (l:List Un) (hl:l.length≤1048576):Zal Tryz.prog 117 [.sl 8 (l.map Un.enc)] ⟨[(i0,X)],t⟩ (fun p h'=>(l=[]∧p=.nilsl∧h'=⟨[(i0,X)],t⟩)∨(∃ id t',i0<id∧id<t'∧p=.own id 0 l.length∧h'=⟨[(id,.arr false 8 (l.map Un.enc)),(i0,X)],t'⟩)):=by
 refine Zal.drop ?_;have qq:=N3 i0 t (t+1);refine Gn (vc:=Zb2) [.t 2] Tryz.func117 ?_;unfold Zb2;try dsimp only [ZM,ZO,ZN,ZG,ZR,ZU]
 refine Rp0 [0] ?_;refine Zaa ?_;refine Rp0 [0,4] ?_;intro b hb1 hb2;cases b with
 | true =>
  skip
  refine Zac rfl (fun h1=>?_) (fun h1=>by cases h1);refine Rp0 [2] ?_;refine Tp0 ?_;cases l with
  | nil =>
   refine ⟨⟨[(i0,X)],t⟩,?_,.inl (by simp)⟩;exact Sc0
  | cons a r=>simp at hb2
 | false =>
  skip
  refine Zac rfl (fun h1=>by cases h1) (fun h1=>?_);refine Kp0 ?_;refine Rp1 [2] (x2 @xlm qq) ?_;refine Ok ?_;refine Tp0 ?_;refine ⟨⟨[(t+1,.arr false 8 (l.map Un.enc)),(i0,X)],t+1+1⟩,?_,.inr ⟨t+1,t+1+1,by omega,by omega,rfl,rfl⟩⟩;exact Sc1 qq
end Go.Proofs.YtcgdjembdjdlhaaGreatDoor.w
namespace Go.VM
open Go
theorem OwnI.up {u:Un} {l:List Str} {ks:List Un} {nts:Nat→List Str} {tb:Bool} {c:Nat→Option Nat} {R:List (List PV)} {io ik:Nat} {L:List (Nat×AB)} {t t':Nat} (H:OwnI u l ks nts tb c R io ik L t) (h:t≤t'):OwnI u l ks nts tb c R io ik L t' :=
 { H with dec:=HL.dec_mono H.dec h }
theorem le_two {L:List (Nat×AB)} {t:Nat} (hd:HL.dec L t) (x y:AB) (p:Nat):HL.le L (Heap.get ⟨(t+1,x)::(t,y)::L,p⟩) :=
 HL.le_self hd fun k hk=>.inl (by show _=HL.get ((t+1,x)::(t,y)::L) k;rw [HL.get,if_neg (by omega),HL.get,if_neg (by omega)])
theorem le_three {L:List (Nat×AB)} {t:Nat} (hd:HL.dec L t) (x y z:AB) (p:Nat):HL.le ((t+2,z)::L) (Heap.get ⟨(t+2,z)::(t+1,x)::(t,y)::L,p⟩) :=
 HL.le_self (b:=t+3) ⟨by omega,HL.dec_mono hd (by omega)⟩ fun k hk=>by
  show HL.get ((t+2,z)::L) k=HL.get ((t+2,z)::(t+1,x)::(t,y)::L) k∨_;rw [HL.get,HL.get,HL.get,HL.get];by_cases h1:t+2=k
  ·rw [if_pos h1,if_pos h1];exact .inl rfl
  ·rw [if_neg h1,if_neg h1];by_cases h2:k<t
   ·rw [if_neg (by omega),if_neg (by omega)];exact .inl rfl
   ·exact .inr (HL.get_none hd (by omega))
theorem lineI_idx {u k:Un} {E:List Nat} {x:Int} (hx:x=Zag u k+(2+(u.head.length:Int))) (h:lineI u E k<E.length):idxF (fun e=>decide (x<e)) (E.map fun e=>((e:Nat):Int))=(lineI u E k:Int):=by
 subst hx;unfold idxF;have hf:(E.map fun e=>((e:Nat):Int)).findIdx (fun e=>decide (Zag u k+(2+(u.head.length:Int))<e))=lineI u E k:=by
  rw [List.findIdx_map];rfl
 rw [hf,if_pos];rw [List.any_eq_true];have hl:(E.map fun e=>((e:Nat):Int)).findIdx (fun e=>decide (Zag u k+(2+(u.head.length:Int))<e))<(E.map fun e=>((e:Nat):Int)).length:=by
  rw [hf,List.length_map];exact h
 obtain ⟨x,h1,h2⟩:=List.findIdx_lt_length.1 hl;exact ⟨x,h1,h2⟩
theorem view_nil1 (h:Heap):View h .nilsl (.sl 1 []):=by
 intro g w v r hv;cases hv;exact .slE _ _ _
theorem OwnI.view {w:Int} {u:Un} {ks ks0:List Un} {c:Nat→Option Nat} {R:List (List PV)} {io ik:Nat} {L:List (Nat×AB)} {t n:Nat} (hn:n=(Za1 w u).length) (H:OwnI u (Za1 w u) ks0 (ntsP w u (Za9 w (rowT u)) ks) (tbP u ks) c R io ik L t):View ⟨L,t⟩ (.own io 0 n) (.sl 6 ((ownQ w u ks).map Ln.encP)):=by
 subst hn;have hrow:∀ i,i<(Za1 w u).length→PV.row ((ownQ w u ks).map Ln.encP) i=[.str ((Za1 w u).getD i []),pI u.act,pI u.item,pI u.n,.bool (tbP u ks&&(i+1==(Za1 w u).length)),It.strs (ntsP w u (Za9 w (rowT u)) ks i)]:=by
  intro i hi;unfold PV.row ownQ;rw [List.getD_eq_getElem?_getD,List.map_map,List.getElem?_map,List.getElem?_range hi];rfl
 refine View.ownV (fz:=false) (es:=R) H.gO (by rw [H.len,Nat.zero_add];exact Nat.le_refl _) (by simp [ownQ]) (fun i hi=>by rw [hrow i hi];rfl) (fun i j hi hj=>?_);rw [Nat.zero_add,hrow i hi];have hr:PV.row R i=_:=H.row i hi;rw [hr];unfold rowO;have hs:(Za1 w u)[i]=(Za1 w u).getD i []:=by rw [List.getD_eq_getElem?_getD,List.getElem?_eq_getElem hi];rfl
 rw [hs]
 match j,hj with
 | 0,_=>exact View.refl _ _
 | 1,_=>exact View.refl _ _
 | 2,_=>exact View.refl _ _
 | 3,_=>exact View.refl _ _
 | 4,_=>exact View.refl _ _
 | 5,_ =>
  show View _ (cellO (c i) (ntsP w u (Za9 w (rowT u)) ks i).length) (It.strs _);cases hc:c i with
  | none =>
   rw [H.non i hi hc];exact view_nil1 _
  | some b=>exact View.own_all (fz:=false) (H.som i b hi hc).1 (by rw [List.length_map])
end Go.VM
namespace Go.Proofs.YtcgdjembdjdlhaaGreatDoor.w
open Go Go.VM
def c_paginate_own:VC:=(ZR [ZO 2 (.box 8 (.t 0)),ZO 4 (.mv (.c .nilsl))] (ZR [ZO 18 (.load true 8 (.t 2)),ZM 19 1,ZO 20 (.call 45 [.t 18,.t 19]),ZM 17 20,ZO 21 (.ext (.t 17) 0),ZO 22 (.ext (.t 17) 1),ZM 5 21,ZM 6 22] (ZR [ZO 7 (.mv (.c .nilsl))] (.seq (ZR [ZM 23 5,ZO 24 (.len false (.t 23)),ZO 25 (.mv (.c (.int .i64 0)))] (.block 0 (.loop (ZR [ZO 26 (.bin .lss (.t 25) (.t 24))] (.seq (.cond (.t 26) .skip (.exit 0)) (.seq (.block 1 (ZR [ZO 27 (.iaddr 1 (.t 23) (.t 25)),ZO 28 (.load false 1 (.t 27)),ZM 9 28] (.region [ZM 29 7,ZM 30 9,ZO 31 (.faddr 0 (.t 2)),ZO 32 (.load true 3 (.t 31)),ZO 33 (.build [(.str []),.int .i64 0,.int .i64 0,.int .i64 0,(.bool false),.nilsl] [(0,(1,(.t 30))),(1,(3,(.t 32)))]),ZO 34 (.bslice 6 1 [(.str []),.int .i64 0,.int .i64 0,.int .i64 0,(.bool false),.nilsl] [(0,(.t 33))]),ZO 35 (.app 6 72 [(.str []),.int .i64 0,.int .i64 0,.int .i64 0,(.bool false),.nilsl] false (.t 29) (.t 34)),ZM 7 35] false))) (.region [ZO 36 (.bin .add (.t 25) (.c (.int .i64 1))),ZM 25 36] false))))))) (ZR [ZO 37 (.faddr 7 (.t 2)),ZO 38 (.load false 1 (.t 37)),ZO 39 (.call 117 [.t 38]),ZM 10 39] (ZR [ZM 40 10,ZO 41 (.mkfn (.func 119) [] [.t 2]),ZO 42 (.call 118 [.t 40,.t 41])] (.seq (ZR [ZM 43 10,ZO 44 (.len false (.t 43)),ZO 45 (.mv (.c (.int .i64 0)))] (.block 2 (.loop (ZR [ZO 46 (.bin .lss (.t 45) (.t 44))] (.seq (.cond (.t 46) .skip (.exit 2)) (.seq (.block 3 (ZR [ZO 47 (.iaddr 8 (.t 43) (.t 45)),ZO 48 (.load true 8 (.t 47)),ZO 12 (.alloc ZU),ZN (.store 8 (.t 12) (.t 48))] (ZR [ZO 49 (.load true 8 (.t 2)),ZO 50 (.load true 8 (.t 12)),ZO 51 (.call 63 [.t 49,.t 50]),ZO 13 (.alloc [.int .i64 0]),ZN (.store 1 (.t 13) (.t 51))] (.seq (ZR [ZO 52 (.load false 1 (.t 13)),ZO 53 (.bin .lss (.t 52) (.c (.int .i64 0)))] (.cond (.t 53) (ZR [ZM 54 7,ZM 55 7,ZO 56 (.len false (.t 55)),ZO 57 (.bin .sub (.t 56) (.c (.int .i64 1))),ZO 58 (.iaddr 6 (.t 54) (.t 57)),ZO 59 (.faddr 4 (.t 58)),ZN (.store 1 (.t 59) (.c (.bool true)))] (.exit 3)) .skip)) (ZR [ZO 60 (.load false 1 (.t 13)),ZO 61 (.faddr 5 (.t 2)),ZO 62 (.load false 1 (.t 61)),ZO 63 (.len false (.t 62)),ZO 64 (.bin .add (.c (.int .i64 2)) (.t 63)),ZO 65 (.bin .add (.t 60) (.t 64)),ZN (.store 1 (.t 13) (.t 65))] (ZR [ZM 66 6,ZO 67 (.mkfn (.func 121) [] [.t 13]),ZO 68 (.call 120 [.t 66,.t 67]),ZM 14 68] (ZR [ZO 70 (.load true 8 (.t 12)),ZM 71 1,ZO 72 (.call 45 [.t 70,.t 71]),ZM 69 72,ZO 73 (.ext (.t 69) 0),ZO 74 (.ext (.t 69) 1),ZM 15 73,ZM 16 74] (.region [ZM 75 7,ZM 76 14,ZM 77 7,ZM 78 14,ZO 79 (.iaddr 6 (.t 77) (.t 78)),ZO 80 (.faddr 5 (.t 79)),ZO 81 (.load false 1 (.t 80)),ZM 82 15,ZO 83 (.app 1 16 [(.str [])] false (.t 81) (.t 82)),ZO 84 (.iaddr 6 (.t 75) (.t 76)),ZO 85 (.faddr 5 (.t 84)),ZN (.store 1 (.t 85) (.t 83))] false)))))))) (.region [ZO 86 (.bin .add (.t 45) (.c (.int .i64 1))),ZM 45 86] false))))))) (ZR [ZM 87 7,ZM 4 87] .ret))))))))
theorem closed_lnP (x:Ln):∀ y∈x.encP,Closed y:=by
 intro y hy;simp only [Ln.encP,List.mem_cons,List.not_mem_nil,or_false] at hy;rcases hy with rfl|rfl|rfl|rfl|rfl|rfl
 ·exact cS _
 ·exact cI _
 ·exact cI _
 ·exact cI _
 ·exact cB _
 ·exact Zay _
theorem closed_lnsP (l:List Ln):Closed (.sl 6 (l.map Ln.encP)):=Zaj fun x _=>closed_lnP x
theorem sp_own_2L (e x:Int) {L:List (Nat×AB)} {b t:Nat} (hb:HL.get L b=some (.arr false 1 [[pI x]])):Zal Tryz.prog 121 [pI e,.loc b 0 0] ⟨L,t⟩ (fun p h'=>p=.bool (decide (x<e))∧h'=⟨L,t⟩):=by
 refine Gn (vc:=c_paginate_own_2) [.t 3] Tryz.func121 ?_;unfold c_paginate_own_2;try dsimp only [ZM,ZO,ZN,ZG,ZR,ZU]
 refine Rp0 [0,1] ?_;refine Rp1 [3] hb ?_;exact Tc0
theorem sp_IndexOwn (l : List Int) (x : Int) (hl : l.length ≤ 1000000) {L : List (Nat × AB)} {b t : Nat} (hd : HL.dec L t) (hb : HL.get L b = some (.arr false 1 [[pI x]])) :
  Zal Tryz.prog 120 [.sl 1 (l.map fun x=>[pI x]),.fn (.func 121) [] [.loc b 0 0]] ⟨L,t⟩ (fun p h'=>p=pI (idxF (fun e=>decide (x<e)) l)∧h'=⟨L,t⟩):=by
 have hp:=fun e=>sp_own_2L (t:=t) e x hb;generalize hpp:(fun e=>decide (x<e))=p;have hp':∀ e,Zal Tryz.prog 121 [pI e,.loc b 0 0] ⟨L,t⟩ (fun q h'=>q=.bool (p e)∧h'=⟨L,t⟩):=fun e=>by rw [← hpp];exact hp e
 clear hp;refine Gn (vc:=c_slices_IndexFunc_int) [.t 4] Tryz.func120 ?_;unfold c_slices_IndexFunc_int;try dsimp only [ZM,ZO,ZN,ZG,ZR,ZU]
 refine Rp0 [0,1] ?_;refine Zaa ?_;refine Rp1 [0,1,7,8] @xlm ?_;refine Zab ?_;refine Zah (σ:={ k:Nat//k≤l.length∧∀ (j:Nat) (hj:j<l.length),j<k→p l[j]=false }) (fun x=>([(0,.sl 1 (l.map fun x=>[pI x])),(1,.fn (.func 121) [] [.loc b 0 0]),(7,pI l.length),(8,pI x.1)],⟨L,t⟩)) (fun x=>l.length-x.1) ⟨0,Nat.zero_le _,fun j _ h=>by cases h⟩ ?_ ?_ ?_
 ·refine Sp0 ?_;rfl
 ·exact HOk.le_refl (h:=⟨L,t⟩) hd
 rintro ⟨k,hk,hpre⟩;simp only [];refine Rp0 [0,1,7,8,9] ?_;refine Zaa ?_;refine Zac rfl (fun h1=>?_) (fun h1=>?_)
 ·have ka:k<l.length:=by simp only [decide_eq_true_eq] at h1;omega
  have hcall:=hp' l[k];have hrow:(l.map fun x=>[pI x]).getD k []=(fun x:Int=>[pI x]) l[k]:=rowm ka;simp only [] at hrow;generalize hx:l[k]=y at hcall hrow;refine Kp0 ?_;refine Zaa ?_;refine Zab ?_;refine Rp0 [0,1,5,7,8] ?_;refine Rp1 [0,1,5,7,8,16] (x2 @xlm hrow) ?_;refine Ok ?_;refine Zal.mono hcall ?_;rintro q h' ⟨rfl,rfl⟩
  skip
  cases hq:p y with
  | true =>
   refine Ct ?_;refine Rp0 [4] ?_;refine Tp0 ?_;rw [idxF_at p l k ka hpre (by rw [hx];exact hq)]
  | false =>
   refine Fp0 ?_;refine rp1 [0,1,7,8] (w64 (n:=(k:Int)+1) (by omega) (by omega)) ?_;refine ⟨⟨k+1,ka,fun j hj hjk=>?_⟩,rfl,(HOk.le_refl (h:=⟨L,t⟩) hd).2,?_⟩
   ·by_cases e:j=k
    ·subst e;rw [hx];exact hq
    ·exact hpre j hj (by omega)
   ·simp only [];omega
 ·have ka:k=l.length:=by simp only [decide_eq_false_iff_not] at h1;omega
  subst ka;refine Ep0 ?_;refine Rp0 [4] ?_;refine Tp0 ?_;rw [idxF_none p l fun j hj=>hpre j hj hj]
theorem lines_pos {w:Int} {u:Un} (hw:Zbu w (rowT u)=0):1≤(Za1 w u).length:=by
 rw [linesU_len];obtain ⟨e,he,_⟩:=rises_end (x:=0) (breakE_rises hw) (Nat.zero_le _) (by rw [rowT_len];omega);exact List.length_pos_of_mem he
theorem own_sort {u : Un} (hu : SmU u) {N : FK} {Q : Exit → Env → Heap → Prop} (l : List Un) (hl : l.length ≤ 1000) {io ik t : Nat} {R0 : List (List PV)} {a b c : PV} {n : Nat} (hn : 1 ≤ n) (hR0 : R0.length = n) (h1 : io < ik) (h2 : ik < t)
  (H:∀ (ks:List Un) (t':Nat),ks.Perm l→ks.Pairwise (leU u)→ik<t'→Q .normal [(1,a),(2,.ro u.enc),(6,b),(7,c),(10,.own ik 0 l.length)] ⟨[(ik,.arr false 8 (ks.map Un.enc)),(io,.arr false 6 R0)],t'⟩) :
  VW Tryz.prog N (.region [⟨(some 40),(.mv (.t 10)),none⟩,⟨(some 41),(.mkfn (.func 119) [] [(.t 2)]),none⟩,⟨(some 42),(.call 118 [(.t 40),(.t 41)]),none⟩] false) Q [(1,a),(2,.ro u.enc),(6,b),(7,c),(10,.own ik 0 l.length)] ⟨[(ik,.arr false 8 (l.map Un.enc)),(io,.arr false 6 R0)],t⟩:=by
 have SO:=sp_sortStableU hu ik t l h2 (by omega);have qq:=N3 io ik t;refine Zae [1,2,6,7,10] ?_;generalize u.enc=ue at SO H ⊢;refine Sp1 qq ?_;refine Zal.frameL (l1:=[(ik,.arr false 8 (l.map Un.enc))]) (l2:=[(io,.arr false 6 R0)]) (by simp;omega) (by intro p hp;rw [List.mem_singleton] at hp;subst hp;intro fz z e;simp only [AB.arr.injEq] at e;rw [e.2.2] at hR0;simp at hR0;omega) (Zal.mono SO ?_);rintro p h' ⟨ks,⟨k1,k2⟩,t',ht',rfl⟩;refine ⟨ht',by simp;omega,by simp [AB.live],?_⟩;refine Sp0 ?_;exact H ks t' k1 k2 (by omega)
theorem sp_pag_own {u:Un} (hu:SmT u) (w:Int) (hw:Zbu w (rowT u)=0) (hky:KeyU u):Zak Tryz.prog 64 [.agg u.enc,pI w] (.sl 6 ((ownL w u).map Ln.encP)):=by
 have h:=hu.u;have hkl:=hu.kids.1;have hks:∀ k∈u.kids,SmU k:=fun k hk=>(hu.kids.2 k hk).u;have BR:=sp_pag_broken h w;have BRk:=fun k hk=>sp_pag_broken (hks k hk) w;have CLk:=fun k=>sp_called h k;have hlen:=linesU_len w u;have hle:=linesU_le h w;have hlp:=lines_pos hw;have hEl:=breakE_len (w:=w) (l:=rowT u);have hTl:=rowT_len u;have hHl:u.head.length≤300:=h.head.1;have hWl:u.words.length≤300:=h.words.1;have hbr:=fun (k:Un) (hk:0≤Zag u k)=>lineI_lt (u:=u) (k:=k) hw hk;have hcb:=fun k=>calledT_bd h k;have hfin:=fun (ks:List Un) hp hs=>ownQ_eq (ks:=ks) hw hky hp hs;have hvw:=fun ks ks0 c R io ik L t=>@OwnI.view w u ks ks0 c R io ik L t;refine Zad ?_ (closed_lnsP _) (closed_uw _ _);refine Gn (vc:=c_paginate_own) [.t 4] Tryz.func64 ?_;unfold c_paginate_own;try dsimp only [ZM,ZO,ZN,ZG,ZR,ZU]
 have hue:=Un.Zaf u;rw [hue] at BR CLk ⊢;generalize hl:Za1 w u=l at BR hlen hle hlp hvw;generalize hE:Za9 w (rowT u)=E at BR hlen hEl hbr hvw;unfold It.strs endsV at BR;refine Rp0 [1,2] ?_;refine Zat [(1,pI w),(2,.ro [pI u.act,pI u.item,pI u.n,pI u.kind,.str u.label,.sl 4 (u.head.map Wd.enc),.sl 4 (u.words.map Wd.enc),.sl 8 (u.kids.map Un.enc)])] ⟨View.refl _ _,View.loc (z:=8) (fz:=false) (es:=[[pI u.act,pI u.item,pI u.n,pI u.kind,.str u.label,.sl 4 (u.head.map Wd.enc),.sl 4 (u.words.map Wd.enc),.sl 8 (u.kids.map Un.enc)]]) rfl (by simp) rfl (by simp),trivial⟩ ?_;refine Rp0 [1,2,5,6] ?_;refine Ap0 BR ?_;refine Rp0 [1,2,5,6,7] ?_;refine VW_own0 7 6 rfl ?_;refine Sp0 ?_;refine Zaa (Zbl (σ:={ x:Nat×Nat//x.1<x.2 }) (fun x=>([(1,pI w),(2,.ro [pI u.act,pI u.item,pI u.n,pI u.kind,.str u.label,.sl 4 (u.head.map Wd.enc),.sl 4 (u.words.map Wd.enc),.sl 8 (u.kids.map Un.enc)]),(6,.sl 1 (E.map fun e=>[pI (e:Nat)])),(7,.own x.1.1 0 l.length)],⟨[(x.1.1,.arr false 6 (l.map fun s=>rowO u s false .nilsl))],x.1.2⟩)) ?_ (fun x=>?_))
 ·refine Rp1 [1,2,6,7,23,24,25] @xlm ?_;refine Zab ?_;refine Zah (σ:={ x:Nat×Nat×Nat//x.1≤l.length∧x.2.1<x.2.2 }) (fun x=>([(1,pI w),(2,.ro [pI u.act,pI u.item,pI u.n,pI u.kind,.str u.label,.sl 4 (u.head.map Wd.enc),.sl 4 (u.words.map Wd.enc),.sl 8 (u.kids.map Un.enc)]),(6,.sl 1 (E.map fun e=>[pI (e:Nat)])),(7,.own x.1.2.1 0 x.1.1),(23,.sl 1 (l.map fun s=>[PV.str s])),(24,pI l.length),(25,pI x.1.1)],⟨[(x.1.2.1,.arr false 6 ((l.take x.1.1).map fun s=>rowO u s false .nilsl))],x.1.2.2⟩)) (fun x=>l.length-x.1.1) ⟨(0,1,2),Nat.zero_le _,by simp⟩ ?_ ?_ ?_
  ·exact Sr0
  ·exact Sr0
  rintro ⟨⟨k,id,t⟩,hk,hid⟩;simp only [] at hk hid ⊢;have qq:=N4 id t (t+1) (t+1+1);refine Rp1 [1,2,6,7,23,24,25,26] qq ?_;refine Zaa ?_;refine Zac rfl (fun h1=>?_) (fun h1=>?_)
  ·have ka:k<l.length:=by simp only [decide_eq_true_eq] at h1;omega
   have hrow:(l.map fun s=>[PV.str s]).getD k []=[PV.str l[k]]:=rowm ka;have hst:(l.take (k+1)).map (fun s=>rowO u s false .nilsl)=(l.take k).map (fun s=>rowO u s false .nilsl)++[rowO u l[k] false .nilsl]:=by
    rw [List.take_add_one,List.getElem?_eq_getElem ka,Option.toList_some,List.map_append];rfl
   generalize l[k]=s at hrow hst;have hBl:((l.take k).map fun s=>rowO u s false .nilsl).length=k:=by simp;omega
   generalize ((l.take k).map fun s=>rowO u s false .nilsl)=B at hst hBl ⊢;have tk:List.take k B=B:=List.take_of_length_le (by omega);refine Kp0 ?_;refine Zaa ?_;refine Zab ?_;refine Rp1 [1,2,6,7,9,23,24,25] (x3 @xlm hrow qq) ?_;refine Ok ?_;refine rp1 [1,2,6,7,23,24,25] (x3 tk hBl qq) ?_;refine ⟨by omega,by omega,?_⟩;refine rp1 [1,2,6,7,23,24,25] (x2 (ad1 (a:=k) (by omega)) qq) ?_;refine ⟨⟨(k+1,t+1,t+2),ka,by simp⟩,?_⟩;simp only [hst]
   all_goals exact Fn1 qq
  ·have ka:k=l.length:=by simp only [decide_eq_false_iff_not] at h1;omega
   subst ka;rw [List.take_length];refine Ep1 qq ?_;refine ⟨⟨(id,t),hid⟩,?_⟩;exact Fn1 qq
 obtain ⟨⟨io,t0⟩,hio⟩:=x;simp only [] at hio ⊢;have hR0:(l.map fun s=>rowO u s false .nilsl).length=l.length:=List.length_map _;have hR0i:∀ (i:Nat) (hi:i<l.length),(l.map fun s=>rowO u s false .nilsl).getD i []=rowO u l[i] false .nilsl:=fun i hi=>rowm (enc:=fun s=>rowO u s false .nilsl) hi;generalize (l.map fun s=>rowO u s false .nilsl)=R0 at hR0 hR0i ⊢;refine Zaa (Zbl (σ:={ x:Option (Nat×Nat)//match x with|none=>u.kids=[]|some y=>io<y.1∧y.1<y.2 }) (fun x=>match x.1 with
  | none=>([(1,pI w),(2,.ro [pI u.act,pI u.item,pI u.n,pI u.kind,.str u.label,.sl 4 (u.head.map Wd.enc),.sl 4 (u.words.map Wd.enc),.sl 8 (u.kids.map Un.enc)]),(6,.sl 1 (E.map fun e=>[pI (e:Nat)])),(7,.own io 0 l.length),(10,.nilsl)],⟨[(io,.arr false 6 R0)],t0⟩)
  | some y=>([(1,pI w),(2,.ro [pI u.act,pI u.item,pI u.n,pI u.kind,.str u.label,.sl 4 (u.head.map Wd.enc),.sl 4 (u.words.map Wd.enc),.sl 8 (u.kids.map Un.enc)]),(6,.sl 1 (E.map fun e=>[pI (e:Nat)])),(7,.own io 0 l.length),(10,.own y.1 0 u.kids.length)],⟨[(y.1,.arr false 8 (u.kids.map Un.enc)),(io,.arr false 6 R0)],y.2⟩)) ?_ (fun x=>?_))
 ·refine rp0 [1,2,6,7,10] ?_;refine Zal.mono (clone_own (.arr false 6 R0) io t0 hio u.kids (by omega)) ?_;rintro p h' (⟨h0,rfl,rfl⟩|⟨id,t',h1,h2,rfl,rfl⟩)
  ·refine Sp0 ?_;refine ⟨⟨none,h0⟩,?_⟩;exact Fn0
  ·have qq:=N3 io id (t');refine Sp0 ?_;refine ⟨⟨some (id,t'),h1,h2⟩,?_⟩;exact Fn1 qq
 refine Zaa (Zbl (σ:={ x:List Un×Nat×Nat//(x.1.Perm u.kids∧x.1.Pairwise (leU u))∧io<x.2.1∧x.2.1<x.2.2 }) (fun x=>([(1,pI w),(2,.ro [pI u.act,pI u.item,pI u.n,pI u.kind,.str u.label,.sl 4 (u.head.map Wd.enc),.sl 4 (u.words.map Wd.enc),.sl 8 (u.kids.map Un.enc)]),(6,.sl 1 (E.map fun e=>[pI (e:Nat)])),(7,.own io 0 l.length),(10,.own x.1.2.1 0 u.kids.length)],⟨[(x.1.2.1,.arr false 8 (x.1.1.map Un.enc)),(io,.arr false 6 R0)],x.1.2.2⟩)) ?_ (fun x=>?_))
 ·obtain ⟨x,hx⟩:=x;cases x with
  | none =>
   simp only [] at hx ⊢;have hk0:u.kids.length=0:=by rw [hx];rfl
   refine VW_own0 10 8 rfl ?_;have qq:=N2 io t0;refine VW.weaken (e':=[(1,pI w),(2,.ro [pI u.act,pI u.item,pI u.n,pI u.kind,.str u.label,.sl 4 (u.head.map Wd.enc),.sl 4 (u.words.map Wd.enc),.sl 8 (u.kids.map Un.enc)]),(6,.sl 1 (E.map fun e=>[pI (e:Nat)])),(7,.own io 0 l.length),(10,.own t0 0 u.kids.length)]) (h':=⟨[(t0,.arr false 8 (u.kids.map Un.enc)),(io,.arr false 6 R0)],t0+1⟩) ?_ ?_ ?_
   ·simp only [vmL,Nat.reduceEqDiff,hk0]
    try exact ⟨rfl,rfl⟩
   ·rw [hx];exact Sr1 qq
   rw [← hue];refine own_sort h u.kids (by omega) hlp hR0 hio (by omega) ?_;intro ks t' k1 k2 k3;have qq:=N3 io t0 (t');refine ⟨⟨(ks,t0,t'),⟨k1,k2⟩,hio,k3⟩,?_⟩;exact Fn1 qq
  | some y =>
   obtain ⟨ik,t⟩:=y;simp only [] at hx ⊢;rw [← hue];refine own_sort h u.kids (by omega) hlp hR0 hx.1 hx.2 ?_;intro ks t' k1 k2 k3;have qq:=N3 io ik (t');refine ⟨⟨(ks,ik,t'),⟨k1,k2⟩,hx.1,k3⟩,?_⟩;exact Fn1 qq
 obtain ⟨⟨ks,ik,t1⟩,⟨hp,hsrt⟩,hik,ht1⟩:=x;simp only [] at hp hsrt hik ht1 ⊢;have hkn:ks.length=u.kids.length:=hp.length_eq;have hksm:∀ k∈ks,SmU k:=fun k hk=>hks k (hp.mem_iff.1 hk);have hBk:∀ k∈ks,_:=fun k hk=>BRk k (hp.mem_iff.1 hk);have hfq:=hfin ks hp hsrt;refine Zaa ?_;refine Rp0 [1,2,6,7,43,44,45] ?_;refine Zab ?_;refine Zah (σ:={ x:Nat×(Nat→Option Nat)×List (List PV)×List (Nat×AB)×Nat//x.1≤ks.length∧OwnI u l ks (ntsP w u E (ks.take x.1)) (tbP u (ks.take x.1)) x.2.1 x.2.2.1 io ik x.2.2.2.1 x.2.2.2.2 }) (fun x=>([(1,pI w),(2,.ro [pI u.act,pI u.item,pI u.n,pI u.kind,.str u.label,.sl 4 (u.head.map Wd.enc),.sl 4 (u.words.map Wd.enc),.sl 8 (u.kids.map Un.enc)]),(6,.sl 1 (E.map fun e=>[pI (e:Nat)])),(7,.own io 0 l.length),(43,.own ik 0 ks.length),(44,pI ks.length),(45,pI x.1.1)],⟨x.1.2.2.2.1,x.1.2.2.2.2⟩)) (fun x=>ks.length-x.1.1) ⟨(0,fun _=>none,R0,[(ik,.arr false 8 (ks.map Un.enc)),(io,.arr false 6 R0)],t1),Nat.zero_le _,?_⟩ ?_ ?_ ?_
 ·exact { dec:=⟨ht1,hik,trivial⟩,gO:=by rw [HL.get,if_neg (by omega),HL.get,if_pos rfl],gK:=by rw [HL.get,if_pos rfl],ne:=by omega,len:=hR0,row:=fun i hi=>by rw [hR0i i hi];rfl,non:=fun i hi _=>rfl,som:=fun i b _ hb=>(by cases hb),inj:=fun i j b _ _ hb=>(by cases hb) }
 ·exact Sr1 hkn
 ·exact HOk.le_refl (h:=⟨[(ik,.arr false 8 (ks.map Un.enc)),(io,.arr false 6 R0)],t1⟩) ⟨ht1,hik,trivial⟩
 rintro ⟨⟨k,c,R,L,t⟩,hk,H⟩;simp only [] at hk H ⊢;have gO:=H.gO;have gK:=H.gK;have ioT:=HL.get_lt H.dec gO;have ikT:=HL.get_lt H.dec gK;have d0:HL.del L t=L:=HL.del_ge H.dec (Nat.le_refl t);have d1:HL.del L (t+1)=L:=HL.del_ge H.dec (Nat.le_succ t);have qq:=N4 io ik t (t+1);refine Rp1 [1,2,6,7,43,44,45,46] qq ?_;refine Zaa ?_;refine Zac rfl (fun h2=>?_) (fun h2=>?_)
 ·have ka:k<ks.length:=by simp only [decide_eq_true_eq] at h2;omega
  have hrow:(ks.map Un.enc).getD k []=ks[k].enc:=rowm ka;have hmem:ks[k]∈ks:=List.getElem_mem ka;have C:=CLk ks[k];have Bk:=hBk _ hmem;have hcv:=hcb ks[k];have hstN:=fun i=>ntsP_step w u E i ka;have hstT:=tbP_step u ka;have hln:=hbr ks[k];generalize ks[k]=v at hrow hmem C Bk hcv hstN hstT hln;rw [Un.Zaf v] at hrow C Bk;generalize hcq:Zag u v=cv at C hcv hstN hstT hln;refine Kp0 ?_;refine Zaa ?_;refine Zab ?_;refine Rp1 [1,2,6,7,12,43,44,45] (x5 gK hrow @xlm d0 qq) ?_;refine Ok ?_;refine Rp1 [1,2,6,7,12,13,43,44,45] (x2 d1 qq) ?_;refine Ap1 C (x2 d1 qq) ?_;refine Zaa ?_;refine Rp1 [1,2,6,7,12,13,43,44,45,53] qq ?_;refine Zac rfl (fun h3=>?_) (fun h3=>?_)
  ·have hneg:cv<0:=by simpa using h3
   obtain ⟨m,hm⟩:∃ m,l.length=m+1:=⟨l.length-1,by omega⟩;have hmi:m<l.length:=by omega
   have hm1:((l.length:Int)-1)=(m:Nat):=by omega
   have hrm:=H.row m hmi;have hRl:=H.len;unfold rowO at hrm;refine Zaa (Zae [1,2,6,7,43,44,45] ?_);simp only [vmL,Nat.reduceEqDiff,Nat.reduceAdd,Nat.reduceLeDiff,gO,hm1,w64 (n:=(m:Nat)) (by omega) (by omega),hrm,hRl,qq];refine ⟨⟨by omega,by omega⟩,hmi,?_⟩;refine Ep1 qq ?_;refine rp1 [1,2,6,7,43,44,45] (x2 (ad1 (a:=k) (by omega)) qq) ?_;have hN:ntsP w u E (ks.take (k+1))=ntsP w u E (ks.take k):=funext fun i=>by
    rw [hstN i,decide_eq_false (by omega),Bool.false_and,if_neg Bool.false_ne_true,List.append_nil]
   have hT:tbP u (ks.take (k+1))=true:=by rw [hstT,decide_eq_true hneg,Bool.or_true]
   have HT0:=(H.tie hm rfl).dec;have HT:=(H.tie hm rfl).up (show t≤t+2 by omega);rw [← hN,← hT] at HT;refine ⟨⟨(k+1,c,_,_,t+2),ka,HT⟩,?_⟩;try simp only [vmL,qq]
   all_goals (repeat' (first|rfl|trivial|omega|(simp only [];omega)|refine And.intro ?_ ?_))
   rw [hN,hT];exact le_two HT0 _ _ _
  ·have hpos:0≤cv:=by simpa using h3
   have hli:=hln hpos;rw [← hlen] at hli;have hHL:(u.head.map Wd.enc).length=u.head.length:=List.length_map _;refine Kp0 ?_;refine Rp1 [1,2,6,7,12,13,43,44,45] (x5 d1 @xlm (w64 (n:=2+(u.head.length:Int)) (by omega) (by omega)) (w64 (n:=cv+(2+(u.head.length:Int))) (by omega) (by omega)) qq) ?_;have IX:=sp_IndexOwn (t:=t+2) (L:=(t+1,.arr false 1 [[pI (cv+(2+(u.head.length:Int)))]])::(t,.arr false 8 [[pI v.act,pI v.item,pI v.n,pI v.kind,.str v.label,.sl 4 (v.head.map Wd.enc),.sl 4 (v.words.map Wd.enc),.sl 8 (v.kids.map Un.enc)]])::L) (b:=t+1) (E.map fun x=>((x:Nat):Int)) (cv+(2+(u.head.length:Int))) (by rw [List.length_map];omega) ⟨by omega,by omega,H.dec⟩ (by rw [HL.get,if_pos rfl]);rw [endsV_int,lineI_idx (u:=u) (k:=v) (by rw [hcq]) (by rw [← hlen];exact hli)] at IX;refine Rp0 [1,2,6,7,12,14,43,44,45] ?_;refine Zal.mono IX ?_;rintro p h' ⟨rfl,rfl⟩
   skip
   refine Rp1 [1,2,6,7,14,15,43,44,45] qq ?_;refine Ap0 Bk ?_;have hri:=H.row _ hli;have hRl:=H.len;have hnl:=ntsP_le (u:=u) w E (ks:=ks.take k) (fun x hx=>hksm x (List.mem_of_mem_take hx)) (lineI u E v);have htl:(ks.take k).length≤1000:=by rw [List.length_take];omega
   have hxl:(Za1 w v).length≤602:=linesU_le (hksm _ hmem) w;have hN:ntsP w u E (ks.take (k+1))=updN (ntsP w u E (ks.take k)) (lineI u E v) (Za1 w v):=funext fun i=>by
    rw [hstN i,decide_eq_true hpos,Bool.true_and];unfold updN;by_cases e:i=lineI u E v
    ·rw [if_pos e,if_pos (by rw [e];exact beq_self_eq_true _),e]
    ·rw [if_neg e,if_neg (by rw [beq_iff_eq];exact fun h=>e h.symm),List.append_nil]
   have hT:tbP u (ks.take (k+1))=tbP u (ks.take k):=by rw [hstT,decide_eq_false (by omega),Bool.or_false]
   have HA:=fun (b:Nat) (X:List (List PV)) (n:Nat) (hb:b=t+2)=>(H.up (show t≤t+2 by omega)).add hli rfl (Za1 w v) (b:=b) (n:=n) (X:=X) hb;rw [← hN,← hT] at HA;have HNo:=H.non _ hli;have HSo:=fun b=>H.som _ b hli;generalize lineI u E v=i at hli hri HA HNo HSo hnl ⊢;generalize ntsP w u E (ks.take k) i=nt at hri HA HNo HSo hnl ⊢;generalize Za1 w v=tx at HA hxl ⊢;unfold It.strs;unfold rowO at hri HA;cases hc:c i with
   | none =>
    rw [hc] at hri HA;simp only [cellO,delO] at hri HA;obtain rfl:=HNo hc;have qq:=N5 io ik t (t+1) (t+2);refine rp1 [1,2,6,7,43,44,45] (x5 gO hri hRl @xlm qq) ?_;refine Ok ?_;refine rp1 [1,2,6,7,43,44,45] (x2 (ad1 (a:=k) (by omega)) qq) ?_;have HB:=HA (t+2) (tx.map fun s=>[PV.str s]) tx.length rfl rfl rfl rfl;have hdc:=HB.dec.2;refine ⟨⟨(k+1,_,_,_,t+2+1),ka,HB⟩,?_⟩;try simp only [vmL,qq]
    all_goals (repeat' (first|rfl|trivial|omega|(simp only [];omega)|refine And.intro ?_ ?_))
    rw [hT];exact (le_three (HL.dec_set _ _ H.dec) _ _ _ _).2
   | some b =>
    obtain ⟨gb,hbo,hbk⟩:=HSo b hc;rw [hc] at hri HA;simp only [cellO,delO] at hri HA;have bT:=HL.get_lt H.dec gb;have qq:=N6 b io ik t (t+1) (t+2);have gdel:HL.get (HL.del L b) io=some (.arr false 6 R):=by rw [HL.get_del,if_neg hbo];exact gO
    have hnl':(nt.map fun s=>[PV.str s]).length=nt.length:=List.length_map _;have hTk:List.take nt.length (nt.map fun s=>[PV.str s])=nt.map fun s=>[PV.str s]:=List.take_of_length_le (by omega);refine Zae [1,2,6,7,43,44,45] ?_;simp only [vmL,Nat.reduceEqDiff,Nat.reduceAdd,gO,gb,gdel,hri,hRl,hTk,List.length_map,qq];refine Ok ?_;refine rp1 [1,2,6,7,43,44,45] (x2 (ad1 (a:=k) (by omega)) qq) ?_;have HB:=HA (t+2) ((nt.map fun s=>[PV.str s])++tx.map fun s=>[PV.str s]) (nt.length+tx.length) rfl (by rw [List.length_append]) (by rw [List.map_append]) rfl;refine ⟨⟨(k+1,_,_,_,t+2+1),ka,HB⟩,?_⟩;try simp only [vmL,qq]
    all_goals (repeat' (first|rfl|trivial|omega|(simp only [];omega)|refine And.intro ?_ ?_))
    rw [hT];exact (le_three (HL.dec_set _ _ (HL.dec_del _ H.dec)) _ _ _ _).2
 ·have ka:k=ks.length:=by simp only [decide_eq_false_iff_not] at h2;omega
  subst ka;rw [List.take_length] at H;refine VW_exit ?_;refine Rp0 [4] ?_;refine Tp0 ?_;rw [← hfq];exact hvw ks ks c R io ik L t rfl H
end Go.Proofs.YtcgdjembdjdlhaaGreatDoor.w
namespace Go.VM
open Go
def idZ:Idt:=⟨0,0,0⟩
def aloneR (u:Un):Bool:=(decide (0≤u.kind)&&decide (u.kind≤7))&&(decide (u.kids.length≤64)&&(rowB u.head&&(rowB u.words&&(if u.kind=0 then (u.label==[])&&((u.head.length==0)&&(u.words.length==0)) else may u.label))))
def sameB (a b:Un):Bool:=(a.kind==b.kind)&&(a.label==b.label)
mutual
def rightT : Un → Bool
 | .mk a i n k l h w ks => aloneR (.mk a i n k l h w ks) && rightL k [] ks
def rightL : Int → List Un → List Un → Bool
 | _, _, [] => true
 | p, pre, k :: r => (nestB p k.kind && rightT k) && ((!(pre.any fun x => sameB x k)) && rightL p (pre ++ [k]) r)
end
theorem rightT_eq (u:Un):rightT u=(aloneR u&&rightL u.kind [] u.kids):=by cases u;rw [rightT];rfl
def sibB (p:Int):List Un→List Un→Bool
 | _,[]=>true
 | pre,k::r=>nestB p k.kind&&((!(pre.any fun x=>sameB x k))&&sibB p (pre++[k]) r)
theorem rightL_eq (p:Int):∀ (l pre:List Un),rightL p pre l=(sibB p pre l&&l.all rightT)
 | [],pre=>by rw [rightL];rfl
 | k::r,pre=>by
  rw [rightL,rightL_eq p r,sibB,List.all_cons];cases nestB p k.kind<;>cases rightT k<;>cases (pre.any fun x=>sameB x k)<;>cases sibB p (pre++[k]) r<;>simp
def headB (u:Un):Bool:=if u.kind=0 then (u.label==[]) && !(decide (0<u.head.length+u.words.length)) else (Zcu u.kind != [])&&(may u.label&&(rowB u.head&&rowB u.words))
def aloneP (u:Un):Bool:=headB u&&(sibB u.kind [] u.kids&&decide (u.kids.length≤64))
theorem nameK_ne (k:Int):(Zcu k != [])=(decide (0≤k)&&decide (k≤7)):=by
 unfold Zcu;split
 ·rename_i h;obtain ⟨i,rfl⟩:∃ i:Nat,k=(i:Int):=⟨k.toNat,by omega⟩;have:i=0∨i=1∨i=2∨i=3∨i=4∨i=5∨i=6∨i=7:=by omega
  rcases this with rfl|rfl|rfl|rfl|rfl|rfl|rfl|rfl<;>rfl
 ·rename_i h
  symm
  show _=false;rw [Bool.and_eq_false_iff];by_cases h0:0≤k
  ·exact .inr (decide_eq_false (by omega))
  ·exact .inl (decide_eq_false h0)
theorem rowB_nil:rowB []=true:=rfl
theorem alone_eq (u:Un):aloneP u=(aloneR u&&sibB u.kind [] u.kids):=by
 unfold aloneP aloneR headB;by_cases h0:u.kind=0
 ·rw [if_pos h0,if_pos h0,h0];have e1:(decide ((0:Int)≤0)&&decide ((0:Int)≤7))=true:=rfl;rw [e1,Bool.true_and];by_cases hh:u.head.length=0
  ·by_cases hw:u.words.length=0
   ·have e2:=List.eq_nil_of_length_eq_zero hh;have e3:=List.eq_nil_of_length_eq_zero hw;rw [e2,e3,rowB_nil];cases sibB 0 [] u.kids<;>cases decide (u.kids.length≤64)<;>cases (u.label==[])<;>rfl
   ·have e2:decide (0<u.head.length+u.words.length)=true:=decide_eq_true (by omega);have e3:(u.words.length==0)=false:=by rw [beq_eq_false_iff_ne];exact hw
    rw [e2,e3];cases sibB 0 [] u.kids<;>cases decide (u.kids.length≤64)<;>cases (u.label==[])<;>cases (u.head.length==0)<;>cases rowB u.head<;>cases rowB u.words<;>rfl
  ·have e2:decide (0<u.head.length+u.words.length)=true:=decide_eq_true (by omega);have e3:(u.head.length==0)=false:=by rw [beq_eq_false_iff_ne];exact hh
   rw [e2,e3];cases sibB 0 [] u.kids<;>cases decide (u.kids.length≤64)<;>cases (u.label==[])<;>cases rowB u.head<;>cases rowB u.words<;>rfl
 ·rw [if_neg h0,if_neg h0,nameK_ne];cases decide (0≤u.kind)<;>cases decide (u.kind≤7)<;>cases sibB u.kind [] u.kids<;>cases decide (u.kids.length≤64)<;>cases may u.label<;>cases rowB u.head<;>cases rowB u.words<;>rfl
theorem right_all {u:Un} (h:SmT u):(unitsT u).all aloneP=rightT u:=by
 induction h with
 | mk u h hk hs ih =>
  rw [unitsT_all,rightT_eq,rightL_eq,alone_eq];have:(u.kids.all fun k=>(unitsT k).all aloneP)=u.kids.all rightT:=by
   rw [Bool.eq_iff_iff,List.all_eq_true,List.all_eq_true];exact ⟨fun H k hk=>by rw [← ih k hk];exact H k hk,fun H k hk=>by rw [ih k hk];exact H k hk⟩
  rw [this,Bool.and_assoc]
theorem nest_pos {p k:Int} (h:nestB p k=true):k≠0:=by
 rintro rfl;unfold nestB at h;split at h
 ·cases h
 ·split at h
  ·cases h
  ·split at h
   ·cases h
   ·split at h
    ·cases h
    ·split at h<;>cases h
theorem sibB_kinds (p:Int):∀ (l pre:List Un),sibB p pre l=true→∀ k∈l,k.kind≠0
 | [],_,_,k,h=>by cases h
 | a::r,pre,H,k,h=>by
  rw [sibB] at H;simp only [Bool.and_eq_true] at H;rcases List.mem_cons.1 h with rfl|h
  ·exact nest_pos H.1
  ·exact sibB_kinds p r _ H.2.2 k h
theorem right_kinds {u:Un} (h:SmT u):rightT u=true→∀ x∈unitsL u.kids,x.kind≠0:=by
 induction h with
 | mk u h hk hs ih =>
  intro H x hx;rw [rightT_eq,rightL_eq] at H;simp only [Bool.and_eq_true,List.all_eq_true] at H;rw [Zaz] at hx;obtain ⟨k,h1,h2⟩:=List.mem_flatMap.1 hx;rw [Zan] at h2;rcases List.mem_cons.1 h2 with rfl|h2
  ·exact sibB_kinds _ _ _ H.2.1 _ h1
  ·exact ih k h1 (H.2.2 k h1) x h2
def idsB (u:Un):Bool:=((idsT u).all fun x=>decide (x=idZ))||(((u.kind==0)==decide (idU u=idZ))&&decide (idsT u).Nodup)
def validT (u:Un):Bool:=rightT u&&(decide (depthT u≤8)&&(decide ((unitsT u).length≤1024)&&idsB u))
def namedB (u:Un):Bool:=(unitsT u).all fun x=>(x.kind==0) || !(decide (idU x=idZ))
def Zbk (u:Un):Bool:=validT u&&namedB u
theorem stands_prog {u:Un} (h:SmT u):(validT u && !((if u.kind=0 then (idsT u).drop 1 else idsT u).any fun x=>decide (x=idZ)))=Zbk u:=by
 unfold Zbk;cases hv:validT u with
 | false=>rfl
 | true =>
  rw [Bool.true_and,Bool.true_and];have hr:rightT u=true:=by unfold validT at hv;simp only [Bool.and_eq_true] at hv;exact hv.1
  have hk:=right_kinds h hr;unfold namedB;rw [Zan,List.all_cons,idsT_eq];have key:(!(((unitsL u.kids).map idU).any fun x=>decide (x=idZ)))=((unitsL u.kids).all fun x=>(x.kind==0) || !(decide (idU x=idZ))):=by
   generalize unitsL u.kids=l at hk
   induction l with
   | nil=>rfl
   | cons a r ih =>
    have h0:(a.kind==0)=false:=by rw [beq_eq_false_iff_ne];exact hk a List.mem_cons_self
    rw [List.map_cons,List.any_cons,List.all_cons,← ih fun x hx=>hk x (List.mem_cons_of_mem _ hx),h0,Bool.false_or,Bool.not_or]
  by_cases h0:u.kind=0
  ·rw [if_pos h0,List.drop_one,List.tail_cons,key];have:(u.kind==0)=true:=by rw [beq_iff_eq];exact h0
   rw [this];rfl
  ·rw [if_neg h0,List.any_cons,Bool.not_or,key];have:(u.kind==0)=false:=by rw [beq_eq_false_iff_ne];exact h0
   rw [this];rfl
end Go.VM
namespace Go.VM
open Go
theorem sibB_pair (p:Int):∀ (l pre:List Un),sibB p pre l=true→l.Pairwise (fun a b=>sameB a b=false)∧∀ a∈pre,∀ b∈l,sameB a b=false
 | [],_,_=>⟨.nil,fun _ _ b hb=>by cases hb⟩
 | k::r,pre,h=>by
  rw [sibB] at h;simp only [Bool.and_eq_true,Bool.not_eq_true'] at h;obtain ⟨_,h1,h2⟩:=h;obtain ⟨i1,i2⟩:=sibB_pair p r (pre++[k]) h2;refine ⟨List.pairwise_cons.2 ⟨fun b hb=>i2 k (by simp) b hb,i1⟩,fun a ha b hb=>?_⟩;rcases List.mem_cons.1 hb with rfl|hb
  ·rw [List.any_eq_false] at h1
   simpa using h1 a ha
  ·exact i2 a (by simp [ha]) b hb
theorem idxF_spec {α:Type} {p:α→Bool} {l:List α} (h:0≤idxF p l):∃ (j:Nat) (hj:j<l.length),idxF p l=(j:Int)∧p l[j]=true:=by
 unfold idxF at h ⊢;split at h
 ·rename_i ha;rw [if_pos ha];obtain ⟨x,hx,hp⟩:=List.any_eq_true.1 ha;have hl:l.findIdx p<l.length:=List.findIdx_lt_length_of_exists ⟨x,hx,hp⟩;exact ⟨l.findIdx p,hl,rfl,List.findIdx_getElem (w:=hl)⟩
 ·omega
theorem key_of_right {u:Un} (h:rightT u=true):KeyU u:=by
 rw [rightT_eq,rightL_eq] at h;simp only [Bool.and_eq_true] at h;refine (sibB_pair _ _ _ h.2.1).1.imp fun {a b} hab h0 he=>?_;have h0b:0≤Zag u b:=by rw [← he];exact h0
 unfold Zag at h0 h0b he;split at h0
 ·rename_i ka;split at h0b
  ·rename_i kb;rw [if_pos ka,if_pos kb] at he;obtain ⟨i,hi,e1,p1⟩:=idxF_spec h0;obtain ⟨j,hj,e2,p2⟩:=idxF_spec h0b;have hij:i=j:=by
    have:(i:Int)=(j:Int):=by rw [← e1,he,e2]
    exact Int.ofNat_inj.1 this
   subst hij;unfold callsB at p1 p2;simp only [Bool.and_eq_true,beq_iff_eq] at p1 p2;have:sameB a b=true:=by
    unfold sameB;rw [Bool.and_eq_true,beq_iff_eq,beq_iff_eq];exact ⟨ka.trans kb.symm,p1.2.symm.trans p2.2⟩
   rw [this] at hab;cases hab
  ·omega
 ·omega
theorem may_len {s:Str} (h:may s=true):1≤s.length∧s.length≤7:=by
 unfold may at h;simp only [Bool.and_eq_true,decide_eq_true_eq] at h;have:=dgs_len s;omega
theorem nameK_pos {k:Int} (h0:0≤k) (h1:k≤7):1≤(Zcu k).length:=by
 unfold Zcu;rw [if_pos ⟨h0,by omega⟩];obtain ⟨i,rfl⟩:∃ i:Nat,k=(i:Int):=⟨k.toNat,by omega⟩;have hi:i<8:=by omega
 rw [Int.toNat_natCast];exact (by decide:∀ i,i<8→1≤(Za3.getD i []).length) i hi
theorem rowB_mem {l:List Wd} (h:rowB l=true):l.length≤256∧∀ x∈l,1≤x.text.length∧x.text.length≤24:=by
 unfold rowB textsV at h;simp only [Bool.and_eq_true,decide_eq_true_eq,List.length_map,List.all_eq_true] at h;refine ⟨h.1,fun x hx=>?_⟩;have:=h.2 _ (List.mem_map_of_mem hx);unfold wordB at this;simp only [Bool.and_eq_true,decide_eq_true_eq] at this;exact ⟨this.1,this.2.1⟩
theorem fit_of_right {u:Un} {w:Int} (h:rightT u=true) (hk:u.kind≠0) (h1:24≤w) (h2:w≤200):Zbu w (rowT u)=0:=by
 rw [rightT_eq] at h;have ha:=(Bool.and_eq_true_iff.1 h).1;unfold aloneR at ha;rw [if_neg hk] at ha;simp only [Bool.and_eq_true,decide_eq_true_eq] at ha;obtain ⟨⟨k0,k7⟩,_,hh,hw,hm⟩:=ha;obtain ⟨hh1,hh2⟩:=rowB_mem hh;obtain ⟨hw1,hw2⟩:=rowB_mem hw;have hl:=rowT_len u;refine wrongL_zero ⟨by omega,by omega,fun s hs=>?_⟩ (by omega);unfold rowT at hs;rcases List.mem_cons.1 hs with rfl|hs
 ·have:=nameK_pos k0 k7;have:=nameK_len u.kind;omega
 rcases List.mem_cons.1 hs with rfl|hs
 ·have:=may_len hm;omega
 obtain ⟨x,hx,rfl⟩:=List.mem_map.1 hs;rcases List.mem_append.1 hx with hx|hx
 ·have:=hh2 x hx;omega
 ·have:=hw2 x hx;omega
theorem right_sub {u:Un} (h:SmT u):rightT u=true→∀ x∈unitsT u,rightT x=true:=by
 induction h with
 | mk u h hk hs ih =>
  intro H x hx;rw [Zan] at hx;rcases List.mem_cons.1 hx with rfl|hx
  ·exact H
  rw [rightT_eq,rightL_eq] at H;simp only [Bool.and_eq_true,List.all_eq_true] at H;rw [Zaz] at hx;obtain ⟨k,h1,h2⟩:=List.mem_flatMap.1 hx;exact ih k h1 (H.2.2 k h1) x h2
def GoodU (w:Int) (x:Un):Prop:=Zbu w (rowT x)=0∧KeyU x
theorem good_all {u:Un} {w:Int} (h:SmT u) (hr:rightT u=true) (h1:24≤w) (h2:w≤200):∀ x∈unitsL u.kids,GoodU w x:=fun x hx =>
 have hx':=right_sub h hr x (by rw [Zan];exact List.mem_cons_of_mem _ hx)
 ⟨fit_of_right hx' (right_kinds h hr x hx) h1 h2,key_of_right hx'⟩
end Go.VM
namespace Go.Proofs.YtcgdjembdjdlhaaGreatDoor.w
open Go Go.VM
def c_paginate_body:VC:=(ZR [ZO 3 (.box 8 (.t 0)),ZO 6 (.mv (.c .nilsl))] (ZR [ZO 7 (.mv (.c .nilsl))] (.seq (ZR [ZO 10 (.faddr 7 (.t 3)),ZO 11 (.load false 1 (.t 10)),ZO 12 (.len false (.t 11)),ZO 13 (.mv (.c (.int .i64 0)))] (.block 0 (.loop (ZR [ZO 14 (.bin .lss (.t 13) (.t 12))] (.seq (.cond (.t 14) .skip (.exit 0)) (.seq (.block 1 (ZR [ZO 15 (.iaddr 8 (.t 11) (.t 13)),ZO 16 (.load true 8 (.t 15)),ZO 9 (.alloc ZU),ZN (.store 8 (.t 9) (.t 16))] (.seq (ZR [ZM 17 2,ZO 18 (.un .not (.t 17)),ZM 19 18,ZG 20 (.load true 8 (.t 3)) 19 true,ZG 21 (.load true 8 (.t 9)) 19 true,ZG 22 (.call 63 [.t 20,.t 21]) 19 true,ZG 23 (.bin .geq (.t 22) (.c (.int .i64 0))) 19 true,ZO 24 (.pick (.t 19) (.t 23) (.c (.bool false)))] (.cond (.t 24) (.exit 1) .skip)) (.draw2 [ZM 25 7,ZO 26 (.load true 8 (.t 9)),ZM 27 1,ZO 28 (.call 64 [.t 26,.t 27]),ZO 29 (.app 6 72 [(.str []),.int .i64 0,.int .i64 0,.int .i64 0,(.bool false),.nilsl] false (.t 25) (.t 28)),ZO 30 (.load true 8 (.t 9)),ZM 31 1,ZO 32 (.call 32 [.t 30,.t 31,(.c (.bool false))]),ZO 33 (.app 6 72 [(.str []),.int .i64 0,.int .i64 0,.int .i64 0,(.bool false),.nilsl] false (.t 29) (.t 32)),ZM 7 33] [true,true,true,true,false,false,false,false,false,false])))) (.region [ZO 34 (.bin .add (.t 13) (.c (.int .i64 1))),ZM 13 34] false))))))) (ZR [ZM 35 7,ZM 6 35] .ret))))
theorem closed_uwb (u:Un) (w:Int) (b:Bool):Za0 [.agg u.enc,pI w,.bool b]:=by
 intro y hy;simp only [List.mem_cons,List.not_mem_nil,or_false] at hy;rcases hy with rfl|rfl|rfl
 ·exact Zap _
 ·exact cI _
 ·exact cB _
theorem sp_pag_body {u:Un} (hu:SmT u) (hn:(unitsT u).length≤1000) (w:Int):(∀ x∈unitsL u.kids,GoodU w x)→∀ root:Bool,Zak Tryz.prog 32 [.agg u.enc,pI w,.bool root] (.sl 6 ((Zcs w root u u.kids).map Ln.encP)):=by
 induction hu with
 | mk u h hk hs ih =>
  intro hg root;have hu:SmT u:=.mk u h hk hs;rw [Zan,List.length_cons] at hn;have hgk:∀ k∈u.kids,GoodU w k∧∀ x∈unitsL k.kids,GoodU w x:=fun k hk'=>by
   refine ⟨hg k ?_,fun x hx=>hg x ?_⟩
   ·rw [Zaz];exact List.mem_flatMap.2 ⟨k,hk',Zbb k⟩
   ·rw [Zaz];exact List.mem_flatMap.2 ⟨k,hk',by rw [Zan];exact List.mem_cons_of_mem _ hx⟩
  have ih':∀ k∈u.kids,Zak Tryz.prog 32 [.agg k.enc,pI w,.bool false] (.sl 6 ((bodyL w k k.kids).map Ln.encP)):=fun k hk'=>ih k hk' (by have:=Zbc hk';omega) (hgk k hk').2 false;clear ih;have OW:∀ k∈u.kids,Zak Tryz.prog 64 [.agg k.enc,pI w] (.sl 6 ((ownL w k).map Ln.encP)):=fun k hk'=>sp_pag_own (hs k hk') w (hgk k hk').1.1 (hgk k hk').1.2;have CL:=fun k=>sp_called h k;have hkl:=kidsB_le hu w root;have hks:=fun k (hk:k<u.kids.length)=>kidsB_step (w:=w) (r:=root) (p:=u) hk;have hbq:=fun (k:Un) (hk':k∈u.kids)=>bodyT_le (hs k hk') w;have hum:=fun (k:Un) (hk':k∈u.kids)=>Zbc hk';refine Zad ?_ (closed_lnsP _) (closed_uwb _ _ _);refine Gn (vc:=c_paginate_body) [.t 6] Tryz.func32 ?_;unfold c_paginate_body;try dsimp only [ZM,ZO,ZN,ZG,ZR,ZU]
  rw [Un.Zaf] at CL ⊢;have hk0:Zcs w root u []=[]:=by unfold Zcs;cases root<;>rfl
  have hkf:Zcs w root u (u.kids.take u.kids.length)=Zcs w root u u.kids:=by rw [List.take_length]
  generalize u.kids=KL at *;refine Rp0 [1,2,3] ?_;refine Zat [(1,pI w),(2,.bool root),(3,.ro [pI u.act,pI u.item,pI u.n,pI u.kind,.str u.label,.sl 4 (u.head.map Wd.enc),.sl 4 (u.words.map Wd.enc),.sl 8 (KL.map Un.enc)])] ⟨View.refl _ _,View.refl _ _,View.loc (z:=8) (fz:=false) (es:=[[pI u.act,pI u.item,pI u.n,pI u.kind,.str u.label,.sl 4 (u.head.map Wd.enc),.sl 4 (u.words.map Wd.enc),.sl 8 (KL.map Un.enc)]]) rfl (by simp) rfl (by simp),trivial⟩ ?_;refine Rp0 [1,2,3,7] ?_;refine VW_own0 7 6 rfl ?_;refine Sp0 ?_;refine Zaa ?_;refine Rp1 [1,2,3,7,11,12,13] @xlm ?_;refine Zab ?_;refine Zah (σ:={ x:Nat×Nat×Nat//x.1≤KL.length∧x.2.1<x.2.2 }) (fun x=>([(1,pI w),(2,.bool root),(3,.ro [pI u.act,pI u.item,pI u.n,pI u.kind,.str u.label,.sl 4 (u.head.map Wd.enc),.sl 4 (u.words.map Wd.enc),.sl 8 (KL.map Un.enc)]),(7,.own x.1.2.1 0 (Zcs w root u (KL.take x.1.1)).length),(11,.sl 8 (KL.map Un.enc)),(12,pI KL.length),(13,pI x.1.1)],⟨[(x.1.2.1,.arr false 6 ((Zcs w root u (KL.take x.1.1)).map Ln.encP))],x.1.2.2⟩)) (fun x=>KL.length-x.1.1) ⟨(0,1,2),Nat.zero_le _,by simp⟩ ?_ ?_ ?_
  ·simp only [vmL,Nat.reduceEqDiff,hk0]
   first|done|rfl|exact ⟨rfl,rfl⟩
  ·simp only [vmL,hk0]
   first|done|rfl|exact ⟨rfl,rfl⟩
  rintro ⟨⟨k,id,t⟩,hkk,hid⟩;simp only [] at hkk hid ⊢;have qq:=N4 id t (t+1) (t+1+1);refine Rp1 [1,2,3,7,11,12,13,14] qq ?_;refine Zaa ?_;refine Zac rfl (fun h1=>?_) (fun h1=>?_)
  ·have ka:k<KL.length:=by simp only [decide_eq_true_eq] at h1;omega
   have hrow:(KL.map Un.enc).getD k []=KL[k].enc:=rowm ka;have hmem:=List.getElem_mem ka;have C:=CL KL[k];have O:=OW _ hmem;have R:=ih' _ hmem;have hst:=hks k ka;have hle2:=hkl k;have hbl:=hbq _ hmem;have hul:=hum _ hmem;rw [bodyT_eq] at hst hbl;rw [List.length_append] at hbl;generalize KL[k]=v at hrow C O R hst hbl hul;rw [Un.Zaf v] at hrow C O R;generalize hcv:Zag u v=cv at C hst;generalize hB:Zcs w root u (KL.take k)=B at *;have hBl:B.length≤700000:=by omega
   generalize ownL w v=LO at O hbl hst;generalize bodyL w v v.kids=LB at R hbl hst;refine Kp0 ?_;refine Zaa ?_;refine Zab ?_;refine Rp1 [1,2,3,7,9,11,12,13] (x3 @xlm hrow qq) ?_;refine Ok ?_;refine Zaa ?_;refine Zaa (Zbl (σ:=Unit) (fun _=>([(1,pI w),(2,.bool root),(3,.ro [pI u.act,pI u.item,pI u.n,pI u.kind,.str u.label,.sl 4 (u.head.map Wd.enc),.sl 4 (u.words.map Wd.enc),.sl 8 (KL.map Un.enc)]),(7,.own id 0 B.length),(9,.loc t 0 0),(11,.sl 8 (KL.map Un.enc)),(12,pI KL.length),(13,pI k),(24,.bool (!(root||decide (cv<0))))],⟨[(t,.arr false 8 [[pI v.act,pI v.item,pI v.n,pI v.kind,.str v.label,.sl 4 (v.head.map Wd.enc),.sl 4 (v.words.map Wd.enc),.sl 8 (v.kids.map Un.enc)]]),(id,.arr false 6 (B.map Ln.encP))],t+1⟩)) ?_ (fun _=>?_))
   ·cases root with
    | true =>
     refine rp1 [1,2,3,7,9,11,12,13,24] qq ?_;refine ⟨(),?_⟩;exact Fn1 qq
    | false =>
     refine rp1 [1,2,3,7,9,11,12,13,24] qq ?_;refine Ap1 C qq ?_;refine ⟨(),?_⟩;have hge:decide ((0:Int)≤cv) = !(false||decide (cv<0)):=by
      rw [Bool.false_or,Bool.eq_iff_iff,Bool.not_eq_true',decide_eq_true_eq,decide_eq_false_iff_not];omega
     rw [← hge]
     all_goals exact Fn1 qq
   have hale:(B.map Ln.encP).length=B.length:=List.length_map _;have hatk:List.take B.length (B.map Ln.encP)=B.map Ln.encP:=List.take_of_length_le (by omega);cases hq:(root||decide (cv<0)) with
   | true =>
    rw [hq,if_pos rfl] at hst;refine Fp0 ?_;refine VW_draw2Q [1,2,3,7,11,12,13] ⟨[(t,.arr false 8 [[pI v.act,pI v.item,pI v.n,pI v.kind,.str v.label,.sl 4 (v.head.map Wd.enc),.sl 4 (v.words.map Wd.enc),.sl 8 (v.kids.map Un.enc)]])],t+30⟩ (by simp [Heap.le,Heap.get,HL.le,HL.get]) ?_;refine Sp1 qq ?_;refine ⟨_,.inl O,?_⟩;refine Sp1 (x4 hale hatk @xlm qq) ?_;refine ⟨by omega,by omega,by omega,_,.inl R,?_⟩;have hal2:(B.map Ln.encP++LO.map Ln.encP).length=B.length+LO.length:=by rw [List.length_append,List.length_map,List.length_map]
    have hat2:List.take (B.length+LO.length) (B.map Ln.encP++LO.map Ln.encP)=B.map Ln.encP++LO.map Ln.encP:=List.take_of_length_le (by omega);refine Sp1 (x4 hal2 hat2 @xlm qq) ?_;refine ⟨by omega,by omega,by omega,?_⟩;refine rp1 [1,2,3,7,11,12,13] (x2 (ad1 (a:=k) (by omega)) qq) ?_;refine ⟨⟨(k+1,t+2,t+3),ka,by simp⟩,?_⟩;simp only [hst,List.length_append,List.map_append,List.append_assoc,Nat.add_assoc]
    all_goals exact Fn1 qq
   | false =>
    rw [hq,if_neg Bool.false_ne_true,List.append_nil] at hst;refine Ct ?_;refine Ep0 ?_;refine rp1 [1,2,3,7,11,12,13] (x2 (ad1 (a:=k) (by omega)) qq) ?_;refine ⟨⟨(k+1,id,t+1),ka,by show id<t+1;omega⟩,?_⟩;simp only [hst]
    all_goals exact Fn1 qq
  ·have ka:k=KL.length:=by simp only [decide_eq_false_iff_not] at h1;omega
   subst ka;rw [hkf];refine Ep0 ?_;refine Rp0 [6] ?_;refine Tp0 ?_;exact View.own_all (fz:=false) (by simp [Heap.get,HL.get]) (by rw [List.length_map])
end Go.Proofs.YtcgdjembdjdlhaaGreatDoor.w
namespace Go.Proofs.YtcgdjembdjdlhaaGreatDoor.w
open Go Go.VM
end Go.Proofs.YtcgdjembdjdlhaaGreatDoor.w
namespace Go.Proofs.YtcgdjembdjdlhaaGreatDoor.w
open Go Go.VM
end Go.Proofs.YtcgdjembdjdlhaaGreatDoor.w
