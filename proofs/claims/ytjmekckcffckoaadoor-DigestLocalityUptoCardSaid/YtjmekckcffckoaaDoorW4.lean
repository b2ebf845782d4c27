import Derived.Test.YtjmekckcffckoaaDoorW3
import Derived.Test.YtjmekckcffckoaaDoorD2
import Derived.Test.YtjmekckcffckoaaDoorB3
import Derived.Test.YtjmekckcffckoaaDoorShD
import Derived.Test.YtjmekckcffckoaaDoorVmAs
set_option linter.all false
namespace Go.Proofs.YtjmekckcffckoaaDoor.w
open Go Go.RowKit Go.Shelf Go.Sort Go.VM
set_option maxRecDepth 100000
attribute [local go_sem] Oper.semAt_some
instance : Inhabited Idt := ⟨⟨0, 0, 0⟩⟩
theorem plain_id:Plain Idt 3 idC Idt.enc:=⟨fun _=>rfl,fun _=>rfl,fun x v hv=>by simp [idC] at hv; rcases hv with rfl | rfl | rfl <;> rfl,
  fun g x j hj=>by
    match j,hj with
    | 0,_=>exact .int _ _
    | 1,_=>exact .int _ _
    | 2,_=>exact .int _ _,
  fun g v x j hj h=>by
    match j,hj,h with
    | 0,_,h=>cases h; rfl
    | 1,_,h=>cases h; rfl
    | 2,_,h=>cases h; rfl⟩
set_option maxHeartbeats 1000000 in
theorem keysMk_in (F : Fence) (n : Nat) (h7 : F.fn 38) (hro : F.round = none) (mb : Option Nat) (w : World) :
    CallsIn F n Tryd.prog 38 #[.map mb] w fun e w'=>e = .returned (.func (.func 57) #[] #[.pointer (some ⟨w.heap.size,0,none⟩)]) ∧ w' = w.alloc (.cells #[.map mb] 59):=by
  refine callsIn_of_wp Tryd.func38 rfl h7 ?_ hro
  simp only [Tryd.ntmps38,List.size_toArray,List.length_cons,List.length_nil,Nat.reduceAdd,Nat.reduceSub,Array.replicate_succ,Array.replicate_zero,List.push_toArray,List.append_toArray,List.nil_append,List.cons_append]
  gi_wp2
  go_ret
  exact ⟨rfl,rfl⟩
theorem of_one {g:Gh} {b:Nat} {p:PV} {len cap:Nat} (h:Rep g (.slice (some ⟨b,0,none⟩) len cap) (.sl 1 [[p]])) (hl:len = 1):∃ v,g.m b 0 = some v ∧ Rep g v p:=by
  subst hl
  cases h with
  | sl b o len cap z a es vs ha hl hc hz hm hr =>
    cases ha
    have h1:=hm 0 0 (by omega) (by omega)
    have h2:=hr 0 0 (by omega) (by omega)
    exact ⟨vs 0 0,by simpa using h1,by simpa [PV.row,PV.nth] using h2⟩
theorem sp_keys (m:Nat) (h:Heap):Zbb Tryd.prog 38 [.mp m] h (fun p h'=>p = .fnb (.func 57) (.mp m) ∧ h' = h):=by
  refine ⟨by kernel_rfl,fun g w vals r ha=>?_⟩
  obtain ⟨v,rfl,hv⟩:=args_1 ha
  cases hv with
  | mp _ b o n z hb =>
    refine (callsIn_wide (n:=5)).1 ((keysMk_in Fence.wide 5 trivial rfl (some b) w).mono ?_)
    rintro e w' ⟨rfl,rfl⟩
    obtain ⟨g',f1,f2,f3,f4⟩:=new_frozen r #[.map (some b)] 59 1 [[.mp m]] (fun i hi=>by
      obtain rfl:i = 0:=by simp at hi; omega
      rfl) (by
      refine ⟨rfl,fun i j hi hj=>?_⟩
      obtain rfl:i = 0:=by simp at hi; omega
      obtain rfl:j = 0:=by omega
      exact ⟨rfl,.mp _ _ _ _ _ hb⟩)
    obtain ⟨v,k1,k2⟩:=of_one f2 rfl
    have e1:=(f3.mem _ _ _ k1).1
    obtain rfl:v = .map (some b):=by
      simp [World.cell?] at e1
      exact e1.symm
    exact ⟨_,_,g',h,rfl,⟨rfl,rfl⟩,.fnb _ _ _ _ k1 k2,f3,f4⟩
theorem swoId:SWO (Go.Proofs.ltOf cfId) where
  irrefl x:=by rw [ltOf_id]; simp [ltId]
  trans x y z h1 h2:=by
    rw [ltOf_id,← ltOf_id] at *
    simp only [Go.Proofs.ltOf,decide_eq_true_iff,cfId_neg] at *
    omega
  ntrans x y z h1 h2:=by
    simp only [Go.Proofs.ltOf,decide_eq_false_iff_not,cfId_neg] at *
    omega
theorem sepId (x y:Idt) (h1:Go.Proofs.ltOf cfId x y = false) (h2:Go.Proofs.ltOf cfId y x = false):x = y:=by
  simp only [Go.Proofs.ltOf,decide_eq_false_iff_not,cfId_neg] at *
  cases x; cases y
  simp only [Idt.mk.injEq]
  simp only at h1 h2
  omega
theorem sortD_eq (l:List Idt):l.mergeSort (fun x y=>!(Go.Proofs.ltOf cfId) y x) = sortD l:=by
  unfold sortD
  congr 1
  funext a b
  rw [ltOf_id]
theorem ltId_iff (x y:Idt):ltId x y = true ↔ (x.act < y.act ∨ (x.act = y.act ∧ (x.item < y.item ∨ (x.item = y.item ∧ x.n < y.n)))):=by
  rw [← ltOf_id,Go.Proofs.ltOf,decide_eq_true_iff,cfId_neg]
theorem sortD_sorted (l:List Idt):(sortD l).Pairwise fun x y=>(!ltId y x) = true:=by
  refine List.pairwise_mergeSort (fun a b c h1 h2=>?_) (fun a b=>?_) l
  · rw [Bool.not_eq_true',← Bool.not_eq_true,ltId_iff] at *
    omega
  · rw [Bool.or_eq_true,Bool.not_eq_true',← Bool.not_eq_true,Bool.not_eq_true',← Bool.not_eq_true,ltId_iff,ltId_iff]
    omega
theorem sortD_perm {a b:List Idt} (h:a.Perm b):sortD a = sortD b:=by
  refine List.Perm.eq_of_pairwise (le:=fun x y=>(!ltId y x) = true) (fun x y _ _ h1 h2=>?_) (sortD_sorted a) (sortD_sorted b) ((List.mergeSort_perm _ _).trans (h.trans (List.mergeSort_perm _ _).symm))
  exact sepId x y (by rw [ltOf_id]; simpa using h2) (by rw [ltOf_id]; simpa using h1)
set_option maxHeartbeats 4000000 in
theorem sortedFunc_calls (g : Nat) (lb : Array Value) (eg : ∀ args w, (callFunc g args).run Tryd.prog w = .ok (.enter g args) w) (S Sp : List Idt → Prop) (N : Nat) (hN : N ≤ 1000000) (hS : ∀ l, S l → l.length ≤ N) {G : Gh} {h : Heap} (w : World) (r : Rel G w h)
    (hseq:SeqStopsK Fence.wide 1 Tryd.prog g lb (fun x:Idt=>#[idV x]) KeepsWalks S Sp N w) :
    Calls Tryd.prog 37 #[.func (.func g) #[] lb,.func (.func 39) #[] #[]] w fun e w'=>∃ v ss m',e = .returned v ∧ S ss ∧ Rep ⟨m',fun _=>none⟩ v (.sl 3 ((sortD ss).map Idt.enc)) ∧ MemExt G w m' w' ∧ Below w.heap.size w w':=by
  have C:=fun w0 (h0:w0 = w)=>(callsIn_wide (n:=3)).1 (collectId_in Fence.wide 3 trivial trivial rfl (by omega) g lb trivial eg S Sp N hN w hseq)
  have en:∀ args w,(callFunc 39 args).run Tryd.prog w = .ok (.enter 39 args) w:=enters_of Tryd.func39 (by kernel_rfl) rfl
  go_enter Tryd.func37,Tryd.ntmps37
  go_wp2_with (go_at_call 55; refine (C _ rfl).mono ?_; rintro e W ⟨v,ss,rfl,hSs,hrow,hnil,hb⟩)
  rcases hrow.2 with ⟨rfl,hz⟩ | ⟨gb,cap,cur,rfl,hbase,hgb,r1,r2,r3,r4⟩
  · have hss:ss = []:=List.eq_nil_of_length_eq_zero hz
    subst hss
    have hcon:=AnyF.slices_SortFunc_none Tryd.sortId none 0 (.func (.func 39) #[] #[]) W
    change Calls Tryd.prog 56 _ _ _ at hcon
    go_wp2_with (go_at_call 56; refine hcon.mono ?_; rintro e w' ⟨rfl,rfl⟩)
    go_ret
    have e0:sortD [] = []:=by simp [sortD]
    exact ⟨.slice none 0 0,[],G.m,rfl,hSs,by rw [e0]; exact .slE _ _ _,memExt_below r hb,hb⟩
  · have hlen:=hS ss hSs
    have hgl:gb < W.heap.size:=(Array.getElem?_eq_some_iff.1 hgb).1
    have hcmp:=cmpLays_of plain_id (fun x y=>sp_digest_Diff_1 x y) r gb 0 ss.toArray.size (W:=W) (fun b hb' _=>hb.block b hb') hb.size (.inl hbase)
    have hcon:=AnyQ.slices_SortFunc_total Tryd.sortId 3 Tryd.isAgg26 Tryd.sizeOf26 idC (fun _=>rfl) plain_id.one cfId swoId 39 #[] gb 0 cap ss.toArray W en hcmp (holdsK_of_block plain_id (by decide) hgb r4) hgl (by simp; omega) sepId
    change Calls Tryd.prog 56 _ _ _ at hcon
    have hcl:(sortD ss).length = ss.length:=by simp [sortD]
    simp only [List.size_toArray,List.toList_toArray,sortD_eq] at hcon
    go_wp2_with (go_at_call 56; refine hcon.mono ?_; rintro e w' ⟨rfl,n,os,rfl⟩)
    go_ret
    obtain ⟨m',k1,k2,k3⟩:=sortedRow_result plain_id (by decide) r hb hbase hgb (sortD ss) (cap:=cap) (by rw [hcl]; exact r1) (by rw [hcl,r3]; exact Nat.mul_le_mul_right _ r1) n os
    rw [hcl] at k1
    exact ⟨_,ss,m',rfl,hSs,k1,k2,k3⟩
theorem sp_sortedKeys (m : Nat) (h : Heap) (M : List (Idt × Str)) (hg : h.get m = some (.map (encG M))) (hn : (M.map (·.1)).Nodup) (hl : M.length ≤ 1000000) :
    Zbb Tryd.prog 37 [.fnb (.func 57) (.mp m),.fn (.func 39) [] []] h (fun p h'=>p = .sl 3 ((sortD (M.map (·.1))).map Idt.enc)):=by
  refine ⟨by kernel_rfl,fun g w vals r ha=>?_⟩
  obtain ⟨v,u,rfl,hv,hu⟩:=args_2 ha
  obtain rfl:u = .func (.func 39) #[] #[]:=by
    cases hu with
    | fn f fs cs pf pc h1 h2 hf hc =>
      have e1:fs = #[]:=Array.eq_empty_of_size_eq_zero h1
      have e2:cs = #[]:=Array.eq_empty_of_size_eq_zero h2
      rw [e1,e2]
  cases hv with
  | fnb _ Bm v _ hm h1 =>
  cases h1 with
  | mp _ b o n z hb =>
  have hcell:=(r.mem Bm 0 _ hm).1
  have hBm:Bm < w.heap.size:=by
    rcases Nat.lt_or_ge Bm w.heap.size with h1 | h1
    · exact h1
    · simp [World.cell?,Array.getElem?_eq_none h1] at hcell
  rcases r.blk m _ hg with ⟨hn,_⟩ | ⟨b',o',n',z',hb',hlt,hfree,ents,clock,q1,q2,q3,q4⟩
  · rw [hb] at hn; cases hn
  rw [hb] at hb'
  simp only [Option.some.injEq,Prod.mk.injEq] at hb'
  obtain ⟨rfl,_⟩:=hb'
  have hst:=q4 (keysFlat_encG M)
  rw [encG_len] at q2
  have hkey:∀ i (h:i < ents.size),ents[i].key = idV ((M.map (·.1)).getD i default):=fun i hi=>by
    have hi':i < M.length:=by omega
    have hie:i < (encG M).length:=by rw [encG_len]; exact hi'
    have h3:=(q3 i ents[i] (encG M)[i] (Array.getElem?_eq_getElem hi) (List.getElem?_eq_getElem (by rw [encG_len]; exact hi'))).1
    rw [encG_at] at h3
    have e4:(M.map (·.1)).getD i default = M[i].1:=by simp [List.getD_eq_getElem?_getD,hi']
    rw [e4]
    generalize M[i].1 = x at h3 ⊢
    generalize ents[i].key = kk at h3 ⊢
    cases h3 with
    | agg vs cs h h1 hr =>
      obtain ⟨a,b,c,rfl⟩:∃ a b c,vs = #[a,b,c]:=by
        rcases vs with ⟨l⟩
        match l,h with
        | [a,b,c],_=>exact ⟨a,b,c,rfl⟩
      have e0:=hr 0 (by simp [Idt.enc])
      have e1:=hr 1 (by simp [Idt.enc])
      have e2:=hr 2 (by simp [Idt.enc])
      have f0:a = .int .i64 x.act:=by have:Rep g a (pI x.act):=e0; exact this.int_inv
      have f1:b = .int .i64 x.item:=by have:Rep g b (pI x.item):=e1; exact this.int_inv
      have f2:c = .int .i64 x.n:=by have:Rep g c (pI x.n):=e2; exact this.int_inv
      rw [f0,f1,f2]; rfl
  have hseq:=keysId_stops Fence.wide 1 trivial rfl (Nat.le_refl _) Bm b clock ents (M.map (·.1)) hst (by rw [List.length_map]; exact q2) hkey w hBm hcell q1
  have e10:∀ args w,(callFunc 57 args).run Tryd.prog w = .ok (.enter 57 args) w:=enters_of Tryd.func57 (by kernel_rfl) rfl
  refine (sortedFunc_calls 57 _ e10 _ _ _ (by simpa using hl) (fun l hl=>Nat.le_of_eq hl.length_eq) w r hseq).mono ?_
  rintro e w' ⟨v,ss,m',rfl,hS,hrep,hext,hbl⟩
  have hss:sortD ss = sortD (M.map (·.1)):=sortD_perm hS
  rw [hss] at hrep
  obtain ⟨R,E⟩:=r.below hext hbl
  exact ⟨v,_,_,h,rfl,rfl,hrep.mono (g:=⟨m',fun _=>none⟩) (g':=⟨m',g.β⟩) ⟨fun _ _ _ e=>e,(fun id x (e:(none:Option (Nat × Nat × Nat × Nat)) = some x)=>(by cases e)),fun _ _ e=>e⟩,R,E⟩
end Go.Proofs.YtjmekckcffckoaaDoor.w
