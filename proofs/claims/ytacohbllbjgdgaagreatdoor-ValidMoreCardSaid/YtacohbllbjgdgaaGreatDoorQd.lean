/- A module that was copied, with another row of functions. -/
import Derived.Test.YtacohbllbjgdgaaGreatDoorWx
import Derived.Test.YtacohbllbjgdgaaGreatDoorPa
set_option linter.all false
namespace Go.Proofs.YtacohbllbjgdgaaGreatDoor
open Go.RowKit
theorem fun3(t:funCT):(vC.enc t).length=3:=rfl
theorem rows_funcs{R:Nat->Prop}{w:World}{a:Option Addr}{ts:List funCT}{fs:List (Int×List Int×Il)}(h:rowP vC a ts R w)(e:ts.map (λt:funCT=>(t.n,t.l,t.b))=fs)(hl:fs.length<=9223372036854775807)(hb:∀t∈fs,t.2.2.len<=9223372036854775807):RowsIn FuncAt 3 w a fs:=
 rows_of (C:=vC) (by decide) (λ_=>rfl) (λb o t ht hok hc=>⟨hc 0 _ rfl,⟨_,_,hc 1 _ rfl,hok.1.ints⟩,⟨_,_,hc 2 _ rfl,hb _ ht,hok.2.il⟩⟩) h e hl
def MA.f (A:MA) (a:Option Addr) (k:Nat):MA:={A with a2:=a,k2:=k}
def MA.own2 (D:MA) (m:Md):Option Nat:=(Value.slice D.a2 m.funcs.length D.k2).ownBlock
def CpF' (m:Md) (A:MA) (B:Nat) (w:World) (ts:List funCT):Prop:=CopyF m B A.a0 A.k0 A.a1 A.k1 A.a2 A.k2 A.a3 A.k3 A.a4 A.k4 A.a5 A.k5 A.a6 A.k6 A.a7 A.k7 A.a8 A.k8 A.a9 A.k9 w ts
theorem small_bodies{m:Md}(h:Small m):∀t∈m.funcs,t.2.2.len<=9223372036854775807:=λt ht=>by have:=(h.funcs t ht).2.1;omega
theorem CopyF.push{m:Md}{D:MA}{B:Nat}{w5 W w1:World}{ts:List funCT}(hc:CpF' m D B w5 ts)(hsm:Small m){X h g cap:Nat}{K:Int}{v:Value}(hb:Below w5.heap.size w5 W)(hX:w5.heap.size<=X)(hXW:X<W.heap.size)(h1:w5.heap.size<=h)(h2:h≠X)(h3:h<W.heap.size)(hI:IlR (λb=>b=h) W h 0 un1)(own:w1.ownsRow B 53 3 (.slice (some ⟨g,0,none⟩) (m.funcs.length+1) cap) (m.funcs.length+1) (ts.flatMap vC.enc++[.int .i64 K,.slice none 0 0,.slice (some ⟨h,0,none⟩) 1 1]))(hg:W.grownBy w1 (D.own2 m))(hat:D.own2 m=some g\/g=W.heap.size):MdA (w1.setCell ⟨X,2,none⟩ v) (vJ m K) (D.f (some ⟨g,0,none⟩) cap):=by
 have hlt:∀q,D.own2 m=some q->q<w5.heap.size:=λq e=>(hc.own.lt q e).2
 have hgX:g≠X:=by
  rcases hat with e |e
  . have:=hlt g e;omega
  . omega
 obtain⟨tn,htn⟩:∃t:funCT,t=⟨K,[],none,0,un1,some ⟨h,0,none⟩,1⟩:=⟨_,rfl⟩
 have ownx:(w1.setCell ⟨X,2,none⟩ v).ownsRow B 53 3 (.slice (some ⟨g,0,none⟩) (m.funcs.length+1) cap) (m.funcs.length+1) ((ts++[tn]).flatMap vC.enc):=by have:=ownsRow_setCell_other own (a:=⟨X,2,none⟩) (λe=>hgX (Option.some.inj e)) v;rw[List.flatMap_append,htn];simpa[vC,un1,Il.len]using this
 have hk:KeepsR (λb=>B<=b/\some b≠D.own2 m) (λ_=>True) w5 (w1.setCell ⟨X,2,none⟩ v):=
  ⟨λb hr hl=>(Below.heap_setCell w1 ⟨X,2,none⟩ v b (by show b≠X;omega)).trans ((hg.block b (Nat.lt_of_lt_of_le hl hb.size) hr.2).trans (hb.block b hl)),λ_ _ _=>trivial⟩
 have hk2:KeepsR (λb=>b=h) (λ_=>True) W (w1.setCell ⟨X,2,none⟩ v):=
  ⟨λb hr hl=>by subst hr;exact(Below.heap_setCell w1 ⟨X,2,none⟩ v b (by show b≠X;exact h2)).trans (hg.block b h3 λe=>by have:=hlt b e.symm;omega),λ_ _ _=>trivial⟩
 refine hc.rest _ _ _ _ hk (rows_funcs (own_row (R:=λ_=>True) ownx λt ht=> ?_) (by rw[List.map_append,hc.dec,htn];rfl) ?_ λt ht=> ?_)
 . rcases List.mem_append.1 ht with q |q
   . exact vC.keep _ _ _ _ _ hk (hc.oks t q)
   . obtain rfl:=List.mem_singleton.1 q;rw[htn];exact⟨⟨Nat.zero_le _,.inl rfl⟩,.inr ⟨h,0,rfl,trivial,IlR.keep hk2 _ _ _ rfl hI⟩⟩
 . have:=hsm.l2;simp;omega
 . rcases List.mem_append.1 ht with q |q
   . exact small_bodies hsm t q
   . obtain rfl:=List.mem_singleton.1 q
     show un1.len<=_
     decide
theorem CopyF.body{m:Md}{D:MA}{B:Nat}{w5 W:World}{ts:List funCT}(hc:CpF' m D B w5 ts)(hsm:Small m){g j:Nat}{ty:Int}{lo:List Int}{b b':Il}{ba:Option Addr}{bc:Nat}(hfj:m.funcs[j]? =some (ty,lo,b))(hg:D.a2=some ⟨g,0,none⟩)(hK:KeepsR (λb=>B<=b/\some b≠D.own2 m) (λb=>some b≠D.own2 m) w5 W)(hW:W.heap[g]? =w5.heap[g]?)(hl:b'.len<=9223372036854775807){R:Nat->Prop}(hR:∀b,R b->b≠g)(hS:SlR R W ba b'):MdA (W.setCell ⟨g,j*3+2,none⟩ (.slice ba b'.len bc)) (vE m j (ty,lo,b')) D:=by
 have ho:D.own2 m=some g:=(by unfold MA.own2;rw[hg];rfl)
 obtain⟨tj,htj,hdj⟩:∃t,ts[j]? =some t/\(t.n,t.l,t.b)=(ty,lo,b):=by have:=hc.dec;rw[<-this,List.getElem?_map]at hfj;obtain⟨t,h1,h2⟩:=Option.map_eq_some_iff.1 hfj;exact⟨t,h1,h2⟩
 obtain⟨tn,htn⟩:∃t:funCT,t=⟨tj.n,tj.l,tj.la,tj.lc,b',ba,bc⟩:=⟨_,rfl⟩
 have hblk:∀q,q≠g->(W.setCell ⟨g,j*3+2,none⟩ (.slice ba b'.len bc)).heap[q]? =W.heap[q]? :=λq hq=>Below.heap_setCell W ⟨g,j*3+2,none⟩ _ q hq
 have hk:KeepsR (λb=>B<=b/\some b≠D.own2 m) (λ_=>True) w5 (W.setCell ⟨g,j*3+2,none⟩ (.slice ba b'.len bc)):=
  ⟨λq hr hlq=>(hblk q λe=>hr.2 (by rw[ho,e])).trans (hK.1 q hr hlq),λ_ _ _=>trivial⟩
 have hcell:∀(q:Nat) (u:Value),(ts.flatMap vC.enc)[q]? =some u->W.cell? ⟨g,q,none⟩=some u:=λq u hq=>by
  have h1:=hc.own.cells (g:=g) ho q u hq;rw[add_cell]at h1;exact(World.cell?_of_block (w:=w5) (w':=W) (a:=⟨g,q,none⟩) hW).trans h1
 have h2:=hcell _ _ (flat_at fun3 ts j 2 tj _ htj rfl);have hset:(ts.set j tn)[j]? =some tn:=(by rw[List.getElem?_set_self (List.getElem?_eq_some_iff.1 htj).1])
 have hrow:rowP vC D.a2 (ts.set j tn) (λ_=>True) (W.setCell ⟨g,j*3+2,none⟩ (.slice ba b'.len bc)):=by
  refine⟨.inr ⟨g,hg,trivial,λq u hq=> ?_⟩,λt ht=> ?_⟩
  . obtain⟨i,r,x,hx,rfl,hr⟩:=flat_inv fun3 _ q u hq;have hr3:r<3:=(List.getElem?_eq_some_iff.1 hr).1
    by_cases hij:j=i
    . subst hij;rw[hset]at hx;cases hx
      rcases r with _ |_ |_ |r
      . rw[htn]at hr;exact zE (hcell _ u (flat_at fun3 ts j 0 tj u htj hr)) (.inr (by show j*3+2≠j*3+0;omega))
      . rw[htn]at hr;exact zE (hcell _ u (flat_at fun3 ts j 1 tj u htj hr)) (.inr (by show j*3+2≠j*3+1;omega))
      . rw[htn]at hr;cases hr;exact xM h2
      . omega
    . rw[List.getElem?_set_ne hij]at hx;exact zE (hcell _ u (flat_at fun3 ts i r x u hx hr)) (.inr (by show j*3+2≠i*3+r;omega))
  . rcases List.mem_or_eq_of_mem_set ht with q |rfl
    . exact vC.keep _ _ _ _ _ hk (hc.oks t q)
    . have hj:=vC.keep _ _ _ _ _ hk (hc.oks tj (List.mem_of_getElem? htj));rw[htn];exact⟨hj.1,hS.keep ⟨λq hr _=>hblk q (hR q hr),λ_ _ _=>trivial⟩⟩
 have hdec:(ts.set j tn).map (λt:funCT=>(t.n,t.l,t.b))=m.funcs.set j (ty,lo,b'):=by
  rw[List.map_set,hc.dec];obtain⟨q1,q2⟩:=Prod.mk.inj hdj;obtain⟨q2,q3⟩:=Prod.mk.inj q2;rw[htn]
  show m.funcs.set j (tj.n,tj.l,b')=_
  rw[q1,q2]
 refine hc.rest _ _ _ _ hk (rows_funcs hrow hdec (by have:=hsm.l2;simp;omega) λt ht=> ?_)
 rcases List.mem_or_eq_of_mem_set ht with q |rfl
 . exact small_bodies hsm t q
 . exact hl
theorem szI_wt:∀l:Il,szI l<=wt l
 |.nil=>Nat.le_refl _
 |.cons op x y n ls body els rest=>by
   have h1:=szI_wt body;have h2:=szI_wt els;have h3:=szI_wt rest;have e:szI (.cons op x y n ls body els rest)=1+szI body+szI els+szI rest:=rfl;have e2:wt (.cons op x y n ls body els rest)=1+ls.length/10+wt body+wt els+wt rest:=rfl;omega
theorem cnt_lo:∀(l:Il) (left:Int),(szI l:Int)<=left->cnt l left=left-szI l
 |.nil,left,h=>by
   have e:szI .nil=0:=rfl;unfold cnt;omega
 |.cons op x y n ls body els rest,left,h=>by
   have e:szI (.cons op x y n ls body els rest)=1+szI body+szI els+szI rest:=rfl;rw[e]at h ⊢;have h1:=cnt_lo body (left-1) (by omega);have h2:=cnt_lo els (left-1-szI body) (by omega);have h3:=cnt_lo rest (left-1-szI body-szI els) (by omega);unfold cnt
   dsimp only
   have a1:(if 0<=left-1 then cnt body (left-1)else left-1)=left-1-szI body:=(by rw[if_pos (by omega),h1])
   rw[a1];have a2:(if 0<=left-1-(szI body:Int)then cnt els (left-1-szI body)else left-1-szI body)=left-1-szI body-szI els:=(by rw[if_pos (by omega),h2])
   rw[a2,if_neg (by omega),h3];omega
theorem cntF_lo:∀(l:List (Int×List Int×Il)) (left:Int),(wtF l:Int)<=left->left-wtF l<=jS l left
 | [],left,h=>by
   have e:wtF []=0:=rfl;unfold jS;omega
 |f::r,left,h=>by
   have e:wtF (f::r)=wt f.2.2+wtF r:=rfl;have h1:=szI_wt f.2.2;have h2:=cnt_lo f.2.2 left (by omega);have h3:=cntF_lo r (left-szI f.2.2) (by omega);unfold jS;rw[h2,if_neg (by omega)];omega
theorem wtF_mem:∀(l:List (Int×List Int×Il)) (f:Int×List Int×Il),f∈l->wt f.2.2<=wtF l
 | [],f,h=>by cases h
 |g::r,f,h=>by
   have e:wtF (g::r)=wt g.2.2+wtF r:=rfl
   rcases List.mem_cons.1 h with rfl |h
   . omega
   . have:=wtF_mem r f h;omega
theorem CopyF.at{m:Md}{D:MA}{B:Nat}{w5:World}{ts:List funCT}(hc:CpF' m D B w5 ts){g j:Nat}{ty:Int}{lo:List Int}{b:Il}(hfj:m.funcs[j]? =some (ty,lo,b))(hg:D.a2=some ⟨g,0,none⟩):∃ba bc,w5.cell? ⟨g,j*3+2,none⟩=some (.slice ba b.len bc)/\SlR (λb=>B<=b/\some b≠D.own2 m) w5 ba b/\w5.cell? ⟨g,j*3,none⟩=some (.int .i64 ty):=by
 have ho:D.own2 m=some g:=(by unfold MA.own2;rw[hg];rfl)
 obtain⟨tj,htj,hdj⟩:∃t,ts[j]? =some t/\(t.n,t.l,t.b)=(ty,lo,b):=by have:=hc.dec;rw[<-this,List.getElem?_map]at hfj;obtain⟨t,h1,h2⟩:=Option.map_eq_some_iff.1 hfj;exact⟨t,h1,h2⟩
 obtain⟨q1,q2⟩:=Prod.mk.inj hdj;obtain⟨q2,q3⟩:=Prod.mk.inj q2;have h1:=hc.own.cells (g:=g) ho _ _ (flat_at fun3 ts j 2 tj _ htj rfl);have h0:=hc.own.cells (g:=g) ho _ _ (flat_at fun3 ts j 0 tj _ htj rfl);rw[add_cell]at h1 h0;have hok:=(hc.oks tj (List.mem_of_getElem? htj)).2;rw[q3]at h1 hok;rw[q1]at h0;exact⟨tj.ba,tj.bc,h1,hok,h0⟩
theorem CopyF.free{m:Md}{D:MA}{B:Nat}{w5:World}{ts:List funCT}(hc:CpF' m D B w5 ts){g:Nat}(hg:D.a2=some ⟨g,0,none⟩)(j:Nat):w5.frozen? ⟨g,j,none⟩=false:=by
 rcases hc.own.2 with⟨e,_⟩ |⟨g',cap,cur,e,_,hh,_⟩
 . rw[hg]at e;cases e
 . rw[hg]at e;cases e;simp[World.frozen?,hh]
theorem small_cnt{m:Md}(h:Small m):1<=jS m.funcs 65536:=by have h1:=h.wts;have h2:=cntF_lo m.funcs 65536 (by omega);omega
end Go.Proofs.YtacohbllbjgdgaaGreatDoor
