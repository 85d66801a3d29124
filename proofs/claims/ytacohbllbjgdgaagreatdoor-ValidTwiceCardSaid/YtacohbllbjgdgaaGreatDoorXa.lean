/- What a body is typed with, as it lies in memory: two rows that grow, and a block that holds them. -/
import Derived.Test.YtacohbllbjgdgaaGreatDoorVu
import Derived.Laws.AppendOwn
import Derived.Laws.OwnMore
import Derived.Maps.AppendAt
import Derived.OneCell
import Derived.Below
import Derived.Laws.Rows
import Derived.WalkLawsBesides
import Derived.RegionTactic
import Derived.BigRegion
import Derived.StillTailTactics
import Derived.BigQuiet
import Derived.Deep.QuietTactic
import Derived.Deep.Cut
import Derived.Deep.CutRange
set_option linter.all false
set_option maxRecDepth 100000
set_option maxHeartbeats 4000000
namespace Go.Proofs.YtacohbllbjgdgaaGreatDoor
open Go.RowKit
def jG (un t:Int):Int:=if t=0 then un else t
def stC (un:Int) (st:List Int):List Value:=st.reverse.map λt=>Value.int .i64 (jG un t)
structure FA where
 ga:Option Addr
 gc:Nat
 ea:Option Addr
 ec:Nat
def frV (q:Fr×FA):List Value:=[.slice q.2.ga q.1.goes.length q.2.gc,.slice q.2.ea q.1.ends.length q.2.ec,.int .i64 q.1.h,.bool q.1.dead]
def frC (L:List (Fr×FA)):List Value:=L.reverse.flatMap frV
theorem stC_cons(un x:Int)(r:List Int):stC un (x::r)=stC un r++[.int .i64 (jG un x)]:=by simp[stC]
theorem stC_app(un:Int)(l r:List Int):stC un (l.reverse++r)=stC un r++l.map λt=>Value.int .i64 (jG un t):=by simp[stC]
theorem stC_length(un:Int)(r:List Int):(stC un r).length=r.length:=by simp[stC]
theorem frC_cons(q:Fr×FA)(L:List (Fr×FA)):frC (q::L)=frC L++frV q:=by simp[frC]
theorem vG:∀L:List (Fr×FA),(frC L).length=L.length*4
 | []=>rfl
 |q::L=>by rw[frC_cons,List.length_append,vG L,List.length_cons];simp[frV];omega
theorem frC_at:∀(L:List (Fr×FA)) (n:Nat) (q:Fr×FA),L[n]? =some q->∀j,j<4->(frC L)[(L.length-1-n)*4+j]? =(frV q)[j]?
 | [],n,q,h,j,hj=>by simp at h
 |a::L,0,q,h,j,hj=>by
   simp at h;subst h;rw[frC_cons,List.getElem?_append_right (by rw[vG,List.length_cons];omega),vG,List.length_cons];congr 1;omega
 |a::L,n+1,q,h,j,hj=>by
   have h':L[n]? =some q:=(by simpa using h)
   have hl:=(List.getElem?_eq_some_iff.1 h').1;rw[frC_cons,List.length_cons];have e:(L.length+1-1-(n+1))*4+j=(L.length-1-n)*4+j:=(by omega)
   rw[e,List.getElem?_append_left (by rw[vG];omega)];exact frC_at L n q h' j hj
def LiB (w:World) (p:Nat) (sv fv:Value) (a:Option Addr) (l:List Int):Prop:=
 IntsIn w a l/\(l=[]\/∀ad,a=some ad->ad.block≠p/\sv.ownBlock≠some ad.block/\fv.ownBlock≠some ad.block)
structure Tw (p:Nat) (sv fv sv' fv':Value) (w w':World):Prop where
 os:w'.os=w.os
 tape:w'.tape=w.tape
 output:w'.output=w.output
 size:w.heap.size<=w'.heap.size
 block:∀k,k<w.heap.size->k≠p->sv.ownBlock≠some k->fv.ownBlock≠some k->w'.heap[k]? =w.heap[k]?
 s:sv'.ownBlock=sv.ownBlock\/∀g,sv'.ownBlock=some g->w.heap.size<=g
 f:fv'.ownBlock=fv.ownBlock\/∀g,fv'.ownBlock=some g->w.heap.size<=g
section
variable {p N:Nat} {sv fv sv' fv' sv'' fv'':Value} {w w' a b c:World}
theorem Tw.refl(p:Nat)(sv fv:Value)(w:World):Tw p sv fv sv fv w w:=⟨rfl,rfl,rfl,Nat.le_refl _,λ_ _ _ _ _=>rfl,.inl rfl,.inl rfl⟩
theorem own_tr{v v' v'':Value}{n m:Nat}(h:v'.ownBlock=v.ownBlock\/∀g,v'.ownBlock=some g->n<=g)(k:v''.ownBlock=v'.ownBlock\/∀g,v''.ownBlock=some g->m<=g)(hnm:n<=m):v''.ownBlock=v.ownBlock\/∀g,v''.ownBlock=some g->n<=g:=by
 rcases k with e |e
 . rcases h with e2 |e2
   . exact .inl (e.trans e2)
   . exact .inr λg hg=>e2 g (e▸hg)
 . exact .inr λg hg=>Nat.le_trans hnm (e g hg)
theorem own_no{v v':Value}{n k:Nat}(h:v'.ownBlock=v.ownBlock\/∀g,v'.ownBlock=some g->n<=g)(hk:k<n)(hv:v.ownBlock≠some k):v'.ownBlock≠some k:=by
 rcases h with e |e
 . rw[e];exact hv
 . intro e2;have:=e k e2;omega
theorem Tw.trans(h:Tw p sv fv sv' fv' a b)(k:Tw p sv' fv' sv'' fv'' b c):Tw p sv fv sv'' fv'' a c:=
 ⟨k.os.trans h.os,k.tape.trans h.tape,k.output.trans h.output,Nat.le_trans h.size k.size,λi hi hp hs hf=>by
  rw[k.block i (Nat.lt_of_lt_of_le hi h.size) hp (own_no h.s hi hs) (own_no h.f hi hf)];exact h.block i hi hp hs hf,own_tr h.s k.s h.size,own_tr h.f k.f h.size⟩
theorem Tw.of_below(h:Below w.heap.size w w'):Tw p sv fv sv fv w w':=⟨h.os,h.tape,h.output,h.size,λk hk _ _ _=>h.block k hk,.inl rfl,.inl rfl⟩
theorem Tw.step(h:Tw p sv fv sv' fv' a b)(k:Below b.heap.size b c):Tw p sv fv sv' fv' a c:=h.trans (.of_below k)
theorem Tw.set(h:Tw p sv fv sv' fv' a b)(j:Nat)(u:Value):Tw p sv fv sv' fv' a (b.setCell ⟨p,j,none⟩ u):=
 ⟨h.os,h.tape,h.output,by have:=h.size;simpa[World.setCell]using this,λk hk hp hs hf=>(Below.heap_setCell _ _ _ _ hp).trans (h.block k hk hp hs hf),h.s,h.f⟩
theorem Tw.cutS(h:Tw p sv fv sv' fv' a b)(e:sv''.ownBlock=sv'.ownBlock):Tw p sv fv sv'' fv' a b:=⟨h.os,h.tape,h.output,h.size,h.block,by rw[e];exact h.s,h.f⟩
theorem Tw.cutF(h:Tw p sv fv sv' fv' a b)(e:fv''.ownBlock=fv'.ownBlock):Tw p sv fv sv' fv'' a b:=⟨h.os,h.tape,h.output,h.size,h.block,h.s,by rw[e];exact h.f⟩
theorem Tw.growS(hg:w.grownBy w' sv.ownBlock)(ho:sv'.ownBlock=sv.ownBlock\/sv'.ownBlock=some w.heap.size):Tw p sv fv sv' fv w w':=
 ⟨hg.os,hg.tape,hg.output,hg.size,λk hk _ hs _=>hg.block k hk (λe=>hs e.symm),ho.imp_right λe g hg=>by rw[e]at hg;cases hg;exact Nat.le_refl _,.inl rfl⟩
theorem Tw.growF(hg:w.grownBy w' fv.ownBlock)(ho:fv'.ownBlock=fv.ownBlock\/fv'.ownBlock=some w.heap.size):Tw p sv fv sv fv' w w':=
 ⟨hg.os,hg.tape,hg.output,hg.size,λk hk _ _ hf=>hg.block k hk (λe=>hf e.symm),.inl rfl,ho.imp_right λe g hg=>by rw[e]at hg;cases hg;exact Nat.le_refl _⟩
theorem Tw.below(h:Tw p sv fv sv' fv' w w'){M:Nat}(hp:M<=p)(hs:∀g,sv.ownBlock=some g->M<=g)(hf:∀g,fv.ownBlock=some g->M<=g)(hM:M<=w.heap.size):Below M w w':=
 ⟨h.os,h.tape,h.output,h.size,λk hk=>h.block k (by omega) (by omega) (λe=>by have:=hs k e;omega) (λe=>by have:=hf k e;omega)⟩
theorem LiB.tw{ao:Option Addr}{l:List Int}(h:LiB w p sv fv ao l)(t:Tw p sv fv sv' fv' w w'):LiB w' p sv' fv' ao l:=by
 obtain⟨⟨h1,h2⟩,h3⟩:=h
 by_cases hl:l=[]
 . exact⟨⟨h1,.inl hl⟩,.inl hl⟩
 . obtain⟨b,o,rfl,hc⟩:=h2.resolve_left hl;obtain⟨g1,g2,g3⟩:=h3.resolve_left hl _ rfl
   have hlt:b<w.heap.size:=by
    cases l with
    |nil=>exact absurd rfl hl
    |cons x r=>exact World.block_lt_of_cell? _ _ (hc 0 x rfl)
   refine⟨⟨h1,.inr ⟨b,o,rfl,λi x hx=> ?_⟩⟩,.inr λad e=> ?_⟩
   . exact(World.cell?_of_block (t.block b hlt g1 g2 g3)).trans (hc i x hx)
   . cases e;exact⟨g1,own_no t.s hlt g2,own_no t.f hlt g3⟩
theorem LiB.old{ao:Option Addr}{l:List Int}(h:IntsIn w ao l){M:Nat}(hM:l=[]\/∀ad,ao=some ad->ad.block<M)(hp:M<=p)(hs:∀g,sv.ownBlock=some g->M<=g)(hf:∀g,fv.ownBlock=some g->M<=g):LiB w p sv fv ao l:=
 ⟨h,hM.imp_right λh ad e=>by have:=h ad e;exact⟨by omega,λq=>by have:=hs _ q;omega,λq=>by have:=hf _ q;omega⟩⟩
end
structure Ows (N p:Nat) (et:TypeId) (un:Int) (w:World) (sv fv:Value) (s:Ts):Prop where
 hN:p<N
 hw:N<=w.heap.size
 st:w.ownsRow N 3 1 sv s.st.length (stC un s.st)
 fs:∃L:List (Fr×FA),L.map Prod.fst=s.fs/\w.ownsRow N et 4 fv L.length (frC L)/\∀q∈L,LiB w p sv fv q.2.ga q.1.goes/\LiB w p sv fv q.2.ea q.1.ends
theorem own_ne{w:World}{B B' e e' size size' n n':Nat}{v v':Value}{xs xs':List Value}(h:w.ownsRow B e size v n xs)(h':w.ownsRow B' e' size' v' n' xs')(hne:e≠e'):v.ownBlock=none\/v.ownBlock≠v'.ownBlock:=by
 rcases h.2 with⟨rfl,_⟩ |⟨g,cap,cur,rfl,_,hgg,_⟩
 . exact .inl rfl
 . rcases h'.2 with⟨rfl,_⟩ |⟨g',cap',cur',rfl,_,hgg',_⟩
   . exact .inr (by simp[Value.ownBlock])
   . refine .inr λhe=> ?_;simp only[Value.ownBlock,Option.some.injEq]at he;subst he;rw[hgg]at hgg';simp only[Option.some.injEq,Obj.cells.injEq]at hgg';exact hne hgg'.2.1
theorem own_take{w:World}{base:Nat}{e:TypeId}{size g cap n m:Nat}{xs:List Value}(h:w.ownsRow base e size (.slice (some ⟨g,0,none⟩) n cap) n xs)(hm:m<=n):w.ownsRow base e size (.slice (some ⟨g,0,none⟩) m cap) m (xs.take (m*size)):=by
 have hms:m*size<=n*size:=Nat.mul_le_mul_right _ hm
 rcases h.2 with⟨h',_⟩ |⟨g',cap',cur,h',hb,hg,hnc,hcm,hcs,htake⟩
 . simp at h'
 . simp only[Value.slice.injEq,Option.some.injEq,Addr.mk.injEq,and_true,true_and]at h';obtain⟨rfl,rfl⟩:=h';refine⟨by rw[List.length_take,h.1];omega,.inr ⟨g,cap,cur,rfl,hb,hg,by omega,hcm,hcs,?_⟩⟩;rw[<-htake,List.take_take,Nat.min_eq_left hms]
theorem own_block{w w':World}{base:Nat}{e:TypeId}{size n:Nat}{v:Value}{xs:List Value}(h:w.ownsRow base e size v n xs)(hb:∀g,v.ownBlock=some g->w'.heap[g]? =w.heap[g]?):w'.ownsRow base e size v n xs:=by
 refine⟨h.1,?_⟩
 rcases h.2 with hn |⟨g,cap,cur,rfl,h1,hg,rest⟩
 . exact .inl hn
 . exact .inr ⟨g,cap,cur,rfl,h1,by rw[hb g rfl];exact hg,rest⟩
section
variable {N p:Nat} {et:TypeId} {un:Int} {w w':World} {sv fv sv' fv':Value} {s:Ts}
theorem Ows.ne(h:Ows N p et un w sv fv s)(he:et≠3):(sv.ownBlock=none\/sv.ownBlock≠fv.ownBlock)/\(fv.ownBlock=none\/fv.ownBlock≠sv.ownBlock):=by obtain⟨L,_,h2,_⟩:=h.fs;exact⟨own_ne h.st h2 (λe=>he e.symm),own_ne h2 h.st he⟩
theorem Ows.low(h:Ows N p et un w sv fv s):(∀g,sv.ownBlock=some g->N<=g)/\(∀g,fv.ownBlock=some g->N<=g):=by obtain⟨L,_,h2,_⟩:=h.fs;exact⟨λg hg=>(h.st.lt g hg).1,λg hg=>(h2.lt g hg).1⟩
theorem Ows.below(h:Ows N p et un w sv fv s)(t:Tw p sv fv sv' fv' w w'):Below p w w':=by have hN:=h.hN;obtain⟨h1,h2⟩:=h.low;have hw:=h.hw;exact t.below (Nat.le_refl _) (λg hg=>by have:=h1 g hg;omega) (λg hg=>by have:=h2 g hg;omega) (by omega)
theorem Ows.keep(h:Ows N p et un w sv fv s)(t:Tw p sv fv sv fv w w')(hb:∀g,sv.ownBlock=some g\/fv.ownBlock=some g->w'.heap[g]? =w.heap[g]?):Ows N p et un w' sv fv s:=by obtain⟨L,h1,h2,h3⟩:=h.fs;exact⟨h.hN,Nat.le_trans h.hw t.size,own_block h.st λg hg=>hb g (.inl hg),L,h1,own_block h2 λg hg=>hb g (.inr hg),λq hq=>⟨(h3 q hq).1.tw t,(h3 q hq).2.tw t⟩⟩
theorem Ows.step(h:Ows N p et un w sv fv s)(b:Below w.heap.size w w'):Ows N p et un w' sv fv s:=by
 obtain⟨L,h1,h2,h3⟩:=h.fs;refine h.keep (.of_below b) λg hg=>b.block g ?_
 rcases hg with hg |hg
 . exact(h.st.lt g hg).2
 . exact(h2.lt g hg).2
theorem Ows.setP(h:Ows N p et un w sv fv s)(j:Nat)(u:Value):Ows N p et un (w.setCell ⟨p,j,none⟩ u) sv fv s:=by
 have hN:=h.hN;obtain⟨h1,h2⟩:=h.low;refine h.keep ((Tw.refl p sv fv w).set j u) λg hg=>Below.heap_setCell _ _ _ _ ?_
 rcases hg with hg |hg
 . have:=h1 g hg;show g≠p;omega
 . have:=h2 g hg;show g≠p;omega
theorem Ows.frame(h:Ows N p et un w sv fv s){n:Nat}{f:Fr}(hf:s.fs[n]? =some f):∃g cap,∃fa:FA,fv=.slice (some ⟨g,0,none⟩) s.fs.length cap/\N<=g/\w.cell? ⟨g,(s.fs.length-1-n)*4,none⟩=some (.slice fa.ga f.goes.length fa.gc)/\w.cell? ⟨g,(s.fs.length-1-n)*4+1,none⟩=some (.slice fa.ea f.ends.length fa.ec)/\w.cell? ⟨g,(s.fs.length-1-n)*4+2,none⟩=some (.int .i64 f.h)/\w.cell? ⟨g,(s.fs.length-1-n)*4+3,none⟩=some (.bool f.dead)/\w.frozen? ⟨g,(s.fs.length-1-n)*4+3,none⟩=false/\LiB w p sv fv fa.ga f.goes/\LiB w p sv fv fa.ea f.ends/\s.fs.length<=cap/\cap<=maxLen:=by
 obtain⟨L,h1,h2,h3⟩:=h.fs;have hl:L.length=s.fs.length:=(by rw[<-h1,List.length_map])
 obtain⟨q,hq,rfl⟩:∃q,L[n]? =some q/\q.1=f:=by
  rw[<-h1,List.getElem?_map]at hf;cases hL:L[n]? with
  |none=>rw[hL]at hf;cases hf
  |some q=>rw[hL]at hf;exact⟨q,rfl,by simpa using hf⟩
 have hn:=(List.getElem?_eq_some_iff.1 hq).1
 rcases h2.2 with⟨_,h0⟩ |⟨g,cap,cur,hv,hg,hh,hnc,hcm,_⟩
 . omega
 . subst hv;have ha:∀j,j<4->w.cell? ⟨g,(L.length-1-n)*4+j,none⟩=(frV q)[j]? :=λj hj=>by rw[h2.cellAt _ (by omega)];exact frC_at L n q hq j hj
   have hm:=h3 q (List.mem_of_getElem? hq);rw[<-hl];exact⟨g,cap,q.2,rfl,hg,ha 0 (by omega),ha 1 (by omega),ha 2 (by omega),ha 3 (by omega),h2.frozenAt _,hm.1,hm.2,hnc,hcm⟩
theorem Ows.last(h:Ows N p et un w sv fv s){x:Int}{r:List Int}(hs:s.st=x::r):∃g cap,sv=.slice (some ⟨g,0,none⟩) (r.length+1) cap/\N<=g/\w.cell? ⟨g,r.length,none⟩=some (.int .i64 (jG un x))/\r.length+1<=cap/\cap<=maxLen:=by
 have h2:=h.st;rw[hs,List.length_cons,stC_cons]at h2
 rcases h2.2 with⟨_,h0⟩ |⟨g,cap,cur,hv,hg,hh,hnc,hcm,_⟩
 . omega
 . subst hv;refine⟨g,cap,rfl,hg,?_,hnc,hcm⟩;rw[h2.cellAt _ (by omega),List.getElem?_append_right (by rw[stC_length];exact Nat.le_refl _),stC_length,Nat.sub_self];rfl
theorem Ows.drop(h:Ows N p et un w sv fv s){g n cap m:Nat}(e:sv=.slice (some ⟨g,0,none⟩) n cap)(hm:m<=s.st.length):Ows N p et un w (.slice (some ⟨g,0,none⟩) m cap) fv ⟨s.st.drop (s.st.length-m),s.fs⟩:=by
 subst e;obtain⟨L,h1,h2,h3⟩:=h.fs;have hst:=h.st
 have hn:s.st.length=n:=by
  rcases hst.2 with⟨h',_⟩ |⟨g',cap',cur,h',_⟩
  . simp at h'
  . simp only[Value.slice.injEq]at h';exact h'.2.1.symm
 subst hn;refine⟨h.hN,h.hw,?_,L,h1,h2,λq hq=>h3 q hq⟩;have ht:=own_take hst hm;rw[Nat.mul_one]at ht;have e1:(s.st.drop (s.st.length-m)).length=m:=(by rw[List.length_drop];omega)
 have e2:stC un (s.st.drop (s.st.length-m))=(stC un s.st).take m:=by unfold stC;rw[<-List.map_take,List.take_reverse]
 show w.ownsRow N 3 1 _ (s.st.drop (s.st.length-m)).length (stC un (s.st.drop (s.st.length-m)))
 rw[e1,e2];exact ht
theorem Ows.push(h:Ows N p et un w sv fv s)(he:et≠3){l:List Int}{v':Value}(ho:w'.ownsRow N 3 1 v' (s.st.length+l.length) (stC un s.st++l.map λt=>Value.int .i64 (jG un t)))(hg:w.grownBy w' sv.ownBlock)(hb:v'.ownBlock=sv.ownBlock\/v'.ownBlock=some w.heap.size):Ows N p et un w' v' fv (zN l s)/\Tw p sv fv v' fv w w':=by
 obtain⟨L,h1,h2,h3⟩:=h.fs;have t:Tw p sv fv v' fv w w':=.growS hg hb;refine⟨⟨h.hN,Nat.le_trans h.hw t.size,?_,L,h1,h2.kept hg (h.ne he).2,λq hq=>⟨(h3 q hq).1.tw t,(h3 q hq).2.tw t⟩⟩,t⟩;unfold zN;rw[stC_app,List.length_append,List.length_reverse,Nat.add_comm];exact ho
theorem Ows.leave(h:Ows N p et un w sv fv s){g n cap:Nat}{f:Fr}{r:List Fr}(e:fv=.slice (some ⟨g,0,none⟩) n cap)(hf:s.fs=f::r):Ows N p et un w sv (.slice (some ⟨g,0,none⟩) r.length cap) ⟨s.st,r⟩:=by
 subst e;obtain⟨L,h1,h2,h3⟩:=h.fs;cases L with
 |nil=>rw[hf]at h1;cases h1
 |cons q L=>
   rw[hf,List.map_cons]at h1
   injection h1 with e1 e2
   have hl:L.length=r.length:=(by rw[<-e2,List.length_map])
   have hn:L.length+1=n:=by
    rcases h2.2 with⟨h',_⟩ |⟨g',cap',cur,h',_⟩
    . simp at h'
    . simp only[Value.slice.injEq,List.length_cons]at h';exact h'.2.1.symm
   subst hn;refine⟨h.hN,h.hw,h.st,L,e2,?_,λq hq=>h3 q (List.mem_cons_of_mem _ hq)⟩;have ht:=own_take h2 (m:=L.length) (by simp);rw[frC_cons,List.take_append_of_le_length (by rw[vG];exact Nat.le_refl _),List.take_of_length_le (by rw[vG];exact Nat.le_refl _)]at ht;rw[<-hl];exact ht
theorem Ows.die(h:Ows N p et un w sv fv s)(he:et≠3){g n cap:Nat}{f:Fr}{r:List Fr}(e:fv=.slice (some ⟨g,0,none⟩) n cap)(hf:s.fs=f::r):Ows N p et un (w.setCell ⟨g,r.length*4+3,none⟩ (.bool true)) sv fv ⟨s.st,{f with dead:=true}::r⟩/\Tw p sv fv sv fv w (w.setCell ⟨g,r.length*4+3,none⟩ (.bool true)):=by
 subst e;obtain⟨L,h1,h2,h3⟩:=h.fs;cases L with
 |nil=>rw[hf]at h1;cases h1
 |cons q L=>
   rw[hf,List.map_cons]at h1
   injection h1 with e1 e2
   have hl:L.length=r.length:=(by rw[<-e2,List.length_map])
   have hn:L.length+1=n:=by
    rcases h2.2 with⟨h',_⟩ |⟨g',cap',cur,h',_⟩
    . simp at h'
    . simp only[Value.slice.injEq,List.length_cons]at h';exact h'.2.1.symm
   subst hn;obtain⟨hs1,hs2⟩:=h2.stored (r.length*4+3) (.bool true);have hlt:=(h2.lt g rfl).2;have t:Tw p sv (.slice (some ⟨g,0,none⟩) (L.length+1) cap) sv (.slice (some ⟨g,0,none⟩) (L.length+1) cap) w (w.setCell ⟨g,r.length*4+3,none⟩ (.bool true)):=.growF hs2 (.inl rfl);refine⟨⟨h.hN,Nat.le_trans h.hw t.size,h.st.kept hs2 (h.ne he).1,({q.1 with dead:=true},q.2)::L,by rw[List.map_cons,e2,<-e1],?_,λk hk=> ?_⟩,t⟩
   . have e3:frC (({q.1 with dead:=true},q.2)::L)=(frC (q::L)).set (r.length*4+3) (.bool true):=by
      rw[frC_cons,frC_cons,List.set_append,if_neg (by rw[vG];omega),vG,hl];have:r.length*4+3-r.length*4=3:=(by omega)
      rw[this];rfl
     rw[e3];exact hs1
   . rcases List.mem_cons.1 hk with rfl |hk
     . exact⟨(h3 q List.mem_cons_self).1.tw t,(h3 q List.mem_cons_self).2.tw t⟩
     . exact⟨(h3 k (List.mem_cons_of_mem _ hk)).1.tw t,(h3 k (List.mem_cons_of_mem _ hk)).2.tw t⟩
end
end Go.Proofs.YtacohbllbjgdgaaGreatDoor
namespace Go.Proofs.YtacohbllbjgdgaaGreatDoor
open Go.RowKit
def jS (n:Int):List PanicEntry:=[{v:=.iface 73 (.agg #[.int .i64 n]),recovered:=false}]
theorem zJ(n:Int)(w:World):Calls Tryz.prog 49 #[.bool true,.int .i64 n] w λe w'=>e=.returned (.tuple #[])/\w=w':=by go_enter Tryz.func49,Tryz.ntmps49;go_wp2;go_end0;exact⟨rfl,rfl⟩
theorem qG(n:Int)(w:World):Calls Tryz.prog 49 #[.bool false,.int .i64 n] w λe w'=>e=.panicked (jS n)/\w=w':=by go_enter Tryz.func49,Tryz.ntmps49;go_wp2;exact⟨rfl,rfl,rfl⟩
def endV (ok:Bool) (n:Int):Ending:=if ok=true then .returned (.tuple #[])else .panicked (jS n)
theorem has_any(n m:Int)(w:World):Calls Tryz.prog 51 #[.int .i64 n,.int .i64 m] w λe w'=>e=endV (decide (n<m)) 61/\w=w':=by
 go_enter Tryz.func51,Tryz.ntmps51
 by_cases h:n<m
 . go_wp2_with fail;refine(zJ 61 _).mono ?_;rintro e w' ⟨rfl,rfl⟩;go_wp2;go_end0;exact⟨by rw[decide_eq_true h];rfl,rfl⟩
 . go_wp2_with fail;refine(qG 61 _).mono ?_;rintro e w' ⟨rfl,rfl⟩;go_wp2;exact⟨rfl,by rw[decide_eq_false (show¬n<m by omega)];rfl,rfl⟩
structure TyP (N p:Nat) (cv lv:Value) (w:World) (sv fv:Value) (s:Ts):Prop where
 b:w.heap[p]? =some (.cells #[cv,lv,sv,fv] 99 (0,0))
 o:Ows N p 126 1 w sv fv s
section
variable {N p:Nat} {cv lv:Value} {w w':World} {sv fv sv' fv':Value} {s:Ts}
theorem TyP.c(h:TyP N p cv lv w sv fv s):w.cell? ⟨p,0,none⟩=some cv/\w.cell? ⟨p,1,none⟩=some lv/\w.cell? ⟨p,2,none⟩=some sv/\w.cell? ⟨p,3,none⟩=some fv/\w.frozen? ⟨p,2,none⟩=false/\w.frozen? ⟨p,3,none⟩=false:=
 ⟨by rw[cell_of_row w p 0 _ _ _ h.b];rfl,by rw[cell_of_row w p 1 _ _ _ h.b];rfl,by rw[cell_of_row w p 2 _ _ _ h.b];rfl,by rw[cell_of_row w p 3 _ _ _ h.b];rfl,frozen_of_row w p 2 _ _ h.b,frozen_of_row w p 3 _ _ h.b⟩
theorem TyP.step(h:TyP N p cv lv w sv fv s)(b:Below w.heap.size w w'):TyP N p cv lv w' sv fv s:=⟨by rw[b.block p (lt_of_block h.b)];exact h.b,h.o.step b⟩
end
theorem Ows.top{N p:Nat}{et:TypeId}{un:Int}{w:World}{sv fv:Value}{s:Ts}(h:Ows N p et un w sv fv s){f:Fr}{r:List Fr}(hf:s.fs=f::r):∃g cap,∃fa:FA,fv=.slice (some ⟨g,0,none⟩) (r.length+1) cap/\N<=g/\w.cell? ⟨g,r.length*4,none⟩=some (.slice fa.ga f.goes.length fa.gc)/\w.cell? ⟨g,r.length*4+1,none⟩=some (.slice fa.ea f.ends.length fa.ec)/\w.cell? ⟨g,r.length*4+2,none⟩=some (.int .i64 f.h)/\w.cell? ⟨g,r.length*4+3,none⟩=some (.bool f.dead)/\w.frozen? ⟨g,r.length*4+3,none⟩=false/\LiB w p sv fv fa.ga f.goes/\LiB w p sv fv fa.ea f.ends/\r.length+1<=cap/\cap<=9223372036854775807:=by
 obtain⟨g,cap,fa,h1,h2,h3,h4,h5,h6,h7,h8,h9,h10,h11⟩:=h.frame (n:=0) (f:=f) (by rw[hf];rfl);rw[hf,List.length_cons]at h1 h3 h4 h5 h6 h7 h10;simp only[maxLen]at h11;exact⟨g,cap,fa,h1,h2,h3,h4,h5,h6,h7,h8,h9,h10,by omega⟩
theorem Ows.sl{N p:Nat}{et:TypeId}{un:Int}{w:World}{sv fv:Value}{s:Ts}(h:Ows N p et un w sv fv s):∃a c,sv=.slice a s.st.length c/\s.st.length<=9223372036854775807:=by
 rcases h.st.2 with⟨rfl,h0⟩ |⟨g,cap,cur,rfl,_,_,hn,hm,_⟩
 . exact⟨_,_,by rw[h0],by omega⟩
 . simp only[maxLen]at hm;exact⟨_,_,rfl,by omega⟩
theorem zB{w:World}(n:Nat):Below w.heap.size w (w.drewN n):=⟨rfl,rfl,rfl,Nat.le_refl _,λ_ _=>rfl⟩
theorem top_any{N p:Nat}{cv lv:Value}{w:World}{sv fv:Value}{s:Ts}(h:TyP N p cv lv w sv fv s){f:Fr}{r:List Fr}(hf:s.fs=f::r):Calls Tryz.prog 82 #[.pointer (some ⟨p,0,none⟩)] w λe w'=>(∃g cap,fv=.slice (some ⟨g,0,none⟩) (r.length+1) cap/\e=.returned (.pointer (some ⟨g,r.length*4,none⟩)))/\Below w.heap.size w w':=by
 obtain⟨g,cap,fa,rfl,hg,c0,c1,c2,c3,z3,l1,l2,hn,hm⟩:=h.o.top hf;obtain⟨k0,k1,k2,k3,z2,z3'⟩:=h.c;have e1:IntKind.i64.wrap (((r.length+1:Nat):Int)-1)=(r.length:Int):=(by rw[IntKind.wrap_i64];omega)
 clear hf;go_enter Tryz.func82,Tryz.ntmps82;go_wp2_with fail
 go_quiet (fail)
 go_wp2_with fail;go_ret;exact⟨⟨g,cap,rfl,rfl⟩,zB nq⟩
theorem TyP.setS{N p:Nat}{cv lv:Value}{w:World}{sv fv v':Value}{s s':Ts}(h:TyP N p cv lv w sv fv s)(o:Ows N p 126 1 w v' fv s'):TyP N p cv lv (w.setCell ⟨p,2,none⟩ v') v' fv s':=
 ⟨by rw[heap_setCell_same w p 2 _ _ _ h.b];rfl,o.setP 2 v'⟩
theorem TyP.setF{N p:Nat}{cv lv:Value}{w:World}{sv fv v':Value}{s s':Ts}(h:TyP N p cv lv w sv fv s)(o:Ows N p 126 1 w sv v' s'):TyP N p cv lv (w.setCell ⟨p,3,none⟩ v') sv v' s':=
 ⟨by rw[heap_setCell_same w p 3 _ _ _ h.b];rfl,o.setP 3 v'⟩
theorem TyP.popped{N p:Nat}{cv lv:Value}{w:World}{sv fv:Value}{s:Ts}(h:TyP N p cv lv w sv fv s){g c x:Nat}{t:Int}{q:List Int}(e:sv=.slice (some ⟨g,0,none⟩) x c)(hs:s.st=t::q):TyP N p cv lv (w.setCell ⟨p,2,none⟩ (.slice (some ⟨g,0,none⟩) q.length c)) (.slice (some ⟨g,0,none⟩) q.length c) fv ⟨q,s.fs⟩:=by
 have:=h.o.drop e (m:=q.length) (by rw[hs];simp);rw[hs,show(t::q).length-q.length=1 by simp]at this;exact h.setS this
def Pq (N p:Nat) (cv lv:Value) (w:World) (sv fv:Value) (x:Except Int (Int×Ts)) (e:Ending) (w':World):Prop:=
 match x with
 |.ok q=>e=.returned (.int .i64 (jG 1 q.1))/\∃sv',TyP N p cv lv w' sv' fv q.2/\Tw p sv fv sv' fv w w'
 |.error n=>e=.panicked (jS n)/\∃sv' fv',Tw p sv fv sv' fv' w w'
theorem tPop_nil{t:Int}{s:Ts}{f:Fr}{r:List Fr}(hf:s.fs=f::r)(hl:s.st.length=f.h):zK t s=if f.dead=true then .ok (0,s)else .error 60:=by
 unfold zK;rw[hf]
 dsimp only
 rw[if_pos hl]
theorem tPop_cons{t:Int}{s:Ts}{f:Fr}{r:List Fr}{x:Int}{q:List Int}(hf:s.fs=f::r)(hl:¬s.st.length=f.h)(hs:s.st=x::q):zK t s=if t≠0/\x≠0/\x≠t then .error 60 else .ok (x,⟨q,s.fs⟩):=by
 unfold zK;rw[hf]
 dsimp only
 rw[if_neg hl,hs]
theorem pop_any{N p:Nat}{cv lv:Value}{w:World}{sv fv:Value}{s:Ts}(h:TyP N p cv lv w sv fv s)(hw:Wf s){t t':Int}(ht:(t=0/\t'=2)\/(tyo t/\t'=t)):Calls Tryz.prog 99 #[.pointer (some ⟨p,0,none⟩),.int .i64 t'] w (Pq N p cv lv w sv fv (zK t s)):=by
 obtain⟨f,r,hf,hh⟩:=hw.fs;have hbel:∀w',Below w.heap.size w w'->Below p w w':=λw' b=>h.o.below (.of_below b);generalize hX:zK t s=X;replace hX:=zh hX
 by_cases hl:s.st.length=f.h
 . replace hX:=zh ((tPop_nil hf hl).symm.trans hX.out);obtain⟨sa,sc,hsv,hsl⟩:=h.o.sl;have hlb:(((s.st.length:Nat):Int)==((f.h:Nat):Int))=true:=(by simp[hl])
   go_enter Tryz.func99,Tryz.ntmps99;go_wp2_with fail;refine(top_any h hf).mono ?_;rintro e w1 ⟨⟨g,cap,hfv,rfl⟩,b1⟩;have h1:=h.step b1;obtain⟨g',cap',fa,hfv',hg,c0,c1,c2,c3,z3,l1,l2,hn,hm⟩:=h1.o.top hf;rw[hfv]at hfv';cases hfv';obtain⟨k0,k1,k2,k3,z2,z3'⟩:=h1.c;rw[hsv]at k2;go_wp2_with fail
   go_quiet (fail)
   have h2:=h1.step (zB nq);have b2:Below w.heap.size w (w1.drewN nq):=b1.trans ((zB nq).mono b1.size)
   by_cases hd:f.dead=true
   . replace hX:=hX.out;rw[if_pos hd]at hX;subst hX;rw[hd]at c3;go_wp2_with fail;refine(zJ 60 _).mono ?_;rintro e w' ⟨rfl,rfl⟩;go_wp2;go_ret;exact⟨rfl,sv,h2,.of_below b2⟩
   . replace hX:=hX.out;rw[if_neg hd]at hX;subst hX;rw[Bool.not_eq_true]at hd;rw[hd]at c3;go_wp2_with fail;refine(qG 60 _).mono ?_;rintro e w' ⟨rfl,rfl⟩;go_wp2;exact⟨rfl,rfl,_,_,.of_below b2⟩
 . cases hs:s.st with
   |nil=>rw[hs]at hl hh;simp at hl hh;omega
   |cons x q=>
     replace hX:=zh ((tPop_cons hf hl hs).symm.trans hX.out);obtain⟨sg,sc,hsv,hsg,hlast,hsn,hsm⟩:=h.o.last hs;simp only[maxLen]at hsm;have hx:ok01 x:=hw.st x (by rw[hs];exact List.mem_cons_self);rw[hs,List.length_cons]at hl;have hlb:(((q.length+1:Nat):Int)==((f.h:Nat):Int))=false:=(by simp;omega)
     have e1:IntKind.i64.wrap (((q.length+1:Nat):Int)-1)=(q.length:Int):=(by rw[IntKind.wrap_i64];omega)
     have e2:IntKind.i64.wrap (q.length:Int)=(q.length:Int):=(by rw[IntKind.wrap_i64];omega)
     go_enter Tryz.func99,Tryz.ntmps99;go_wp2_with fail;refine(top_any h hf).mono ?_;rintro e w1 ⟨⟨g,cap,hfv,rfl⟩,b1⟩;have h1:=h.step b1;obtain⟨g',cap',fa,hfv',hg,c0,c1,c2,c3,z3,l1,l2,hn,hm⟩:=h1.o.top hf;rw[hfv]at hfv';cases hfv';obtain⟨k0,k1,k2,k3,z2,z3'⟩:=h1.c;rw[hsv]at k2;go_wp2_with fail
     go_quiet (fail)
     have h2:=h1.step (zB nq);have b2:Below w.heap.size w (w1.drewN nq):=b1.trans ((zB nq).mono b1.size);obtain⟨w2,hw2⟩:∃w2,w2=w1.drewN nq:=⟨_,rfl⟩
     rw[<-hw2]at h2 b2 ⊢;clear hw2 h1 b1 c0 c1 c2 c3 z3 l1 l2 k0 k1 k2 k3 z2 z3' hlast;obtain⟨k0,k1,k2,k3,z2,z3'⟩:=h2.c;rw[hsv]at k2;obtain⟨sg',sc',hsv',_,hlast,_,_⟩:=h2.o.last hs;rw[hsv]at hsv';cases hsv';go_wp2_with fail
     go_quiet (fail)
     have h3:=h2.step (zB nq);have b3:Below w.heap.size w (w2.drewN nq):=b2.trans ((zB nq).mono b2.size);obtain⟨w3,hw3⟩:∃w3,w3=w2.drewN nq:=⟨_,rfl⟩
     rw[<-hw3]at h3 b3 ⊢;clear hw3 h2 b2 k0 k1 k2 k3 z2 z3' hlast;obtain⟨k0,k1,k2,k3,z2,z3'⟩:=h3.c;rw[hsv]at k2;go_wp2_with fail;have i0:(0:Int)<=(q.length:Int):=(by omega)
     have i1:(q.length:Int)<=(sc:Int):=(by omega)
     have i2:q.length<=sc:=(by omega)
     refine wp_region_still_tail 12 (by kernel_rfl) (by kernel_rfl) ?_;simp only[List.take_succ_cons,List.take_zero,List.drop_succ_cons,List.drop_zero]
     repeat still_step
     refine wpStill_nil ?_;change wpList _ _ _ _ _ w3.drew;have h4:=h3.step (w':=w3.drew) (zB 1);have b4:Below w.heap.size w w3.drew:=b3.trans ((zB (w:=w3) 1).mono b3.size);obtain⟨w4,hw4⟩:∃w4,w4=w3.drew:=⟨_,rfl⟩
     rw[<-hw4]at h4 b4 ⊢;clear hw4 h3 b3 k0 k1 k2 k3 z2 z3';obtain⟨k0,k1,k2,k3,z2,z3'⟩:=h4.c;have h5:=h4.popped hsv hs;have t5:=(Tw.of_below (p:=p) (sv:=sv) (fv:=fv) b4).cutS (sv'':=.slice (some ⟨sg,0,none⟩) q.length sc) (by rw[hsv];rfl) |>.set 2 (.slice (some ⟨sg,0,none⟩) q.length sc)
     by_cases hb:t≠0/\x≠0/\x≠t
     . replace hX:=hX.out;rw[if_pos hb]at hX;subst hX;have y1:(jG 1 x==t')=false:=(by unfold jG;unfold ok01 at hx;unfold tyo at ht;simp;split<;>omega)
       have y2:(jG 1 x==1)=false:=(by unfold jG;unfold ok01 at hx;simp;omega)
       have y3:(t'==2)=false:=(by unfold tyo at ht;simp;omega)
       go_wp2_with fail;refine(qG 60 _).mono ?_;rintro e w' ⟨rfl,rfl⟩;go_wp2;subst hsv;subst hfv;exact⟨rfl,rfl,_,_,t5⟩
     . replace hX:=hX.out;rw[if_neg hb]at hX;subst hX
       have y4:(jG 1 x==t')=true\/((jG 1 x==t')=false/\(jG 1 x==1)=true)\/((jG 1 x==t')=false/\(jG 1 x==1)=false/\(t'==2)=true):=by unfold jG;unfold ok01 at hx;unfold tyo at ht;simp;split<;>omega
       rcases y4 with y1 |⟨y1,y2⟩ |⟨y1,y2,y3⟩
       all_goals(
        go_wp2_with fail;refine(zJ 60 _).mono ?_;rintro e w' ⟨rfl,rfl⟩;go_wp2;go_ret;exact⟨rfl,_,h5,t5⟩)
end Go.Proofs.YtacohbllbjgdgaaGreatDoor
