/- A drawn region by an invariant: frames as functions; the last statement comes behind all others. -/
import Derived.Test.YtacohbllbjgdgaaGreatDoorCf
set_option linter.all false
set_option maxRecDepth 100000
set_option maxHeartbeats 4000000
namespace Go.Proofs.YtacohbllbjgdgaaGreatDoor
open Go.RowKit
def Fn (n:Nat) (f:Nat->Value):Act:={tmps:=((List.range n).map f).toArray,defers:=[]}
theorem zH{n:Nat}{f:Nat->Value}{t:Nat}(h:t<n):(Fn n f).tmps[t]?.getD undef=f t:=by simp[Fn,h]
theorem vH{n:Nat}{f:Nat->Value}{t:Nat}(h:t<n):(Fn n f).eval (.tmp t)=f t:=by simp[Act.eval,Fn,h]
theorem zJ{n:Nat}{f:Nat->Value}(d:Nat)(v:Value):({tmps:=(Fn n f).tmps.setIfInBounds d v,defers:=(Fn n f).defers}:Act)=Fn n (upd f d v):=by
 have:(Fn n f).tmps.setIfInBounds d v=(Fn n (upd f d v)).tmps:=by
  apply Array.ext
  . simp[Fn]
  . intro i h1 h2;have hi:i<n:=(by simpa[Fn]using h2)
    rw[Array.getElem_setIfInBounds (by simpa[Fn]using hi)];simp only[Fn,List.getElem_toArray,List.getElem_map,List.getElem_range,upd]
    by_cases h:d=i
    . rw[if_pos h,if_pos h.symm]
    . rw[if_neg h,if_neg (λe=>h e.symm)]
 rw[this];rfl
theorem fn_put{n:Nat}{f:Nat->Value}(d:Nat)(v:Value):(Fn n f).put (some d) v=Fn n (upd f d v):=zJ d v
theorem fn_of(l:List Value):({tmps:=l.toArray,defers:=[]}:Act)=Fn l.length (λk=>l[k]?.getD undef):=by
 have:l.toArray=(Fn l.length (λk=>l[k]?.getD undef)).tmps:=by
  apply Array.ext
  . simp[Fn]
  . intro i h1 h2;have hi:i<l.length:=(by simpa using h1)
    simp[Fn,hi]
 rw[this];rfl
theorem wp_fn{P:Program}{Q:Exit->Act->World->Prop}{c:Code}{w:World}(l:List Value)(n:Nat)(hn:l.length=n)(h:c.wp P Q (Fn n λk=>l[k]?.getD undef) w):c.wp P Q {tmps:=l.toArray,defers:=[]} w:=by subst hn;rw[fn_of];exact h
def over (f0 f:Nat->Value) (lo hi:Nat):Nat->Value:=λt=>if lo<=t/\t<=hi then f t else f0 t
theorem over_eq{f0 f:Nat->Value}{lo hi:Nat}(h:∀t,¬(lo<=t/\t<=hi)->f t=f0 t):f=over f0 f lo hi:=by
 funext t;unfold over;split
 . rfl
 . rename_i h';exact h t h'
theorem all_listed{ops:Array Oper}{listed:Array Bool}(hlow:∀i,i<ops.size->((ops[i]?).map λo=>o.after.all λe=>decide (e.on<i))=some true)(hr:Region.ready .any ops listed=[])(hs:listed.size=ops.size):∀i,i<ops.size->listed.getD i true=true:=by
 intro i
 induction i using Nat.strongRecOn with
 |ind i ih=>
   intro hi;cases hl:listed.getD i true with
   |true=>rfl
   |false=>
     exfalso;have hlow:=hlow i hi;obtain⟨o,ho,hall⟩:=Option.map_eq_some_iff.1 hlow
     have hm:i∈Region.ready .any ops listed:=mem_ready.2 ⟨hl,o,ho,λe he _=>by
      have hlt:e.on<i:=(by simpa using Array.all_eq_true_iff_forall_mem.1 hall e he)
      have:=ih e.on hlt (by omega);rw[Array.getD_eq_getD_getElem?]at this ⊢;rw[Array.getElem?_eq_getElem (by omega)]at this ⊢;exact this⟩
     rw[hr]at hm;cases hm
theorem getD_flip{l:Array Bool}{i:Nat}{c d:Bool}(h:i<l.size):l.getD i c=l.getD i d:=by rw[Array.getD_eq_getD_getElem?,Array.getD_eq_getD_getElem?,Array.getElem?_eq_getElem h];rfl
theorem getD_self{l:Array Bool}{i:Nat}(c:Bool)(h:i<l.size):(l.setIfInBounds i true).getD i c=true:=by rw[Array.getD_eq_getD_getElem?,Array.getElem?_setIfInBounds_self_of_lt h];rfl
def InvJ (n s:Nat) (J:Array Bool->(Nat->Value)->World->Prop) (F:(Nat->Value)->World->Prop) (listed:Array Bool) (a:Act) (w:World):Prop:=
 listed.size=s+1/\((listed.getD s false=false/\∃f,a=Fn n f/\J listed f w)\/((∀i,i<s+1->listed.getD i false=true)/\∃f,a=Fn n f/\F f w))
theorem region_inv{P:Program}{Q:Exit->Act->World->Prop}{id:Nat}{ops:Array Oper}{f0:Nat->Value}{w:World}(hmix:P.follows .mixedOrders=true)(n s:Nat)(hs:ops.size=s+1)(J:Array Bool->(Nat->Value)->World->Prop)(F:(Nat->Value)->World->Prop)(hlow:∀i,i<ops.size->((ops[i]?).map λo=>o.after.all λe=>decide (e.on<i))=some true)(hlast:∀j,j<s->((ops[s]?).map λo=>o.after.any λe=>decide (e.on=j)&&Region.binds .any e)=some true)(start:J (Array.replicate (s+1) false) f0 w.drew)(step:∀i o,i<s->ops[i]? =some o->∀listed f w,listed.size=s+1->listed.getD i false=false->(∀e∈o.after,Region.binds .any e=true->listed.getD e.on false=true)->J listed f w->wpOp P ops Q i (λa' w'=>∃f',a'=Fn n f'/\J (listed.setIfInBounds i true) f' w') (Fn n f) w)(last:∀listed f w,(∀j,j<s->listed.getD j false=true)->J listed f w->wpOp P ops Q s (λa' w'=>∃f',a'=Fn n f'/\F f' w') (Fn n f) w)(fin:∀f w,F f w->Q .normal (Fn n f) w):(Code.region id ops true).wp P Q (Fn n f0) w:=by
 refine wp_region_any hmix ?_;refine wpAny_inv (InvJ n s J F) (λlisted a w' hJ i o ho hl hall=> ?_) (λlisted a w' hJ hr=> ?_) ops.size _ _ _ ?_ ?_
 . obtain⟨hsz,⟨hsl,f,rfl,hj⟩ |⟨hall',_⟩⟩:=hJ
   . have hi:i<s+1:=by
      rcases Nat.lt_or_ge i ops.size with h |h
      . omega
      . rw[Array.getElem?_eq_none h]at ho;cases ho
     by_cases his:i=s
     . subst his
       have hbef:∀j,j<i->listed.getD j false=true:=λj hj=>by
        have:=hlast j hj;rw[ho]at this;simp only[Option.map_some,Option.some.injEq]at this;rw[Array.any_eq_true]at this;obtain⟨k,hk,h⟩:=this;simp only[Bool.and_eq_true,decide_eq_true_eq]at h;have:=hall _ (Array.getElem_mem hk) h.2;rw[h.1]at this;exact this
       refine wpOp_mono (λa' w' h=>⟨by rw[Array.size_setIfInBounds];exact hsz,.inr ⟨λk hk=> ?_,h⟩⟩) (last listed f w' hbef hj)
       by_cases hk':i=k
       . subst hk';exact getD_self _ (by omega)
       . rw[getD_set_ne _ hk'];exact hbef k (by omega)
     . refine wpOp_mono (λa' w' h=>⟨by rw[Array.size_setIfInBounds];exact hsz,.inl ⟨(getD_set_ne false his).trans hsl,h⟩⟩) (step i o (by omega) ho listed f w' hsz (by rw[<-hl];exact getD_flip (by omega)) hall hj)
   . exfalso
     have hi:i<s+1:=by
      rcases Nat.lt_or_ge i ops.size with h |h
      . omega
      . rw[Array.getElem?_eq_none h]at ho;cases ho
     have:=hall' i hi;rw[getD_flip (d:=true) (by omega)]at this;rw[hl]at this;cases this
 . obtain⟨hsz,⟨h22,f',rfl,hj⟩ |⟨_,f',rfl,hf⟩⟩:=hJ
   . exfalso;have:=all_listed hlow hr (by omega) s (by omega);rw[getD_flip (d:=false) (by omega)]at this;rw[h22]at this;cases this
   . exact fin f' w' hf
 . rw[hs];refine⟨by rw[Array.size_replicate],.inl ⟨?_,f0,rfl,start⟩⟩;rw[Array.getD_eq_getD_getElem?,Array.getElem?_replicate];split<;>rfl
 . rw[hs];unfold leftN;rw[Array.toList_replicate];exact Nat.le_trans List.countP_le_length (by simp)
theorem add_cell(h j:Nat):((⟨h,0,none⟩:Addr).add j)=⟨h,j,none⟩:=by unfold Addr.add;split<;>simp_all
def StR (B M:Nat) (v:Value):Nat->Prop:=λb=>B<=b/\b≠M/\some b≠v.ownBlock
def KL (L:Nat) (w w':World):Prop:=KeepsR (λb=>L<=b) (λb=>L<=b) w w'
theorem KL.of_below{L:Nat}{w w':World}(h:Below w.heap.size w w'):KL L w w':=KeepsR.below h
structure Rec (α:Type) where
 enc:α->List Value
 ok:(Nat->Prop)->World->α->Prop
 keep:∀R S w w' t,KeepsR R S w w'->ok R w t->ok S w' t
structure St where
 p:(Nat->Prop)->World->Prop
 keep:∀R S w w',KeepsR R S w w'->p R w->p S w'
 ex:Nat->Prop
 exin:∀R w,p R w->∀b,ex b->R b
structure OwnS {α:Type} (C:Rec α) (S:St) (e size B M:Nat) (w:World) (v:Value) (i:Nat) (ts:List α):Prop where
 own:w.ownsRow (M+1) e size v i (ts.flatMap C.enc)
 oks:∀t∈ts,C.ok (λb=>StR B M v b/\¬S.ex b) w t
 st:S.p (StR B M v) w
 exl:∀b,S.ex b->b<w.heap.size
theorem OwnS.below{α:Type}{C:Rec α}{S:St}{e size B M:Nat}{w w':World}{v:Value}{i:Nat}{ts:List α}(h:OwnS C S e size B M w v i ts)(hb:Below w.heap.size w w'):OwnS C S e size B M w' v i ts:=
 ⟨own_below h.own hb,λt ht=>C.keep _ _ _ _ _ (KeepsR.below hb) (h.oks t ht),S.keep _ _ _ _ (KeepsR.below hb) h.st,λb hx=>Nat.lt_of_lt_of_le (h.exl b hx) hb.size⟩
theorem OwnS.grow{α:Type}{C:Rec α}{S:St}{e size B M L:Nat}{w w':World}{v:Value}{i:Nat}{ts:List α}{t:α}{g cap:Nat}(h:OwnS C S e size B M w v i ts)(hBM:B<=M)(hML:M<L)(hL:(∀k,v.ownBlock=some k->k<L)/\∀k,S.ex k->k<L)(hok:C.ok (λb=>L<=b) w t)(ho:w'.ownsRow (M+1) e size (.slice (some ⟨g,0,none⟩) (i+1) cap) (i+1) (ts.flatMap C.enc++C.enc t))(hgrow:w.grownBy w' v.ownBlock)(hat:v.ownBlock=some g\/g=w.heap.size):OwnS C S e size B M w' (.slice (some ⟨g,0,none⟩) (i+1) cap) (i+1) (ts++[t]):=by
 have hk:KeepsR (StR B M v) (StR B M (.slice (some ⟨g,0,none⟩) (i+1) cap)) w w':=by
  refine⟨λb hr hl=>hgrow.block b hl hr.2.2,λb hr hl=>⟨hr.1,hr.2.1,λe=> ?_⟩⟩;have e:b=g:=Option.some.inj e
  rcases hat with h |h
  . exact hr.2.2 (by rw[h,e])
  . omega
 have hk2:KeepsR (λb=>StR B M v b/\¬S.ex b) (λb=>StR B M (.slice (some ⟨g,0,none⟩) (i+1) cap) b/\¬S.ex b) w w':=⟨λb hr hl=>hk.1 b hr.1 hl,λb hr hl=>⟨hk.2 b hr.1 hl,hr.2⟩⟩
 refine⟨by rw[List.flatMap_append];simpa using ho,λs hs=> ?_,S.keep _ _ _ _ hk h.st,λb hx=>Nat.lt_of_lt_of_le (h.exl b hx) hgrow.size⟩
 rcases List.mem_append.1 hs with h1 |h1
 . exact C.keep _ _ _ _ _ hk2 (h.oks s h1)
 . obtain rfl:=List.mem_singleton.1 h1;exact C.keep _ _ _ _ _ (hk2.imp λk h1 h2=>⟨⟨by omega,by omega,λe=>by have:=hL.1 k e.symm;omega⟩,λe=>by have:=hL.2 k e;omega⟩) hok
theorem kl_grow{L:Nat}{w w':World}{v:Value}(hL:∀k,v.ownBlock=some k->k<L)(hg:w.grownBy w' v.ownBlock):KL L w w':=
 ⟨λb hr hl=>hg.block b hl (λe=>by have:=hL _ e.symm;omega),λb hb _=>hb⟩
structure NBox (M:Nat) (w:World) (vs:Array Value):Prop where
 cells:Box w M vs
 frozen:∀j,w.frozen? ⟨M,j,none⟩=false
 hi:M<w.heap.size
theorem NBox.below{M:Nat}{w w':World}{vs:Array Value}(h:NBox M w vs)(hb:Below w.heap.size w w'):NBox M w' vs:=
 ⟨h.cells.keep (zA hb),λj=>(hb.frozen (p:=⟨M,j,none⟩) h.hi).trans (h.frozen j),Nat.lt_of_lt_of_le h.hi hb.size⟩
theorem NBox.grown{M:Nat}{w w':World}{vs:Array Value}{row:Option Nat}(h:NBox M w vs)(hg:w.grownBy w' row)(hr:∀k,row=some k->k≠M):NBox M w' vs:=by have hM:some M≠row:=λe=>hr M e.symm rfl;refine⟨λj v e=>hg.cell (h.cells j v e) hM,λj=> ?_,Nat.lt_of_lt_of_le h.hi hg.size⟩;rw[World.frozen?_of_block (w:=w) (w':=w') (a:=⟨M,j,none⟩) (hg.block M h.hi hM)];exact h.frozen j
theorem NBox.set{M j:Nat}{w:World}{vs:Array Value}(h:NBox M w vs)(hj:j<vs.size)(v:Value):NBox M (w.setCell ⟨M,j,none⟩ v) (vs.setIfInBounds j v):=by
 refine⟨λk u hu=> ?_,λk=>by rw[World.frozen?_setCell];exact h.frozen k,by simpa[World.setCell]using h.hi⟩
 by_cases hjk:j=k
 . subst hjk;rw[Array.getElem?_setIfInBounds_self_of_lt hj]at hu;cases hu;exact xM (h.cells j vs[j] (by simp[hj]))
 . rw[Array.getElem?_setIfInBounds_ne hjk]at hu;exact zE (h.cells k u hu) (.inr hjk)
structure MR (L:Nat) where
 p:Value->World->Prop
 keep:∀v w w',KL L w w'->p v w->p v w'
def mEq (L:Nat) (u:Value):MR L:=⟨λv _=>v=u,λ_ _ _ _ h=>h⟩
def mNew (L:Nat):MR L:=⟨λv _=>∃h,v=.slice (some ⟨h,0,none⟩) 0 0/\L<=h,λ_ _ _ _ h=>h⟩
def mInts (L:Nat) (l:List Int):MR L:=⟨λv w=>∃a c,v=.slice a l.length c/\IntsR (λb=>L<=b) w a l,λ_ _ _ f ⟨a,c,e,h⟩=>⟨a,c,e,h.keep f⟩⟩
def mIl (L:Nat) (l:Il):MR L:=⟨λv w=>∃a c,v=.slice a l.len c/\SlR (λb=>L<=b) w a l,λ_ _ _ f ⟨a,c,e,h⟩=>⟨a,c,e,h.keep f⟩⟩
def mRec (L:Nat) {α:Type} (C:Rec α) (P:α->Prop):MR L:=⟨λv w=>∃t,v=.agg (C.enc t).toArray/\C.ok (λb=>L<=b) w t/\P t,λ_ w w' f ⟨t,e,h,hp⟩=>⟨t,e,C.keep _ _ _ _ _ f h,hp⟩⟩
def mRow (L:Nat) {α:Type} (C:Rec α) (P:α->Prop):MR L:=
 ⟨λv w=>∃h t,v=.slice (some ⟨h,0,none⟩) 1 1/\L<=h/\(∀j u,(C.enc t)[j]? =some u->w.cell? ⟨h,j,none⟩=some u)/\C.ok (λb=>L<=b) w t/\P t,
  λ_ w w' f ⟨h,t,e,hL,hc,ho,hp⟩=>⟨h,t,e,hL,λj u hj=>f.c _ _ hL (hc j u hj),C.keep _ _ _ _ _ f ho,hp⟩⟩
def mCells (L:Nat) (vs:List Value):MR L:=
 ⟨λv w=>∃h,v=.slice (some ⟨h,0,none⟩) 1 1/\L<=h/\∀j u,vs[j]? =some u->w.cell? ⟨h,j,none⟩=some u,λ_ w w' f ⟨h,e,hL,hc⟩=>⟨h,e,hL,λj u hj=>f.c _ _ hL (hc j u hj)⟩⟩
def mElP (L:Nat) (l:Il):MR L:=
 ⟨λv w=>∃b o,v=.pointer (some ⟨b,o,none⟩)/\L<=b/\IlR (λb=>L<=b) w b o l,λ_ w w' f ⟨b,o,e,hL,h⟩=>⟨b,o,e,hL,IlR.keep f _ _ _ hL h⟩⟩
structure JJ {α:Type} (C:Rec α) (S:St) (e size B M L:Nat) (w1:World) (vs:Array Value) (v0:Value) (i:Nat) (ts:List α) (P:α->Prop) (R:Nat->MR L) (D:Nat->Nat) (lo hi k s:Nat) (f0:Nat->Value) (listed:Array Bool) (f:Nat->Value) (w:World):Prop where
 others:∀t,¬(lo<=t/\t<=hi)->f t=f0 t
 arg:Below B w1 w
 lsz:L<=w.heap.size
 box:NBox M w vs
 own:listed.getD k false=false->OwnS C S e size B M w v0 i ts
 r:∀j,j<s->j≠k->listed.getD j false=true->(R j).p (f (D j)) w
 rk:listed.getD k false=true->∃g cap t,f (D k)=.slice (some ⟨g,0,none⟩) (i+1) cap/\P t/\OwnS C S e size B M w (.slice (some ⟨g,0,none⟩) (i+1) cap) (i+1) (ts++[t])
section
variable {α:Type} {C:Rec α} {S:St} {e size B M L:Nat} {w1:World} {vs:Array Value} {v0:Value} {i:Nat} {ts:List α} {P:α->Prop} {R:Nat->MR L} {D:Nat->Nat} {lo hi k s:Nat} {f0:Nat->Value} {listed:Array Bool} {f:Nat->Value} {w w':World}
theorem JJ.next(hB:B<=L)(h:JJ C S e size B M L w1 vs v0 i ts P R D lo hi k s f0 listed f w)(j:Nat)(hj:j<s)(hjk:j≠k)(hin:lo<=D j/\D j<=hi)(hinj:∀q,q<s->D q=D j->q=j)(hks:k<s)(hb:Below w.heap.size w w'){v:Value}(hv:(R j).p v w'):JJ C S e size B M L w1 vs v0 i ts P R D lo hi k s f0 (listed.setIfInBounds j true) (upd f (D j) v) w':=by
 refine⟨λt ht=> ?_,h.arg.trans (hb.mono (Nat.le_trans hB h.lsz)),Nat.le_trans h.lsz hb.size,h.box.below hb,λhl=> ?_,λq hq hqk hl=> ?_,λhl=> ?_⟩
 . rw[show upd f (D j) v t=f t from if_neg (λe=>ht (by rw[e];exact hin))];exact h.others t ht
 . rw[getD_set_ne false hjk]at hl;exact(h.own hl).below hb
 . by_cases hqj:j=q
   . subst hqj;rw[show upd f (D j) v (D j)=v from if_pos rfl];exact hv
   . rw[show upd f (D j) v (D q)=f (D q) from if_neg (λe=>hqj (hinj q hq e).symm)];exact(R q).keep _ _ _ (KL.of_below hb) (h.r q hq hqk (getD_set_ne2 hqj hl))
 . obtain⟨g,cap,t,e,hp,ho⟩:=h.rk (getD_set_ne2 hjk hl);exact⟨g,cap,t,by rw[show upd f (D j) v (D k)=f (D k) from if_neg (λe=>hjk (hinj k hks e).symm)];exact e,hp,ho.below hb⟩
theorem JJ.nextk(hB:B<=M)(hML:M<L)(hlL:(∀q,v0.ownBlock=some q->q<L)/\∀q,S.ex q->q<L)(h:JJ C S e size B M L w1 vs v0 i ts P R D lo hi k s f0 listed f w)(hin:lo<=D k/\D k<=hi)(hinj:∀q,q<s->D q=D k->q=k)(hks:k<s)(hsz:k<listed.size)(hkl:listed.getD k false=false){g cap:Nat}{t:α}(hp:P t)(hok:C.ok (λb=>L<=b) w t)(ho:w'.ownsRow (M+1) e size (.slice (some ⟨g,0,none⟩) (i+1) cap) (i+1) (ts.flatMap C.enc++C.enc t))(hgrow:w.grownBy w' v0.ownBlock)(hat:v0.ownBlock=some g\/g=w.heap.size):JJ C S e size B M L w1 vs v0 i ts P R D lo hi k s f0 (listed.setIfInBounds k true) (upd f (D k) (.slice (some ⟨g,0,none⟩) (i+1) cap)) w':=by
 have hown:=h.own hkl;refine⟨λt ht=> ?_,h.arg.grown hgrow (by have:=h.lsz;omega) (λq e=>by have:=(hown.own.lt q e).1;omega),Nat.le_trans h.lsz hgrow.size,h.box.grown hgrow (λq e=>by have:=(hown.own.lt q e).1;omega),λhl=> ?_,λq hq hqk hl=> ?_,λhl=> ?_⟩
 . rw[show upd f (D k) _ t=f t from if_neg (λe=>ht (by rw[e];exact hin))];exact h.others t ht
 . rw[getD_self _ hsz]at hl;cases hl
 . rw[show upd f (D k) _ (D q)=f (D q) from if_neg (λe=>hqk (hinj q hq e))];exact(R q).keep _ _ _ (kl_grow hlL.1 hgrow) (h.r q hq hqk (getD_set_ne2 (λe=>hqk e.symm) hl))
 . exact⟨g,cap,t,if_pos rfl,hp,hown.grow hB hML hlL hok ho hgrow hat⟩
theorem JJ.keeps(h:JJ C S e size B M L w1 vs v0 i ts P R D lo hi k s f0 listed f w)(hB:w1.heap.size=B):Keeps w1 w:=zA (by rw[hB];exact h.arg)
end
theorem OwnS.set{α:Type}{C:Rec α}{S:St}{e size B M j:Nat}{w:World}{v u:Value}{i:Nat}{ts:List α}(h:OwnS C S e size B M w v i ts):OwnS C S e size B M (w.setCell ⟨M,j,none⟩ u) v i ts:=by
 have hk:KeepsR (StR B M v) (StR B M v) w (w.setCell ⟨M,j,none⟩ u):=⟨λb hr _=>Below.heap_setCell w ⟨M,j,none⟩ u b hr.2.1,λb hb _=>hb⟩
 have hk2:KeepsR (λb=>StR B M v b/\¬S.ex b) (λb=>StR B M v b/\¬S.ex b) w (w.setCell ⟨M,j,none⟩ u):=⟨λb hr hl=>hk.1 b hr.1 hl,λb hr hl=>⟨hk.2 b hr.1 hl,hr.2⟩⟩
 refine⟨?_,λt ht=>C.keep _ _ _ _ _ hk2 (h.oks t ht),S.keep _ _ _ _ hk h.st,λb hx=>by have:=h.exl b hx;simpa[World.setCell]using this⟩;refine⟨h.own.1,?_⟩
 rcases h.own.2 with hn |⟨g,cap,cur,rfl,hb,hgg,rest⟩
 . exact .inl hn
 . refine .inr ⟨g,cap,cur,rfl,hb,?_,rest⟩;rw[Below.heap_setCell w ⟨M,j,none⟩ u g (by show g≠M;omega)];exact hgg
end Go.Proofs.YtacohbllbjgdgaaGreatDoor
namespace Go.Proofs.YtacohbllbjgdgaaGreatDoor
open Go.RowKit
structure typCT where
 p:List Int
 pa:Option Addr
 pc:Nat
 r:List Int
 ra:Option Addr
 rc:Nat
def typC:Rec typCT where
 enc t:=[.slice t.pa t.p.length t.pc,.slice t.ra t.r.length t.rc]
 ok R w t:=IntsR R w t.pa t.p/\IntsR R w t.ra t.r
 keep R S w w' t f h:=⟨h.1.keep f,h.2.keep f⟩
theorem typC_one(t:typCT):∀u∈typC.enc t,u.oneCell'=true:=by
 intro u hu;simp only[typC,List.mem_cons,List.mem_nil_iff,or_false]at hu
 rcases hu with rfl |rfl<;>rfl
theorem info47:(Tryz.prog.info? 44).map (λi=>(i.zero,i.size,i.bytes))=some (some (.agg #[.slice none 0 0,.slice none 0 0]),2,48):=by kernel_rfl
def ops5:Array Oper:= #[⟨some 38,.fieldAddr 32 (.tmp 3) 0,0,"ref.go:375", #[],none⟩,⟨some 39,.load 22 (.tmp 38),22,"ref.go:375", #[⟨0,.data⟩],none⟩,⟨some 40,.buildSlice 28 0 #[],28,"ref.go:375", #[],none⟩,⟨some 41,.fieldAddr 32 (.tmp 1) 0,0,"ref.go:375", #[],none⟩,⟨some 42,.load 22 (.tmp 41),22,"ref.go:375", #[⟨3,.data⟩],none⟩,⟨some 43,.move (.tmp 4),3,"ref.go:375", #[],none⟩,⟨some 44,.indexAddr 22 (.tmp 42) (.tmp 43),0,"ref.go:375", #[⟨4,.data⟩,⟨5,.data⟩],none⟩,⟨some 45,.fieldAddr 44 (.tmp 44) 0,0,"ref.go:375", #[⟨6,.data⟩],none⟩,⟨some 46,.load 28 (.tmp 45),28,"ref.go:375", #[⟨7,.data⟩],none⟩,⟨some 47,.call ⟨.builtin .append, #[.tmp 40,.tmp 46], #[28,28]⟩,28,"ref.go:375", #[⟨2,.data⟩,⟨8,.data⟩],none⟩,⟨some 48,.buildSlice 28 0 #[],28,"ref.go:375", #[],none⟩,⟨some 49,.fieldAddr 32 (.tmp 1) 0,0,"ref.go:375", #[],none⟩,⟨some 50,.load 22 (.tmp 49),22,"ref.go:375", #[⟨11,.data⟩],none⟩,⟨some 51,.move (.tmp 4),3,"ref.go:375", #[],none⟩,⟨some 52,.indexAddr 22 (.tmp 50) (.tmp 51),0,"ref.go:375", #[⟨12,.data⟩,⟨13,.data⟩],none⟩,⟨some 53,.fieldAddr 44 (.tmp 52) 1,0,"ref.go:375", #[⟨14,.data⟩],none⟩,⟨some 54,.load 28 (.tmp 53),28,"ref.go:375", #[⟨15,.data⟩],none⟩,⟨some 55,.call ⟨.builtin .append, #[.tmp 48,.tmp 54], #[28,28]⟩,28,"ref.go:375", #[⟨10,.data⟩,⟨16,.data⟩,⟨9,.chain⟩],none⟩,⟨some 56,.build 44 #[(0,.tmp 47),(1,.tmp 55)],44,"ref.go:375", #[⟨9,.data⟩,⟨17,.data⟩],none⟩,⟨some 57,.buildSlice 22 1 #[(0,.tmp 56)],22,"ref.go:375", #[⟨18,.data⟩],none⟩,⟨some 58,.call ⟨.builtin .append, #[.tmp 39,.tmp 57], #[22,22]⟩,22,"ref.go:375", #[⟨1,.data⟩,⟨19,.data⟩,⟨17,.chain⟩],none⟩,⟨some 59,.fieldAddr 32 (.tmp 3) 0,0,"ref.go:375", #[⟨0,.phase⟩,⟨1,.phase⟩,⟨2,.phase⟩,⟨3,.phase⟩,⟨4,.phase⟩,⟨5,.phase⟩,⟨6,.phase⟩,⟨7,.phase⟩,⟨8,.phase⟩,⟨9,.phase⟩,⟨10,.phase⟩,⟨11,.phase⟩,⟨12,.phase⟩,⟨13,.phase⟩,⟨14,.phase⟩,⟨15,.phase⟩,⟨16,.phase⟩,⟨17,.phase⟩,⟨18,.phase⟩,⟨19,.phase⟩,⟨20,.phase⟩],none⟩,⟨none,.store 22 (.tmp 59) (.tmp 58),0,"ref.go:375", #[⟨21,.data⟩,⟨20,.data⟩,⟨20,.chain⟩,⟨0,.phase⟩,⟨1,.phase⟩,⟨2,.phase⟩,⟨3,.phase⟩,⟨4,.phase⟩,⟨5,.phase⟩,⟨6,.phase⟩,⟨7,.phase⟩,⟨8,.phase⟩,⟨9,.phase⟩,⟨10,.phase⟩,⟨11,.phase⟩,⟨12,.phase⟩,⟨13,.phase⟩,⟨14,.phase⟩,⟨15,.phase⟩,⟨16,.phase⟩,⟨17,.phase⟩,⟨18,.phase⟩,⟨19,.phase⟩,⟨20,.phase⟩],none⟩]
def D5 (j:Nat):Nat:=38+j
theorem yM:∀j,j<22->38<=D5 j/\D5 j<=59:=by intro j hj;unfold D5;omega
theorem xX{j q:Nat}(h:D5 q=D5 j):q=j:=by unfold D5 at h;omega
theorem low5:∀i,i<ops5.size->((ops5[i]?).map λo=>o.after.all λe=>decide (e.on<i))=some true:=by
 have h:∀i:Fin 23,((ops5[i.val]?).map λo=>o.after.all λe=>decide (e.on<i.val))=some true:=(by decide+kernel)
 exactλi hi=>h ⟨i,hi⟩
theorem last5:∀j,j<22->((ops5[22]?).map λo=>o.after.any λe=>decide (e.on=j)&&Region.binds .any e)=some true:=by
 have h:∀j:Fin 22,((ops5[22]?).map λo=>o.after.any λe=>decide (e.on=j.val)&&Region.binds .any e)=some true:=(by decide+kernel)
 exactλi hi=>h ⟨i,hi⟩
def R5 (L:Nat) (M H b o N k0 i:Nat) (v0:Value) (ps:List Int) (pa:Option Addr) (pc:Nat) (rs:List Int) (ra:Option Addr) (rc:Nat):Nat->MR L
 |0=>mEq L (.pointer (some ⟨M,0,none⟩))
 |1=>mEq L (v0)
 |2=>mNew L
 |3=>mEq L (.pointer (some ⟨H,0,none⟩))
 |4=>mEq L (.slice (some ⟨b,o,none⟩) N k0)
 |5=>mEq L (.int .i64 (i:Int))
 |6=>mEq L (.pointer (some ⟨b,o+i*2,none⟩))
 |7=>mEq L (.pointer (some ⟨b,o+i*2,none⟩))
 |8=>mEq L (.slice pa ps.length pc)
 |9=>mInts L (ps)
 |10=>mNew L
 |11=>mEq L (.pointer (some ⟨H,0,none⟩))
 |12=>mEq L (.slice (some ⟨b,o,none⟩) N k0)
 |13=>mEq L (.int .i64 (i:Int))
 |14=>mEq L (.pointer (some ⟨b,o+i*2,none⟩))
 |15=>mEq L (.pointer (some ⟨b,o+i*2+1,none⟩))
 |16=>mEq L (.slice ra rs.length rc)
 |17=>mInts L (rs)
 |18=>mRec L typC (λt=>(t.p,t.r)=(ps,rs))
 |19=>mRow L typC (λt=>(t.p,t.r)=(ps,rs))
 |20=>mEq L undef
 |21=>mEq L (.pointer (some ⟨M,0,none⟩))
 |_=>mEq L undef
theorem reg5{Q:Exit->Act->World->Prop}{f0:Nat->Value}{w1 V:World}(S:St){B M:Nat}{vs:Array Value}{v0:Value}{i:Nat}{ts:List typCT}{H b o N k0:Nat}{ps:List Int}{pa:Option Addr}{pc:Nat}{rs:List Int}{ra:Option Addr}{rc:Nat}(hmix:Tryz.prog.follows .mixedOrders=true)(hB:w1.heap.size=B)(hBM:B<=M)(arg:Below B w1 V)(box:NBox M V vs)(hvs:vs[0]? =some v0)(own:OwnS typC S 44 2 B M V v0 i ts)(f1:f0 1=.pointer (some ⟨H,0,none⟩))(f3:f0 3=.pointer (some ⟨M,0,none⟩))(fi:f0 4=.int .i64 (i:Int))(c0:w1.cell? ⟨H,0,none⟩=some (.slice (some ⟨b,o,none⟩) N k0))(hiN:i<N)(hN:N<=5000)(cp:w1.cell? ⟨b,o+i*2,none⟩=some (.slice pa ps.length pc))(ip:IntsIn w1 pa ps)(cr:w1.cell? ⟨b,o+i*2+1,none⟩=some (.slice ra rs.length rc))(ir:IntsIn w1 ra rs)(hps:ps.length<=40000)(hrs:rs.length<=40000)(fin:∀f w g cap t,(λt=>(t.p,t.r)=(ps,rs)) t->Below B w1 w->NBox M w (vs.setIfInBounds 0 (.slice (some ⟨g,0,none⟩) (i+1) cap))->OwnS typC S 44 2 B M w (.slice (some ⟨g,0,none⟩) (i+1) cap) (i+1) (ts++[t])->Q .normal (Fn 180 (over f0 f 38 59)) w):(Code.region 5 ops5 true).wp Tryz.prog Q (Fn 180 f0) V:=by
 have hBL:B<=V.heap.size:=(by rw[<-hB];exact arg.size)
 have hML:M<V.heap.size:=box.hi;have hoL:(∀q,v0.ownBlock=some q->q<V.heap.size)/\∀q,S.ex q->q<V.heap.size:=⟨λq e=>(own.own.lt q e).2,own.exl⟩
 refine region_inv hmix 180 22 rfl (λlisted f w=>JJ typC S 44 2 B M V.heap.size w1 vs v0 i ts (λt=>(t.p,t.r)=(ps,rs)) (R5 V.heap.size M H b o N k0 i v0 ps pa pc rs ra rc) D5 38 59 20 22 f0 listed f w)
  (λf w=>(∀t,¬(38<=t/\t<=59)->f t=f0 t)/\∃g cap t,(λt=>(t.p,t.r)=(ps,rs)) t/\Below B w1 w/\NBox M w (vs.setIfInBounds 0 (.slice (some ⟨g,0,none⟩) (i+1) cap))/\OwnS typC S 44 2 B M w (.slice (some ⟨g,0,none⟩) (i+1) cap) (i+1) (ts++[t])) low5 last5 ?_ ?_ ?_ ?_
 . refine⟨λ_ _=>rfl,arg.drew,Nat.le_refl _,box.below (Below.refl _ _).drew,λ_=>own.below (Below.refl _ _).drew,λj hj hjk hl=> ?_,λhl=> ?_⟩
   all_goals
    rw[Array.getD_eq_getD_getElem?,Array.getElem?_replicate]at hl;split at hl<;>cases hl
 . intro i' o hi ho listed f w hsz hl hall hJ;have f1:f 1=_:=(hJ.others 1 (by decide)).trans f1;have f3:f 3=_:=(hJ.others 3 (by decide)).trans f3;have fi:f 4=_:=(hJ.others 4 (by decide)).trans fi;have kw:=hJ.keeps hB;have g1:=(zH (n:=180) (f:=f) (t:=1) (by decide)).trans f1;have g3:=(zH (n:=180) (f:=f) (t:=3) (by decide)).trans f3;have gi:=(zH (n:=180) (f:=f) (t:=4) (by decide)).trans fi
   match i',ho with
   |0,ho=>obtain rfl:o=⟨some 38,.fieldAddr 32 (.tmp 3) 0,0,"ref.go:375", #[],none⟩:=Option.some.inj (ho.symm.trans rfl);refine wpOp_step (o:=⟨some 38,.fieldAddr 32 (.tmp 3) 0,0,_,_,none⟩) rfl ?_;intro K' hK';rw[if_pos (by rfl)];go_simp;(try simp only[g3]);(try go_simp);exact hK' _ _ ⟨_,zJ _ _,hJ.next hBL 0 (by decide) (by decide) (yM 0 (by decide)) (λq _ h=>xX h) (by decide) (Below.refl _ _) (rfl)⟩
   |1,ho=>obtain rfl:o=⟨some 39,.load 22 (.tmp 38),22,"ref.go:375", #[⟨0,.data⟩],none⟩:=Option.some.inj (ho.symm.trans rfl);refine wpOp_step (o:=⟨some 39,.load 22 (.tmp 38),22,_,_,none⟩) rfl ?_;intro K' hK';have l0:listed.getD 0 false=true:=hall ⟨0,.data⟩ (by simp) rfl;have e0:f 38=.pointer (some ⟨M,0,none⟩):=hJ.r 0 (by decide) (by decide) l0;have g0:=(zH (n:=180) (f:=f) (t:=38) (by decide)).trans e0;have hc:=hJ.box.cells 0 _ hvs;rw[if_pos (by rfl)];go_simp;(try simp only[g0]);(try go_simp);exact hK' _ _ ⟨_,zJ _ _,hJ.next hBL 1 (by decide) (by decide) (yM 1 (by decide)) (λq _ h=>xX h) (by decide) (Below.refl _ _) (rfl)⟩
   |2,ho=>obtain rfl:o=⟨some 40,.buildSlice 28 0 #[],28,"ref.go:375", #[],none⟩:=Option.some.inj (ho.symm.trans rfl);refine wpOp_step (o:=⟨some 40,.buildSlice 28 0 #[],28,_,_,none⟩) rfl ?_;intro K' hK';rw[if_pos (by rfl)];go_simp;exact hK' _ _ ⟨_,zJ _ _,hJ.next hBL 2 (by decide) (by decide) (yM 2 (by decide)) (λq _ h=>xX h) (by decide) ((Below.refl _ _).alloc (Nat.le_refl _) _) (⟨_,rfl,hJ.lsz⟩)⟩
   |3,ho=>obtain rfl:o=⟨some 41,.fieldAddr 32 (.tmp 1) 0,0,"ref.go:375", #[],none⟩:=Option.some.inj (ho.symm.trans rfl);refine wpOp_step (o:=⟨some 41,.fieldAddr 32 (.tmp 1) 0,0,_,_,none⟩) rfl ?_;intro K' hK';rw[if_pos (by rfl)];go_simp;(try simp only[g1]);(try go_simp);exact hK' _ _ ⟨_,zJ _ _,hJ.next hBL 3 (by decide) (by decide) (yM 3 (by decide)) (λq _ h=>xX h) (by decide) (Below.refl _ _) (rfl)⟩
   |4,ho=>obtain rfl:o=⟨some 42,.load 22 (.tmp 41),22,"ref.go:375", #[⟨3,.data⟩],none⟩:=Option.some.inj (ho.symm.trans rfl);refine wpOp_step (o:=⟨some 42,.load 22 (.tmp 41),22,_,_,none⟩) rfl ?_;intro K' hK';have l3:listed.getD 3 false=true:=hall ⟨3,.data⟩ (by simp) rfl;have e3:f 41=.pointer (some ⟨H,0,none⟩):=hJ.r 3 (by decide) (by decide) l3;have g3:=(zH (n:=180) (f:=f) (t:=41) (by decide)).trans e3;have hc:=kw _ _ c0;rw[if_pos (by rfl)];go_simp;(try simp only[g3]);(try go_simp);exact hK' _ _ ⟨_,zJ _ _,hJ.next hBL 4 (by decide) (by decide) (yM 4 (by decide)) (λq _ h=>xX h) (by decide) (Below.refl _ _) (rfl)⟩
   |5,ho=>obtain rfl:o=⟨some 43,.move (.tmp 4),3,"ref.go:375", #[],none⟩:=Option.some.inj (ho.symm.trans rfl);refine wpOp_step (o:=⟨some 43,.move (.tmp 4),3,_,_,none⟩) rfl ?_;intro K' hK';rw[if_pos (by rfl)];go_simp;(try simp only[gi]);(try go_simp);exact hK' _ _ ⟨_,zJ _ _,hJ.next hBL 5 (by decide) (by decide) (yM 5 (by decide)) (λq _ h=>xX h) (by decide) (Below.refl _ _) (rfl)⟩
   |6,ho=>obtain rfl:o=⟨some 44,.indexAddr 22 (.tmp 42) (.tmp 43),0,"ref.go:375", #[⟨4,.data⟩,⟨5,.data⟩],none⟩:=Option.some.inj (ho.symm.trans rfl);refine wpOp_step (o:=⟨some 44,.indexAddr 22 (.tmp 42) (.tmp 43),0,_,_,none⟩) rfl ?_;intro K' hK';have l4:listed.getD 4 false=true:=hall ⟨4,.data⟩ (by simp) rfl;have e4:f 42=.slice (some ⟨b,o,none⟩) N k0:=hJ.r 4 (by decide) (by decide) l4;have l5:listed.getD 5 false=true:=hall ⟨5,.data⟩ (by simp) rfl;have e5:f 43=.int .i64 (i:Int):=hJ.r 5 (by decide) (by decide) l5;have g4:=(zH (n:=180) (f:=f) (t:=42) (by decide)).trans e4;have g5:=(zH (n:=180) (f:=f) (t:=43) (by decide)).trans e5;rw[if_pos (by rfl)];go_simp;(try simp only[g4,g5]);(try go_simp);exact hK' _ _ ⟨_,zJ _ _,hJ.next hBL 6 (by decide) (by decide) (yM 6 (by decide)) (λq _ h=>xX h) (by decide) (Below.refl _ _) (rfl)⟩
   |7,ho=>obtain rfl:o=⟨some 45,.fieldAddr 44 (.tmp 44) 0,0,"ref.go:375", #[⟨6,.data⟩],none⟩:=Option.some.inj (ho.symm.trans rfl);refine wpOp_step (o:=⟨some 45,.fieldAddr 44 (.tmp 44) 0,0,_,_,none⟩) rfl ?_;intro K' hK';have l6:listed.getD 6 false=true:=hall ⟨6,.data⟩ (by simp) rfl;have e6:f 44=.pointer (some ⟨b,o+i*2,none⟩):=hJ.r 6 (by decide) (by decide) l6;have g6:=(zH (n:=180) (f:=f) (t:=44) (by decide)).trans e6;rw[if_pos (by rfl)];go_simp;(try simp only[g6]);(try go_simp);exact hK' _ _ ⟨_,zJ _ _,hJ.next hBL 7 (by decide) (by decide) (yM 7 (by decide)) (λq _ h=>xX h) (by decide) (Below.refl _ _) (rfl)⟩
   |8,ho=>obtain rfl:o=⟨some 46,.load 28 (.tmp 45),28,"ref.go:375", #[⟨7,.data⟩],none⟩:=Option.some.inj (ho.symm.trans rfl);refine wpOp_step (o:=⟨some 46,.load 28 (.tmp 45),28,_,_,none⟩) rfl ?_;intro K' hK';have l7:listed.getD 7 false=true:=hall ⟨7,.data⟩ (by simp) rfl;have e7:f 45=.pointer (some ⟨b,o+i*2,none⟩):=hJ.r 7 (by decide) (by decide) l7;have g7:=(zH (n:=180) (f:=f) (t:=45) (by decide)).trans e7;have hc:=kw _ _ cp;rw[if_pos (by rfl)];go_simp;(try simp only[g7]);(try go_simp);exact hK' _ _ ⟨_,zJ _ _,hJ.next hBL 8 (by decide) (by decide) (yM 8 (by decide)) (λq _ h=>xX h) (by decide) (Below.refl _ _) (rfl)⟩
   |9,ho=>obtain rfl:o=⟨some 47,.call ⟨.builtin .append, #[.tmp 40,.tmp 46], #[28,28]⟩,28,"ref.go:375", #[⟨2,.data⟩,⟨8,.data⟩],none⟩:=Option.some.inj (ho.symm.trans rfl);refine wpOp_step (o:=⟨some 47,.call ⟨.builtin .append, #[.tmp 40,.tmp 46], #[28,28]⟩,28,_,_,none⟩) rfl ?_;intro K' hK';have l2:listed.getD 2 false=true:=hall ⟨2,.data⟩ (by simp) rfl;have e2:∃h,f 40=.slice (some ⟨h,0,none⟩) 0 0/\V.heap.size<=h:=hJ.r 2 (by decide) (by decide) l2;have l8:listed.getD 8 false=true:=hall ⟨8,.data⟩ (by simp) rfl;have e8:f 46=.slice pa ps.length pc:=hJ.r 8 (by decide) (by decide) l8;obtain⟨h0,en,hL⟩:=e2;obtain⟨i3,hi3,hz3,hs3,hb3⟩:=info_parts info3;refine jP _ rfl _ _ _ rfl 3 i3 _ 1 8 Tryz.underlying28 hi3 hz3 hs3 hb3 h0 _ (ps).length (qY (ps)) (by rw[vH (by decide)];exact en) (by rw[vH (by decide)];exact e8) (src_ints (ip.keep kw)) (by omega) (by omega) ?_;intro v w' hn hb;obtain⟨a,c,rfl,hi'⟩:=ints_newrow hn (by omega);exact hK' _ _ ⟨_,fn_put _ _,hJ.next hBL 9 (by decide) (by decide) (yM 9 (by decide)) (λq _ h=>xX h) (by decide) hb ⟨a,c,rfl,hi'.keep ⟨λ_ _ _=>rfl,λb hb _=>Nat.le_trans (Nat.le_min.2 ⟨hL,hJ.lsz⟩) hb⟩⟩⟩
   |10,ho=>obtain rfl:o=⟨some 48,.buildSlice 28 0 #[],28,"ref.go:375", #[],none⟩:=Option.some.inj (ho.symm.trans rfl);refine wpOp_step (o:=⟨some 48,.buildSlice 28 0 #[],28,_,_,none⟩) rfl ?_;intro K' hK';rw[if_pos (by rfl)];go_simp;exact hK' _ _ ⟨_,zJ _ _,hJ.next hBL 10 (by decide) (by decide) (yM 10 (by decide)) (λq _ h=>xX h) (by decide) ((Below.refl _ _).alloc (Nat.le_refl _) _) (⟨_,rfl,hJ.lsz⟩)⟩
   |11,ho=>obtain rfl:o=⟨some 49,.fieldAddr 32 (.tmp 1) 0,0,"ref.go:375", #[],none⟩:=Option.some.inj (ho.symm.trans rfl);refine wpOp_step (o:=⟨some 49,.fieldAddr 32 (.tmp 1) 0,0,_,_,none⟩) rfl ?_;intro K' hK';rw[if_pos (by rfl)];go_simp;(try simp only[g1]);(try go_simp);exact hK' _ _ ⟨_,zJ _ _,hJ.next hBL 11 (by decide) (by decide) (yM 11 (by decide)) (λq _ h=>xX h) (by decide) (Below.refl _ _) (rfl)⟩
   |12,ho=>obtain rfl:o=⟨some 50,.load 22 (.tmp 49),22,"ref.go:375", #[⟨11,.data⟩],none⟩:=Option.some.inj (ho.symm.trans rfl);refine wpOp_step (o:=⟨some 50,.load 22 (.tmp 49),22,_,_,none⟩) rfl ?_;intro K' hK';have l11:listed.getD 11 false=true:=hall ⟨11,.data⟩ (by simp) rfl;have e11:f 49=.pointer (some ⟨H,0,none⟩):=hJ.r 11 (by decide) (by decide) l11;have g11:=(zH (n:=180) (f:=f) (t:=49) (by decide)).trans e11;have hc:=kw _ _ c0;rw[if_pos (by rfl)];go_simp;(try simp only[g11]);(try go_simp);exact hK' _ _ ⟨_,zJ _ _,hJ.next hBL 12 (by decide) (by decide) (yM 12 (by decide)) (λq _ h=>xX h) (by decide) (Below.refl _ _) (rfl)⟩
   |13,ho=>obtain rfl:o=⟨some 51,.move (.tmp 4),3,"ref.go:375", #[],none⟩:=Option.some.inj (ho.symm.trans rfl);refine wpOp_step (o:=⟨some 51,.move (.tmp 4),3,_,_,none⟩) rfl ?_;intro K' hK';rw[if_pos (by rfl)];go_simp;(try simp only[gi]);(try go_simp);exact hK' _ _ ⟨_,zJ _ _,hJ.next hBL 13 (by decide) (by decide) (yM 13 (by decide)) (λq _ h=>xX h) (by decide) (Below.refl _ _) (rfl)⟩
   |14,ho=>obtain rfl:o=⟨some 52,.indexAddr 22 (.tmp 50) (.tmp 51),0,"ref.go:375", #[⟨12,.data⟩,⟨13,.data⟩],none⟩:=Option.some.inj (ho.symm.trans rfl);refine wpOp_step (o:=⟨some 52,.indexAddr 22 (.tmp 50) (.tmp 51),0,_,_,none⟩) rfl ?_;intro K' hK';have l12:listed.getD 12 false=true:=hall ⟨12,.data⟩ (by simp) rfl;have e12:f 50=.slice (some ⟨b,o,none⟩) N k0:=hJ.r 12 (by decide) (by decide) l12;have l13:listed.getD 13 false=true:=hall ⟨13,.data⟩ (by simp) rfl;have e13:f 51=.int .i64 (i:Int):=hJ.r 13 (by decide) (by decide) l13;have g12:=(zH (n:=180) (f:=f) (t:=50) (by decide)).trans e12;have g13:=(zH (n:=180) (f:=f) (t:=51) (by decide)).trans e13;rw[if_pos (by rfl)];go_simp;(try simp only[g12,g13]);(try go_simp);exact hK' _ _ ⟨_,zJ _ _,hJ.next hBL 14 (by decide) (by decide) (yM 14 (by decide)) (λq _ h=>xX h) (by decide) (Below.refl _ _) (rfl)⟩
   |15,ho=>obtain rfl:o=⟨some 53,.fieldAddr 44 (.tmp 52) 1,0,"ref.go:375", #[⟨14,.data⟩],none⟩:=Option.some.inj (ho.symm.trans rfl);refine wpOp_step (o:=⟨some 53,.fieldAddr 44 (.tmp 52) 1,0,_,_,none⟩) rfl ?_;intro K' hK';have l14:listed.getD 14 false=true:=hall ⟨14,.data⟩ (by simp) rfl;have e14:f 52=.pointer (some ⟨b,o+i*2,none⟩):=hJ.r 14 (by decide) (by decide) l14;have g14:=(zH (n:=180) (f:=f) (t:=52) (by decide)).trans e14;rw[if_pos (by rfl)];go_simp;(try simp only[g14]);(try go_simp);exact hK' _ _ ⟨_,zJ _ _,hJ.next hBL 15 (by decide) (by decide) (yM 15 (by decide)) (λq _ h=>xX h) (by decide) (Below.refl _ _) (rfl)⟩
   |16,ho=>obtain rfl:o=⟨some 54,.load 28 (.tmp 53),28,"ref.go:375", #[⟨15,.data⟩],none⟩:=Option.some.inj (ho.symm.trans rfl);refine wpOp_step (o:=⟨some 54,.load 28 (.tmp 53),28,_,_,none⟩) rfl ?_;intro K' hK';have l15:listed.getD 15 false=true:=hall ⟨15,.data⟩ (by simp) rfl;have e15:f 53=.pointer (some ⟨b,o+i*2+1,none⟩):=hJ.r 15 (by decide) (by decide) l15;have g15:=(zH (n:=180) (f:=f) (t:=53) (by decide)).trans e15;have hc:=kw _ _ cr;rw[if_pos (by rfl)];go_simp;(try simp only[g15]);(try go_simp);exact hK' _ _ ⟨_,zJ _ _,hJ.next hBL 16 (by decide) (by decide) (yM 16 (by decide)) (λq _ h=>xX h) (by decide) (Below.refl _ _) (rfl)⟩
   |17,ho=>obtain rfl:o=⟨some 55,.call ⟨.builtin .append, #[.tmp 48,.tmp 54], #[28,28]⟩,28,"ref.go:375", #[⟨10,.data⟩,⟨16,.data⟩,⟨9,.chain⟩],none⟩:=Option.some.inj (ho.symm.trans rfl);refine wpOp_step (o:=⟨some 55,.call ⟨.builtin .append, #[.tmp 48,.tmp 54], #[28,28]⟩,28,_,_,none⟩) rfl ?_;intro K' hK';have l10:listed.getD 10 false=true:=hall ⟨10,.data⟩ (by simp) rfl;have e10:∃h,f 48=.slice (some ⟨h,0,none⟩) 0 0/\V.heap.size<=h:=hJ.r 10 (by decide) (by decide) l10;have l16:listed.getD 16 false=true:=hall ⟨16,.data⟩ (by simp) rfl;have e16:f 54=.slice ra rs.length rc:=hJ.r 16 (by decide) (by decide) l16;obtain⟨h0,en,hL⟩:=e10;obtain⟨i3,hi3,hz3,hs3,hb3⟩:=info_parts info3;refine jP _ rfl _ _ _ rfl 3 i3 _ 1 8 Tryz.underlying28 hi3 hz3 hs3 hb3 h0 _ (rs).length (qY (rs)) (by rw[vH (by decide)];exact en) (by rw[vH (by decide)];exact e16) (src_ints (ir.keep kw)) (by omega) (by omega) ?_;intro v w' hn hb;obtain⟨a,c,rfl,hi'⟩:=ints_newrow hn (by omega);exact hK' _ _ ⟨_,fn_put _ _,hJ.next hBL 17 (by decide) (by decide) (yM 17 (by decide)) (λq _ h=>xX h) (by decide) hb ⟨a,c,rfl,hi'.keep ⟨λ_ _ _=>rfl,λb hb _=>Nat.le_trans (Nat.le_min.2 ⟨hL,hJ.lsz⟩) hb⟩⟩⟩
   |18,ho=>obtain rfl:o=⟨some 56,.build 44 #[(0,.tmp 47),(1,.tmp 55)],44,"ref.go:375", #[⟨9,.data⟩,⟨17,.data⟩],none⟩:=Option.some.inj (ho.symm.trans rfl);refine wpOp_step (o:=⟨some 56,.build 44 #[(0,.tmp 47),(1,.tmp 55)],44,_,_,none⟩) rfl ?_;intro K' hK';have l9:listed.getD 9 false=true:=hall ⟨9,.data⟩ (by simp) rfl;have e9:∃a c,f 47=.slice a (ps).length c/\IntsR (λb=>V.heap.size<=b) w a (ps):=hJ.r 9 (by decide) (by decide) l9;have l17:listed.getD 17 false=true:=hall ⟨17,.data⟩ (by simp) rfl;have e17:∃a c,f 55=.slice a (rs).length c/\IntsR (λb=>V.heap.size<=b) w a (rs):=hJ.r 17 (by decide) (by decide) l17;obtain⟨x1,y1,e9,h1⟩:=e9;obtain⟨x2,y2,e17,h2⟩:=e17;have g9:=(zH (n:=180) (f:=f) (t:=47) (by decide)).trans e9;have g17:=(zH (n:=180) (f:=f) (t:=55) (by decide)).trans e17;rw[if_pos (by rfl)];go_simp;(try simp only[g9,g17]);(try go_simp);exact hK' _ _ ⟨_,zJ _ _,hJ.next hBL 18 (by decide) (by decide) (yM 18 (by decide)) (λq _ h=>xX h) (by decide) (Below.refl _ _) (⟨⟨ps,x1,y1,rs,x2,y2⟩,rfl,⟨h1,h2⟩,rfl⟩)⟩
   |19,ho=>obtain rfl:o=⟨some 57,.buildSlice 22 1 #[(0,.tmp 56)],22,"ref.go:375", #[⟨18,.data⟩],none⟩:=Option.some.inj (ho.symm.trans rfl);refine wpOp_step (o:=⟨some 57,.buildSlice 22 1 #[(0,.tmp 56)],22,_,_,none⟩) rfl ?_;intro K' hK';have l18:listed.getD 18 false=true:=hall ⟨18,.data⟩ (by simp) rfl;have e18:∃t,f 56=.agg (typC.enc t).toArray/\typC.ok (λb=>V.heap.size<=b) w t/\(λt=>(t.p,t.r)=(ps,rs)) t:=hJ.r 18 (by decide) (by decide) l18;obtain⟨t,et,hok,hp⟩:=e18;replace hp:=zh hp;have et:f 56=.agg #[.slice t.pa t.p.length t.pc,.slice t.ra t.r.length t.rc]:=et;have gt:=(zH (n:=180) (f:=f) (t:=56) (by decide)).trans et;rw[if_pos (by rfl)];go_simp;(try simp only[gt]);(try go_simp);exact hK' _ _ ⟨_,zJ _ _,hJ.next hBL 19 (by decide) (by decide) (yM 19 (by decide)) (λq _ h=>xX h) (by decide) ((Below.refl _ _).alloc (Nat.le_refl _) _) (⟨_,t,rfl,hJ.lsz,λj u hj=>(World.cell?_alloc_at _ _ _ j rfl).trans (by rw[<-hj,<-List.getElem?_toArray,show typC.enc t=[.slice t.pa t.p.length t.pc,.slice t.ra t.r.length t.rc] from rfl]),typC.keep _ _ _ _ _ (KeepsR.below ((Below.refl _ _).alloc (Nat.le_refl _) _)) hok,hp.out⟩)⟩
   |20,ho=>
     obtain rfl:o=⟨some 58,.call ⟨.builtin .append, #[.tmp 39,.tmp 57], #[22,22]⟩,22,"ref.go:375", #[⟨1,.data⟩,⟨19,.data⟩,⟨17,.chain⟩],none⟩:=Option.some.inj (ho.symm.trans rfl);refine wpOp_step (o:=⟨some 58,.call ⟨.builtin .append, #[.tmp 39,.tmp 57], #[22,22]⟩,22,_,_,none⟩) rfl ?_;intro K' hK';have l1:listed.getD 1 false=true:=hall ⟨1,.data⟩ (by simp) rfl;have e1:f 39=v0:=hJ.r 1 (by decide) (by decide) l1;have l19:listed.getD 19 false=true:=hall ⟨19,.data⟩ (by simp) rfl;have e19:∃h t,f 57=.slice (some ⟨h,0,none⟩) 1 1/\V.heap.size<=h/\(∀j u,(typC.enc t)[j]? =some u->w.cell? ⟨h,j,none⟩=some u)/\typC.ok (λb=>V.heap.size<=b) w t/\(λt=>(t.p,t.r)=(ps,rs)) t:=hJ.r 19 (by decide) (by decide) l19;obtain⟨h0,t,er,hL,hc,hok,hp⟩:=e19;have hsl:listed.getD 20 false=false:=hl;have hown:=hJ.own hsl;obtain⟨ie,hie,hze,hse,hbe⟩:=info_parts info47
     refine step_append_lies _ rfl _ _ _ rfl (M+1) 44 ie _ 2 48 Tryz.underlying22 hie hze hse hbe rfl (by omega) v0 i (ts.flatMap typC.enc) (by rw[vH (by decide)];exact e1) hown.own
      ⟨h0,0,none⟩ 1 1 (typC.enc t) (by rw[vH (by decide)];exact er) (by rfl) (λj u hj=>by rw[add_cell];exact hc j u hj) (typC_one t) (by omega) (by unfold maxLen;omega) (by omega) (by have:=hJ.lsz;omega) w.heap.size rfl ?_
     intro g cap w' ho hgrow hat hlt;exact hK' _ _ ⟨_,fn_put _ _,hJ.nextk hBM hML hoL (yM 20 (by decide)) (λq _ h=>xX h) (by decide) (by omega) hsl hp hok ho hgrow hat⟩
   |21,ho=>
     obtain rfl:o=⟨some 59,.fieldAddr 32 (.tmp 3) 0,0,"ref.go:375", #[⟨0,.phase⟩,⟨1,.phase⟩,⟨2,.phase⟩,⟨3,.phase⟩,⟨4,.phase⟩,⟨5,.phase⟩,⟨6,.phase⟩,⟨7,.phase⟩,⟨8,.phase⟩,⟨9,.phase⟩,⟨10,.phase⟩,⟨11,.phase⟩,⟨12,.phase⟩,⟨13,.phase⟩,⟨14,.phase⟩,⟨15,.phase⟩,⟨16,.phase⟩,⟨17,.phase⟩,⟨18,.phase⟩,⟨19,.phase⟩,⟨20,.phase⟩],none⟩:=Option.some.inj (ho.symm.trans rfl);refine wpOp_step (o:=⟨some 59,.fieldAddr 32 (.tmp 3) 0,0,_,_,none⟩) rfl ?_
     intro K' hK';rw[if_pos (by rfl)];go_simp;(try simp only[g3]);(try go_simp);exact hK' _ _ ⟨_,zJ _ _,hJ.next hBL 21 (by decide) (by decide) (yM 21 (by decide)) (λq _ h=>xX h) (by decide) (Below.refl _ _) (rfl)⟩
   |n+22,ho=>exact absurd hi (by omega)
 . intro listed f w hbef hJ;have hin:=(yM 20 (by decide))
   obtain⟨g,cap,t,ek,hP,ho⟩:=hJ.rk (hbef 20 (by decide));have e21:f 59=.pointer (some ⟨M,0,none⟩):=hJ.r 21 (by decide) (by decide) (hbef 21 (by decide));have ek:f 58=.slice (some ⟨g,0,none⟩) (i+1) cap:=ek;have ga:=(zH (n:=180) (f:=f) (t:=59) (by decide)).trans e21;have gb:=(zH (n:=180) (f:=f) (t:=58) (by decide)).trans ek;have hsz:0<vs.size:=(Array.getElem?_eq_some_iff.1 hvs).1;have hc:=hJ.box.cells 0 _ hvs;have hf:=hJ.box.frozen 0;refine wpOp_step (o:=⟨none,.store 22 (.tmp 59) (.tmp 58),0,_,_,none⟩) rfl ?_
   intro K' hK';rw[if_pos (by rfl)];go_simp;(try simp only[ga,gb]);(try go_simp);exact hK' _ _ ⟨f,rfl,hJ.others,g,cap,t,hP,hJ.arg.setCell (p:=⟨M,0,none⟩) hBM _,hJ.box.set hsz _,ho.set⟩
 . rintro f w ⟨ho,g,cap,t,hP,h1,h2,h3⟩;rw[over_eq ho];exact fin f w g cap t hP h1 h2 h3
end Go.Proofs.YtacohbllbjgdgaaGreatDoor
