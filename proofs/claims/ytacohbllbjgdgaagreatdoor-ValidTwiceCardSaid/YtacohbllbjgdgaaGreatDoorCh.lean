/- A drawn region by an invariant: frames as functions; the last statement comes behind all others. -/
import Derived.Test.YtacohbllbjgdgaaGreatDoorCf
set_option linter.all false
namespace Go.Proofs.YtacohbllbjgdgaaGreatDoor
open Go.RowKit
def Fn (n:Nat) (f:Nat->Value):Act:={tmps:=((List.range n).map f).toArray,defers:=[]}
theorem zH{n:Nat}{f:Nat->Value}{t:Nat}(h:t<n):(Fn n f).tmps[t]?.getD undef=f t:=by simp[Fn,h]
theorem xL{n:Nat}{f:Nat->Value}{t:Nat}(h:t<n):(Fn n f).eval (.tmp t)=f t:=by simp[Act.eval,Fn,h]
theorem zI{n:Nat}{f:Nat->Value}(d:Nat)(v:Value):({tmps:=(Fn n f).tmps.setIfInBounds d v,defers:=(Fn n f).defers}:Act)=Fn n (upd f d v):=by
 have:(Fn n f).tmps.setIfInBounds d v=(Fn n (upd f d v)).tmps:=by
  apply Array.ext
  . simp[Fn]
  . intro i h1 h2;have hi:i<n:=(by simpa[Fn]using h2)
    rw[Array.getElem_setIfInBounds (by simpa[Fn]using hi)];simp only[Fn,List.getElem_toArray,List.getElem_map,List.getElem_range,upd]
    by_cases h:d=i
    . rw[if_pos h,if_pos h.symm]
    . rw[if_neg h,if_neg (λe=>h e.symm)]
 rw[this];rfl
theorem fn_put{n:Nat}{f:Nat->Value}(d:Nat)(v:Value):(Fn n f).put (some d) v=Fn n (upd f d v):=zI d v
theorem fn_of(l:List Value):({tmps:=l.toArray,defers:=[]}:Act)=Fn l.length (λk=>l[k]?.getD undef):=by
 have:l.toArray=(Fn l.length (λk=>l[k]?.getD undef)).tmps:=by
  apply Array.ext
  . simp[Fn]
  . intro i h1 h2;have hi:i<l.length:=(by simpa using h1)
    simp[Fn,hi]
 rw[this];rfl
theorem wp_fn{P:Program}{Q:Exit->Act->World->Prop}{c:Code}{w:World}(l:List Value)(n:Nat)(hn:l.length=n)(h:c.wp P Q (Fn n λk=>l[k]?.getD undef) w):c.wp P Q {tmps:=l.toArray,defers:=[]} w:=by subst hn;rw[fn_of];exact h
def over (f0 f:Nat->Value) (lo hi:Nat):Nat->Value:=λt=>if lo<=t/\t<=hi then f t else f0 t
theorem over_eq{f0 f:Nat->Value}{lo hi:Nat}(h:∀t,¬(lo<=t/\t<=hi)->f t=f0 t):f=over f0 f lo hi:=by
 funext t;unfold over;split
 . rfl
 . rename_i h';exact h t h'
theorem all_listed{ops:Array Oper}{listed:Array Bool}(hlow:∀i,i<ops.size->((ops[i]?).map λo=>o.after.all λe=>decide (e.on<i))=some true)(hr:Region.ready .any ops listed=[])(hs:listed.size=ops.size):∀i,i<ops.size->listed.getD i true=true:=by
 intro i
 induction i using Nat.strongRecOn with
 |ind i ih=>
   intro hi;cases hl:listed.getD i true with
   |true=>rfl
   |false=>
     exfalso;have hlow:=hlow i hi;obtain⟨o,ho,hall⟩:=Option.map_eq_some_iff.1 hlow
     have hm:i∈Region.ready .any ops listed:=mem_ready.2 ⟨hl,o,ho,λe he _=>by
      have hlt:e.on<i:=(by simpa using Array.all_eq_true_iff_forall_mem.1 hall e he)
      have:=ih e.on hlt (by omega);rw[Array.getD_eq_getD_getElem?]at this ⊢;rw[Array.getElem?_eq_getElem (by omega)]at this ⊢;exact this⟩
     rw[hr]at hm;cases hm
theorem getD_flip{l:Array Bool}{i:Nat}{c d:Bool}(h:i<l.size):l.getD i c=l.getD i d:=by rw[Array.getD_eq_getD_getElem?,Array.getD_eq_getD_getElem?,Array.getElem?_eq_getElem h];rfl
theorem getD_self{l:Array Bool}{i:Nat}(c:Bool)(h:i<l.size):(l.setIfInBounds i true).getD i c=true:=by rw[Array.getD_eq_getD_getElem?,Array.getElem?_setIfInBounds_self_of_lt h];rfl
def InvJ (n s:Nat) (J:Array Bool->(Nat->Value)->World->Prop) (F:(Nat->Value)->World->Prop) (listed:Array Bool) (a:Act) (w:World):Prop:=
 listed.size=s+1/\((listed.getD s false=false/\∃f,a=Fn n f/\J listed f w)\/((∀i,i<s+1->listed.getD i false=true)/\∃f,a=Fn n f/\F f w))
theorem region_inv{P:Program}{Q:Exit->Act->World->Prop}{id:Nat}{ops:Array Oper}{f0:Nat->Value}{w:World}(hmix:P.follows .mixedOrders=true)(n s:Nat)(hs:ops.size=s+1)(J:Array Bool->(Nat->Value)->World->Prop)(F:(Nat->Value)->World->Prop)(hlow:∀i,i<ops.size->((ops[i]?).map λo=>o.after.all λe=>decide (e.on<i))=some true)(hlast:∀j,j<s->((ops[s]?).map λo=>o.after.any λe=>decide (e.on=j)&&Region.binds .any e)=some true)(start:J (Array.replicate (s+1) false) f0 w.drew)(step:∀i o,i<s->ops[i]? =some o->∀listed f w,listed.size=s+1->listed.getD i false=false->(∀e∈o.after,Region.binds .any e=true->listed.getD e.on false=true)->J listed f w->wpOp P ops Q i (λa' w'=>∃f',a'=Fn n f'/\J (listed.setIfInBounds i true) f' w') (Fn n f) w)(last:∀listed f w,(∀j,j<s->listed.getD j false=true)->J listed f w->wpOp P ops Q s (λa' w'=>∃f',a'=Fn n f'/\F f' w') (Fn n f) w)(fin:∀f w,F f w->Q .normal (Fn n f) w):(Code.region id ops true).wp P Q (Fn n f0) w:=by
 refine wp_region_any hmix ?_;refine wpAny_inv (InvJ n s J F) (λlisted a w' hJ i o ho hl hall=> ?_) (λlisted a w' hJ hr=> ?_) ops.size _ _ _ ?_ ?_
 . obtain⟨hsz,⟨hsl,f,rfl,hj⟩ |⟨hall',_⟩⟩:=hJ
   . have hi:i<s+1:=by
      rcases Nat.lt_or_ge i ops.size with h |h
      . omega
      . rw[Array.getElem?_eq_none h]at ho;cases ho
     by_cases his:i=s
     . subst his
       have hbef:∀j,j<i->listed.getD j false=true:=λj hj=>by
        have:=hlast j hj;rw[ho]at this;simp only[Option.map_some,Option.some.injEq]at this;rw[Array.any_eq_true]at this;obtain⟨k,hk,h⟩:=this;simp only[Bool.and_eq_true,decide_eq_true_eq]at h;have:=hall _ (Array.getElem_mem hk) h.2;rw[h.1]at this;exact this
       refine wpOp_mono (λa' w' h=>⟨by rw[Array.size_setIfInBounds];exact hsz,.inr ⟨λk hk=> ?_,h⟩⟩) (last listed f w' hbef hj)
       by_cases hk':i=k
       . subst hk';exact getD_self _ (by omega)
       . rw[getD_set_ne _ hk'];exact hbef k (by omega)
     . refine wpOp_mono (λa' w' h=>⟨by rw[Array.size_setIfInBounds];exact hsz,.inl ⟨(getD_set_ne false his).trans hsl,h⟩⟩) (step i o (by omega) ho listed f w' hsz (by rw[<-hl];exact getD_flip (by omega)) hall hj)
   . exfalso
     have hi:i<s+1:=by
      rcases Nat.lt_or_ge i ops.size with h |h
      . omega
      . rw[Array.getElem?_eq_none h]at ho;cases ho
     have:=hall' i hi;rw[getD_flip (d:=true) (by omega)]at this;rw[hl]at this;cases this
 . obtain⟨hsz,⟨h22,f',rfl,hj⟩ |⟨_,f',rfl,hf⟩⟩:=hJ
   . exfalso;have:=all_listed hlow hr (by omega) s (by omega);rw[getD_flip (d:=false) (by omega)]at this;rw[h22]at this;cases this
   . exact fin f' w' hf
 . rw[hs];refine⟨by rw[Array.size_replicate],.inl ⟨?_,f0,rfl,start⟩⟩;rw[Array.getD_eq_getD_getElem?,Array.getElem?_replicate];split<;>rfl
 . rw[hs];unfold leftN;rw[Array.toList_replicate];exact Nat.le_trans List.countP_le_length (by simp)
theorem add_cell(h j:Nat):((⟨h,0,none⟩:Addr).add j)=⟨h,j,none⟩:=by unfold Addr.add;split<;>simp_all
def StR (B M:Nat) (v:Value):Nat->Prop:=λb=>B<=b/\b≠M/\some b≠v.ownBlock
def KL (L:Nat) (w w':World):Prop:=KeepsR (λb=>L<=b) (λb=>L<=b) w w'
theorem KL.of_below{L:Nat}{w w':World}(h:Below w.heap.size w w'):KL L w w':=KeepsR.below h
structure Rec (α:Type) where
 enc:α->List Value
 ok:(Nat->Prop)->World->α->Prop
 keep:∀R S w w' t,KeepsR R S w w'->ok R w t->ok S w' t
structure St where
 p:(Nat->Prop)->World->Prop
 keep:∀R S w w',KeepsR R S w w'->p R w->p S w'
 ex:Nat->Prop
 exin:∀R w,p R w->∀b,ex b->R b
structure OwnS {α:Type} (C:Rec α) (S:St) (e size B M:Nat) (w:World) (v:Value) (i:Nat) (ts:List α):Prop where
 own:w.ownsRow (M+1) e size v i (ts.flatMap C.enc)
 oks:∀t∈ts,C.ok (λb=>StR B M v b/\¬S.ex b) w t
 st:S.p (StR B M v) w
 exl:∀b,S.ex b->b<w.heap.size
theorem OwnS.below{α:Type}{C:Rec α}{S:St}{e size B M:Nat}{w w':World}{v:Value}{i:Nat}{ts:List α}(h:OwnS C S e size B M w v i ts)(hb:Below w.heap.size w w'):OwnS C S e size B M w' v i ts:=
 ⟨own_below h.own hb,λt ht=>C.keep _ _ _ _ _ (KeepsR.below hb) (h.oks t ht),S.keep _ _ _ _ (KeepsR.below hb) h.st,λb hx=>Nat.lt_of_lt_of_le (h.exl b hx) hb.size⟩
theorem OwnS.grow{α:Type}{C:Rec α}{S:St}{e size B M L:Nat}{w w':World}{v:Value}{i:Nat}{ts:List α}{t:α}{g cap:Nat}(h:OwnS C S e size B M w v i ts)(hBM:B<=M)(hML:M<L)(hL:(∀k,v.ownBlock=some k->k<L)/\∀k,S.ex k->k<L)(hok:C.ok (λb=>L<=b) w t)(ho:w'.ownsRow (M+1) e size (.slice (some ⟨g,0,none⟩) (i+1) cap) (i+1) (ts.flatMap C.enc++C.enc t))(hgrow:w.grownBy w' v.ownBlock)(hat:v.ownBlock=some g\/g=w.heap.size):OwnS C S e size B M w' (.slice (some ⟨g,0,none⟩) (i+1) cap) (i+1) (ts++[t]):=by
 have hk:KeepsR (StR B M v) (StR B M (.slice (some ⟨g,0,none⟩) (i+1) cap)) w w':=by
  refine⟨λb hr hl=>hgrow.block b hl hr.2.2,λb hr hl=>⟨hr.1,hr.2.1,λe=> ?_⟩⟩;have e:b=g:=Option.some.inj e
  rcases hat with h |h
  . exact hr.2.2 (by rw[h,e])
  . omega
 have hk2:KeepsR (λb=>StR B M v b/\¬S.ex b) (λb=>StR B M (.slice (some ⟨g,0,none⟩) (i+1) cap) b/\¬S.ex b) w w':=⟨λb hr hl=>hk.1 b hr.1 hl,λb hr hl=>⟨hk.2 b hr.1 hl,hr.2⟩⟩
 refine⟨by rw[List.flatMap_append];simpa using ho,λs hs=> ?_,S.keep _ _ _ _ hk h.st,λb hx=>Nat.lt_of_lt_of_le (h.exl b hx) hgrow.size⟩
 rcases List.mem_append.1 hs with h1 |h1
 . exact C.keep _ _ _ _ _ hk2 (h.oks s h1)
 . obtain rfl:=List.mem_singleton.1 h1;exact C.keep _ _ _ _ _ (hk2.imp λk h1 h2=>⟨⟨by omega,by omega,λe=>by have:=hL.1 k e.symm;omega⟩,λe=>by have:=hL.2 k e;omega⟩) hok
theorem kl_grow{L:Nat}{w w':World}{v:Value}(hL:∀k,v.ownBlock=some k->k<L)(hg:w.grownBy w' v.ownBlock):KL L w w':=
 ⟨λb hr hl=>hg.block b hl (λe=>by have:=hL _ e.symm;omega),λb hb _=>hb⟩
structure NBox (M:Nat) (w:World) (vs:Array Value):Prop where
 cells:Box w M vs
 frozen:∀j,w.frozen? ⟨M,j,none⟩=false
 hi:M<w.heap.size
theorem NBox.below{M:Nat}{w w':World}{vs:Array Value}(h:NBox M w vs)(hb:Below w.heap.size w w'):NBox M w' vs:=
 ⟨h.cells.keep (zA hb),λj=>(hb.frozen (p:=⟨M,j,none⟩) h.hi).trans (h.frozen j),Nat.lt_of_lt_of_le h.hi hb.size⟩
theorem NBox.grown{M:Nat}{w w':World}{vs:Array Value}{row:Option Nat}(h:NBox M w vs)(hg:w.grownBy w' row)(hr:∀k,row=some k->k≠M):NBox M w' vs:=by have hM:some M≠row:=λe=>hr M e.symm rfl;refine⟨λj v e=>hg.cell (h.cells j v e) hM,λj=> ?_,Nat.lt_of_lt_of_le h.hi hg.size⟩;rw[World.frozen?_of_block (w:=w) (w':=w') (a:=⟨M,j,none⟩) (hg.block M h.hi hM)];exact h.frozen j
theorem NBox.set{M j:Nat}{w:World}{vs:Array Value}(h:NBox M w vs)(hj:j<vs.size)(v:Value):NBox M (w.setCell ⟨M,j,none⟩ v) (vs.setIfInBounds j v):=by
 refine⟨λk u hu=> ?_,λk=>by rw[World.frozen?_setCell];exact h.frozen k,by simpa[World.setCell]using h.hi⟩
 by_cases hjk:j=k
 . subst hjk;rw[Array.getElem?_setIfInBounds_self_of_lt hj]at hu;cases hu;exact xK (h.cells j vs[j] (by simp[hj]))
 . rw[Array.getElem?_setIfInBounds_ne hjk]at hu;exact zE (h.cells k u hu) (.inr hjk)
structure MR (L:Nat) where
 p:Value->World->Prop
 keep:∀v w w',KL L w w'->p v w->p v w'
def mEq (L:Nat) (u:Value):MR L:=⟨λv _=>v=u,λ_ _ _ _ h=>h⟩
def mNew (L:Nat):MR L:=⟨λv _=>∃h,v=.slice (some ⟨h,0,none⟩) 0 0/\L<=h,λ_ _ _ _ h=>h⟩
def mInts (L:Nat) (l:List Int):MR L:=⟨λv w=>∃a c,v=.slice a l.length c/\IntsR (λb=>L<=b) w a l,λ_ _ _ f ⟨a,c,e,h⟩=>⟨a,c,e,h.keep f⟩⟩
def mIl (L:Nat) (l:Il):MR L:=⟨λv w=>∃a c,v=.slice a l.len c/\SlR (λb=>L<=b) w a l,λ_ _ _ f ⟨a,c,e,h⟩=>⟨a,c,e,h.keep f⟩⟩
def mRec (L:Nat) {α:Type} (C:Rec α) (P:α->Prop):MR L:=⟨λv w=>∃t,v=.agg (C.enc t).toArray/\C.ok (λb=>L<=b) w t/\P t,λ_ w w' f ⟨t,e,h,hp⟩=>⟨t,e,C.keep _ _ _ _ _ f h,hp⟩⟩
def mRow (L:Nat) {α:Type} (C:Rec α) (P:α->Prop):MR L:=
 ⟨λv w=>∃h t,v=.slice (some ⟨h,0,none⟩) 1 1/\L<=h/\(∀j u,(C.enc t)[j]? =some u->w.cell? ⟨h,j,none⟩=some u)/\C.ok (λb=>L<=b) w t/\P t,
  λ_ w w' f ⟨h,t,e,hL,hc,ho,hp⟩=>⟨h,t,e,hL,λj u hj=>f.c _ _ hL (hc j u hj),C.keep _ _ _ _ _ f ho,hp⟩⟩
def mCells (L:Nat) (vs:List Value):MR L:=
 ⟨λv w=>∃h,v=.slice (some ⟨h,0,none⟩) 1 1/\L<=h/\∀j u,vs[j]? =some u->w.cell? ⟨h,j,none⟩=some u,λ_ w w' f ⟨h,e,hL,hc⟩=>⟨h,e,hL,λj u hj=>f.c _ _ hL (hc j u hj)⟩⟩
def mElP (L:Nat) (l:Il):MR L:=
 ⟨λv w=>∃b o,v=.pointer (some ⟨b,o,none⟩)/\L<=b/\IlR (λb=>L<=b) w b o l,λ_ w w' f ⟨b,o,e,hL,h⟩=>⟨b,o,e,hL,IlR.keep f _ _ _ hL h⟩⟩
structure JJ {α:Type} (C:Rec α) (S:St) (e size B M L:Nat) (w1:World) (vs:Array Value) (v0:Value) (i:Nat) (ts:List α) (P:α->Prop) (R:Nat->MR L) (D:Nat->Nat) (lo hi k s:Nat) (f0:Nat->Value) (listed:Array Bool) (f:Nat->Value) (w:World):Prop where
 others:∀t,¬(lo<=t/\t<=hi)->f t=f0 t
 arg:Below B w1 w
 lsz:L<=w.heap.size
 box:NBox M w vs
 own:listed.getD k false=false->OwnS C S e size B M w v0 i ts
 r:∀j,j<s->j≠k->listed.getD j false=true->(R j).p (f (D j)) w
 rk:listed.getD k false=true->∃g cap t,f (D k)=.slice (some ⟨g,0,none⟩) (i+1) cap/\P t/\OwnS C S e size B M w (.slice (some ⟨g,0,none⟩) (i+1) cap) (i+1) (ts++[t])
section
variable {α:Type} {C:Rec α} {S:St} {e size B M L:Nat} {w1:World} {vs:Array Value} {v0:Value} {i:Nat} {ts:List α} {P:α->Prop} {R:Nat->MR L} {D:Nat->Nat} {lo hi k s:Nat} {f0:Nat->Value} {listed:Array Bool} {f:Nat->Value} {w w':World}
theorem JJ.next(hB:B<=L)(h:JJ C S e size B M L w1 vs v0 i ts P R D lo hi k s f0 listed f w)(j:Nat)(hj:j<s)(hjk:j≠k)(hin:lo<=D j/\D j<=hi)(hinj:∀q,q<s->D q=D j->q=j)(hks:k<s)(hb:Below w.heap.size w w'){v:Value}(hv:(R j).p v w'):JJ C S e size B M L w1 vs v0 i ts P R D lo hi k s f0 (listed.setIfInBounds j true) (upd f (D j) v) w':=by
 refine⟨λt ht=> ?_,h.arg.trans (hb.mono (Nat.le_trans hB h.lsz)),Nat.le_trans h.lsz hb.size,h.box.below hb,λhl=> ?_,λq hq hqk hl=> ?_,λhl=> ?_⟩
 . rw[show upd f (D j) v t=f t from if_neg (λe=>ht (by rw[e];exact hin))];exact h.others t ht
 . rw[getD_set_ne false hjk]at hl;exact(h.own hl).below hb
 . by_cases hqj:j=q
   . subst hqj;rw[show upd f (D j) v (D j)=v from if_pos rfl];exact hv
   . rw[show upd f (D j) v (D q)=f (D q) from if_neg (λe=>hqj (hinj q hq e).symm)];exact(R q).keep _ _ _ (KL.of_below hb) (h.r q hq hqk (getD_set_ne2 hqj hl))
 . obtain⟨g,cap,t,e,hp,ho⟩:=h.rk (getD_set_ne2 hjk hl);exact⟨g,cap,t,by rw[show upd f (D j) v (D k)=f (D k) from if_neg (λe=>hjk (hinj k hks e).symm)];exact e,hp,ho.below hb⟩
theorem JJ.nextk(hB:B<=M)(hML:M<L)(hlL:(∀q,v0.ownBlock=some q->q<L)/\∀q,S.ex q->q<L)(h:JJ C S e size B M L w1 vs v0 i ts P R D lo hi k s f0 listed f w)(hin:lo<=D k/\D k<=hi)(hinj:∀q,q<s->D q=D k->q=k)(hks:k<s)(hsz:k<listed.size)(hkl:listed.getD k false=false){g cap:Nat}{t:α}(hp:P t)(hok:C.ok (λb=>L<=b) w t)(ho:w'.ownsRow (M+1) e size (.slice (some ⟨g,0,none⟩) (i+1) cap) (i+1) (ts.flatMap C.enc++C.enc t))(hgrow:w.grownBy w' v0.ownBlock)(hat:v0.ownBlock=some g\/g=w.heap.size):JJ C S e size B M L w1 vs v0 i ts P R D lo hi k s f0 (listed.setIfInBounds k true) (upd f (D k) (.slice (some ⟨g,0,none⟩) (i+1) cap)) w':=by
 have hown:=h.own hkl;refine⟨λt ht=> ?_,h.arg.grown hgrow (by have:=h.lsz;omega) (λq e=>by have:=(hown.own.lt q e).1;omega),Nat.le_trans h.lsz hgrow.size,h.box.grown hgrow (λq e=>by have:=(hown.own.lt q e).1;omega),λhl=> ?_,λq hq hqk hl=> ?_,λhl=> ?_⟩
 . rw[show upd f (D k) _ t=f t from if_neg (λe=>ht (by rw[e];exact hin))];exact h.others t ht
 . rw[getD_self _ hsz]at hl;cases hl
 . rw[show upd f (D k) _ (D q)=f (D q) from if_neg (λe=>hqk (hinj q hq e))];exact(R q).keep _ _ _ (kl_grow hlL.1 hgrow) (h.r q hq hqk (getD_set_ne2 (λe=>hqk e.symm) hl))
 . exact⟨g,cap,t,if_pos rfl,hp,hown.grow hB hML hlL hok ho hgrow hat⟩
theorem JJ.keeps(h:JJ C S e size B M L w1 vs v0 i ts P R D lo hi k s f0 listed f w)(hB:w1.heap.size=B):Keeps w1 w:=zA (by rw[hB];exact h.arg)
end
theorem OwnS.set{α:Type}{C:Rec α}{S:St}{e size B M j:Nat}{w:World}{v u:Value}{i:Nat}{ts:List α}(h:OwnS C S e size B M w v i ts):OwnS C S e size B M (w.setCell ⟨M,j,none⟩ u) v i ts:=by
 have hk:KeepsR (StR B M v) (StR B M v) w (w.setCell ⟨M,j,none⟩ u):=⟨λb hr _=>Below.heap_setCell w ⟨M,j,none⟩ u b hr.2.1,λb hb _=>hb⟩
 have hk2:KeepsR (λb=>StR B M v b/\¬S.ex b) (λb=>StR B M v b/\¬S.ex b) w (w.setCell ⟨M,j,none⟩ u):=⟨λb hr hl=>hk.1 b hr.1 hl,λb hr hl=>⟨hk.2 b hr.1 hl,hr.2⟩⟩
 refine⟨?_,λt ht=>C.keep _ _ _ _ _ hk2 (h.oks t ht),S.keep _ _ _ _ hk h.st,λb hx=>by have:=h.exl b hx;simpa[World.setCell]using this⟩;refine⟨h.own.1,?_⟩
 rcases h.own.2 with hn |⟨g,cap,cur,rfl,hb,hgg,rest⟩
 . exact .inl hn
 . refine .inr ⟨g,cap,cur,rfl,hb,?_,rest⟩;rw[Below.heap_setCell w ⟨M,j,none⟩ u g (by show g≠M;omega)];exact hgg
end Go.Proofs.YtacohbllbjgdgaaGreatDoor
