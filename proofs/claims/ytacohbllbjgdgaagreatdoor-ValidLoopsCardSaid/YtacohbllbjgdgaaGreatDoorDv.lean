/- A region that draws its order and whose operations each tell one value, whatever the order; what they call only makes memory. -/
import Derived.Test.YtacohbllbjgdgaaGreatDoorRows
import Derived.WalkKit
import Derived.Below
import Derived.Orders
import Derived.RegionTactic
import Derived.Lib.Hide
import Derived.KernelRfl
import Derived.OwnWalk
import Derived.Laws.AppendOwn
set_option linter.all false
namespace Go.Proofs.YtacohbllbjgdgaaGreatDoor
open Go.RowKit
def Fv (n:Nat) (f:Nat->Value):Act:={tmps:=((List.range n).map f).toArray,defers:=[]}
def upv (f:Nat->Value) (s:Nat) (v:Value):Nat->Value:=λt=>if t=s then v else f t
theorem fv_get{n:Nat}{f:Nat->Value}{t:Nat}{v:Value}(h:t<n)(hv:f t=v):(Fv n f).tmps[t]?.getD undef=v:=by simp[Fv,h,hv]
theorem fv_at{n:Nat}{f:Nat->Value}{t:Nat}(h:t<n):(Fv n f).tmps[t]? =some (f t):=by simp[Fv,h]
theorem jZ{n:Nat}{f:Nat->Value}(d:Nat)(v:Value):({tmps:=(Fv n f).tmps.setIfInBounds d v,defers:=(Fv n f).defers}:Act)=Fv n (upv f d v):=by
 have:(Fv n f).tmps.setIfInBounds d v=(Fv n (upv f d v)).tmps:=by
  apply Array.ext
  . simp[Fv]
  . intro i h1 h2;have hi:i<n:=(by simpa[Fv]using h2)
    rw[Array.getElem_setIfInBounds (by simpa[Fv]using hi)];simp only[Fv,List.getElem_toArray,List.getElem_map,List.getElem_range,upv]
    by_cases h:d=i
    . rw[if_pos h,if_pos h.symm]
    . rw[if_neg h,if_neg (λe=>h e.symm)]
 rw[this];rfl
theorem fv_put{n:Nat}{f:Nat->Value}(d:Nat)(v:Value):(Fv n f).put (some d) v=Fv n (upv f d v):=jZ d v
theorem fv_of(l:List Value):({tmps:=l.toArray,defers:=[]}:Act)=Fv l.length (λk=>l[k]?.getD undef):=by
 have:l.toArray=(Fv l.length (λk=>l[k]?.getD undef)).tmps:=by
  apply Array.ext
  . simp[Fv]
  . intro i h1 h2;have hi:i<l.length:=(by simpa using h1)
    simp[Fv,hi]
 rw[this];rfl
def ovv (f0 f:Nat->Value) (lo s:Nat):Nat->Value:=λt=>if lo<=t/\t<lo+s then f t else f0 t
theorem wp_fv{P:Program}{Q:Exit->Act->World->Prop}{c:Code}{w:World}(l:List Value)(n:Nat)(hn:l.length=n)(h:c.wp P Q (Fv n λk=>l[k]?.getD undef) w):c.wp P Q {tmps:=l.toArray,defers:=[]} w:=by subst hn;rw[fv_of];exact h
def depB (ops:Array Oper) (i j:Nat):Bool:=match ops[i]? with
 |some o=>o.after.any λe=>e.on==j&&Region.binds .any e
 |none=>false
def seqB (lo:Nat) (ops:Array Oper):Nat->Bool
 |0=>true
 |i+1=>(match ops[i]? with |some o=>o.dst==some (lo+i)&&o.after.all (λe=>decide (e.on<i)) |none=>false)&&seqB lo ops i
theorem seq_at {lo:Nat} {ops:Array Oper}:∀{n i:Nat},seqB lo ops n=true->i<n->∃o,ops[i]? =some o/\o.dst=some (lo+i)/\∀e∈o.after,e.on<i
 |0,i,_,h=>absurd h (by omega)
 |n+1,i,h,hi=>by
   unfold seqB at h;rw[Bool.and_eq_true]at h
   by_cases hin:i=n
   . subst hin;cases ho:ops[i]? with
     |none=>rw[ho]at h;simp at h
     |some o=>rw[ho]at h;simp only[Bool.and_eq_true,beq_iff_eq,Array.all_eq_true_iff_forall_mem,decide_eq_true_eq]at h;exact⟨o,rfl,h.1.1,h.1.2⟩
   . exact seq_at h.2 (by omega)
structure VJ (n lo s:Nat) (w1:World) (vals f0:Nat->Value) (listed:Array Bool) (a:Act) (w:World):Prop where
 size:listed.size=s
 act:∃f,a=Fv n f/\(∀t,¬(lo<=t/\t<lo+s)->f t=f0 t)/\∀j,j<s->listed.getD j false=true->f (lo+j)=vals (lo+j)
 below:Below w1.heap.size w1 w
def StepV (P:Program) (ops:Array Oper) (Q:Exit->Act->World->Prop) (n lo:Nat) (vals:Nat->Value) (i:Nat) (f:Nat->Value) (w:World):Prop:=
 wpOp P ops Q i (λa' w'=>a'=Fv n (upv f (lo+i) (vals (lo+i)))/\Below w.heap.size w w') (Fv n f) w
theorem countN(listed:Array Bool):listed.toList.countP (λb=> !b)<=listed.size:=by have:=List.countP_le_length (p:=λb:Bool=> !b) (l:=listed.toList);simpa using this
theorem count_set{listed:Array Bool}{i:Nat}(h:listed.getD i true=false):(listed.setIfInBounds i true).toList.countP (λb=> !b)+1=listed.toList.countP (λb=> !b):=by
 have hlt:i<listed.size:=by
  rcases Nat.lt_or_ge i listed.size with h' |h'
  . exact h'
  . simp[Array.getElem?_eq_none h']at h
 have hf:listed[i]=false:=(by simpa[hlt]using h)
 rw[Array.toList_setIfInBounds];have hl:i<listed.toList.length:=(by simpa using hlt)
 have hg:listed.toList[i]=false:=(by simpa using hf)
 generalize listed.toList=l at hl hg;clear hlt hf h
 induction l generalizing i with
 |nil=>simp at hl
 |cons b r ih=>
   cases i with
   |zero=>simp at hg;subst hg;simp
   |succ i=>simp only[List.set_cons_succ,List.countP_cons];have:=ih (i:=i) (by simpa using hl) (by simpa using hg);omega
theorem any_inv{P:Program}{md:Region.Mode}{ops:Array Oper}{Q:Exit->Act->World->Prop}(J:Array Bool->Act->World->Prop)(step:∀listed a w,J listed a w->∀i o,ops[i]? =some o->listed.getD i true=false->(∀e∈o.after,Region.binds md e=true->listed.getD e.on false=true)->wpOp P ops Q i (λa' w'=>J (listed.setIfInBounds i true) a' w') a w)(fin:∀listed a w,J listed a w->Region.ready md ops listed=[]->Q .normal a w):∀(fuel:Nat) (listed:Array Bool) (a:Act) (w:World),J listed a w->listed.toList.countP (λb=> !b)<=fuel->wpAny P md ops Q fuel listed a w:=by
 intro fuel
 induction fuel with
 |zero=>
   intro listed a w hJ hl
   have hr:Region.ready md ops listed=[]:=by
    cases hrs:Region.ready md ops listed with
    |nil=>rfl
    |cons i r=>have hi:=(mem_ready.1 (show i∈Region.ready md ops listed by rw[hrs];exact List.mem_cons_self ..)).1;have:=count_set hi;omega
   exact⟨hr,fin listed a w hJ hr⟩
 |succ fuel ih=>intro listed a w hJ hl;refine⟨fin listed a w hJ,λi hi=> ?_⟩;obtain⟨h1,o,ho,hall⟩:=mem_ready.1 hi;exact wpOp_mono (λa' w' h=>ih _ a' w' h (by have:=count_set h1;omega)) (step listed a w hJ i o ho h1 hall)
theorem lget_set{l:Array Bool}{i j:Nat}(h:i≠j):(l.setIfInBounds i true).getD j false=l.getD j false:=by rw[Array.getD_eq_getD_getElem?,Array.getD_eq_getD_getElem?,Array.getElem?_setIfInBounds_ne h]
theorem lget_flip{l:Array Bool}{i:Nat}{c d:Bool}(h:i<l.size):l.getD i c=l.getD i d:=by rw[Array.getD_eq_getD_getElem?,Array.getD_eq_getD_getElem?,Array.getElem?_eq_getElem h];rfl
theorem listed_all{ops:Array Oper}{listed:Array Bool}{lo s:Nat}(hq:seqB lo ops s=true)(hr:Region.ready .any ops listed=[])(hs:listed.size=s):∀i,i<s->listed.getD i true=true:=by
 intro i
 induction i using Nat.strongRecOn with
 |ind i ih=>
   intro hi;cases hl:listed.getD i true with
   |true=>rfl
   |false=>
     exfalso;obtain⟨o,ho,_,hall⟩:=seq_at hq hi
     have hm:i∈Region.ready .any ops listed:=mem_ready.2 ⟨hl,o,ho,λe he _=>by
      have hlt:=hall e he;rw[lget_flip (d:=true) (by omega)];exact ih e.on hlt (by omega)⟩
     rw[hr]at hm;cases hm
theorem region_vals{P:Program}{Q:Exit->Act->World->Prop}{id:Nat}{ops:Array Oper}{f0:Nat->Value}{w:World}(hmix:P.follows .mixedOrders=true)(n lo s:Nat)(hs:ops.size=s)(hq:seqB lo ops s=true)(vals:Nat->Value)(step:∀i,i<s->∀f w',Below w.heap.size w w'->(∀t,¬(lo<=t/\t<lo+s)->f t=f0 t)->(∀j,depB ops i j=true->f (lo+j)=vals (lo+j))->StepV P ops Q n lo vals i f w')(fin:∀w',Below w.heap.size w w'->Q .normal (Fv n (ovv f0 vals lo s)) w'):(Code.region id ops true).wp P Q (Fv n f0) w:=by
 refine wp_region_any hmix ?_;refine any_inv (VJ n lo s w vals f0) (λlisted a w' hJ i o ho hl hall=> ?_) (λlisted a w' hJ hr=> ?_) ops.size _ _ _ ?_ ?_
 . obtain⟨hsz,⟨f,rfl,hoth,hv⟩,hb⟩:=hJ
   have hi:i<s:=by rw[<-hs];exact(Array.getElem?_eq_some_iff.1 ho).1
   refine wpOp_mono (λa' w'' h=> ?_) (step i hi f w' hb hoth (λj hj=> ?_))
   . obtain⟨rfl,hb2⟩:=h;refine⟨by rw[Array.size_setIfInBounds];exact hsz,⟨_,rfl,λt ht=> ?_,λj hj hlj=> ?_⟩,hb.trans (hb2.mono hb.size)⟩
     . rw[show upv f (lo+i) (vals (lo+i)) t=f t from if_neg (by omega)];exact hoth t ht
     . by_cases hij:i=j
       . subst hij;exact if_pos rfl
       . rw[show upv f (lo+i) (vals (lo+i)) (lo+j)=f (lo+j) from if_neg (by omega)];exact hv j hj ((lget_set hij).symm.trans hlj)
   . unfold depB at hj;rw[ho]at hj;simp only[Array.any_eq_true,Bool.and_eq_true,beq_iff_eq]at hj;obtain⟨k,hk,rfl,hbd⟩:=hj;obtain⟨o',ho',_,hlt⟩:=seq_at hq hi;obtain rfl:o=o':=Option.some.inj (ho.symm.trans ho');have hm:=Array.getElem_mem hk;exact hv _ (by have:=hlt _ hm;omega) (hall _ hm hbd)
 . obtain⟨hsz,⟨f,rfl,hoth,hv⟩,hb⟩:=hJ;have hall:=listed_all hq hr hsz
   have:f=ovv f0 vals lo s:=by
    funext t;unfold ovv;split
    . rename_i ht;have:=hv (t-lo) (by omega) (by rw[lget_flip (d:=true) (by omega)];exact hall _ (by omega))
      rwa [show lo+(t-lo)=t by omega]at this
    . rename_i ht;exact hoth t ht
   rw[this];exact fin w' hb
 . refine⟨by rw[Array.size_replicate,hs],⟨f0,rfl,λ_ _=>rfl,λj hj hl=> ?_⟩,(Below.refl _ _).drew⟩;rw[Array.getD_eq_getD_getElem?,Array.getElem?_replicate]at hl;split at hl<;>cases hl
 . exact Nat.le_trans (countN _) (by rw[Array.size_replicate];exact Nat.le_refl _)
theorem wanted_none{o:Oper}{y:Nat->Option Bool}(h:o.guard=none):Region.wanted o y=true:=by unfold Region.wanted;rw[h]
theorem wanted_some{ops:Array Oper}{n g d:Nat}{f:Nat->Value}{b c:Bool}{o:Oper}(h:o.guard=some (g,b))(hd:(ops[g]?).bind (·.dst)=some d)(hn:d<n)(hf:f d=.bool c):Region.wanted o (yielded ops (Fv n f).tmps)=(c==b):=by unfold Region.wanted yielded;rw[h];simp only[hd,Option.bind_some];rw[fv_at hn,hf];cases c<;>cases b<;>rfl
structure Pw where
 p:Value->World->Prop
 keep:∀v w w',Below w.heap.size w w'->p v w->p v w'
def pwEq (u:Value):Pw:=⟨λv _=>v=u,λ_ _ _ _ h=>h⟩
def dstB (D:Nat->Nat) (ops:Array Oper) (s:Nat):Bool:=(List.range s).all λi=>match ops[i]? with |some o=>o.dst==some (D i) |none=>false
def ordB (ops:Array Oper) (s:Nat):Bool:=(List.range s).all λi=>match ops[i]? with |some o=>o.after.all (λe=>decide (e.on<i)) |none=>false
theorem ordB_at{ops:Array Oper}{s i:Nat}(h:ordB ops s=true)(hi:i<s):∃o,ops[i]? =some o/\∀e∈o.after,e.on<i:=by
 unfold ordB at h;rw[List.all_eq_true]at h;have:=h i (List.mem_range.2 hi);cases ho:ops[i]? with
 |none=>rw[ho]at this;simp at this
 |some o=>rw[ho]at this;simp only[Array.all_eq_true_iff_forall_mem,decide_eq_true_eq]at this;exact⟨o,rfl,this⟩
def difB (D:Nat->Nat) (s:Nat):Bool:=(List.range s).all λi=>(List.range s).all λj=>i==j||D i !=D j
theorem difB_at{D:Nat->Nat}{s i j:Nat}(h:difB D s=true)(hi:i<s)(hj:j<s)(e:D i=D j):i=j:=by
 unfold difB at h;rw[List.all_eq_true]at h;have:=h i (List.mem_range.2 hi);rw[List.all_eq_true]at this;have:=this j (List.mem_range.2 hj);rw[Bool.or_eq_true]at this
 rcases this with h |h
 . simpa using h
 . simp[e]at h
def lastB (ops:Array Oper) (s:Nat):Bool:=(List.range s).all λj=>(List.range (s+1)).any λi=>decide (j<i)&&depB ops i j
theorem last_all{ops:Array Oper}{s:Nat}(h:lastB ops s=true){L:Nat->Prop}(hs:∀j,depB ops s j=true->L j)(hc:∀i j,i<s->L i->depB ops i j=true->L j):∀d j,j<s->s-j<=d->L j:=by
 intro d
 induction d with
 |zero=>intro j hj hd;omega
 |succ d ih=>
   intro j hj hd;unfold lastB at h;rw[List.all_eq_true]at h;have:=h j (List.mem_range.2 hj);rw[List.any_eq_true]at this;obtain⟨i,hi,hb⟩:=this;have hi2:=List.mem_range.1 hi;rw[Bool.and_eq_true,decide_eq_true_eq]at hb
   by_cases e:i=s
   . subst e;exact hs j hb.2
   . exact hc i j (by omega) (ih i (by omega) (by omega)) hb.2
structure VL (n s:Nat) (D:Nat->Nat) (w1:World) (R:Nat->Pw) (f0:Nat->Value) (listed:Array Bool) (a:Act) (w:World):Prop where
 act:∃f,a=Fv n f/\(∀t,(∀j,j<s->D j≠t)->f t=f0 t)/\∀j,j<s->listed.getD j false=true->(R j).p (f (D j)) w
 below:Below w1.heap.size w1 w
structure JL (Q:Exit->Act->World->Prop) (ops:Array Oper) (n s:Nat) (D:Nat->Nat) (w1:World) (R:Nat->Pw) (f0:Nat->Value) (listed:Array Bool) (a:Act) (w:World):Prop where
 size:listed.size=s+1
 clo:∀i j,i<s->listed.getD i false=true->depB ops i j=true->listed.getD j false=true
 off:listed.getD s false=false->VL n s D w1 R f0 listed a w
 on:listed.getD s false=true->(∀j,j<s->listed.getD j false=true)/\Q .normal a w
def StepL (P:Program) (ops:Array Oper) (Q:Exit->Act->World->Prop) (n:Nat) (D:Nat->Nat) (R:Nat->Pw) (i:Nat) (f:Nat->Value) (w:World):Prop:=
 wpOp P ops Q i (λa' w'=>∃v,a'=Fv n (upv f (D i) v)/\(R i).p v w'/\Below w.heap.size w w') (Fv n f) w
theorem region_last{P:Program}{Q:Exit->Act->World->Prop}{id:Nat}{ops:Array Oper}{f0:Nat->Value}{w:World}(hmix:P.follows .mixedOrders=true)(n s:Nat)(D:Nat->Nat)(hs:ops.size=s+1)(hdst:dstB D ops s=true)(hq:ordB ops (s+1)=true)(hd:difB D s=true)(hl:lastB ops s=true)(R:Nat->Pw)(step:∀i,i<s->∀f w',Below w.heap.size w w'->(∀t,(∀j,j<s->D j≠t)->f t=f0 t)->(∀j,depB ops i j=true->(R j).p (f (D j)) w')->StepL P ops Q n D R i f w')(last:∀f w',Below w.heap.size w w'->(∀t,(∀j,j<s->D j≠t)->f t=f0 t)->(∀j,j<s->(R j).p (f (D j)) w')->wpOp P ops Q s (λa' w''=>Q .normal a' w'') (Fv n f) w'):(Code.region id ops true).wp P Q (Fv n f0) w:=by
 refine wp_region_any hmix ?_;refine any_inv (JL Q ops n s D w R f0) (λlisted a w' hJ i o ho hl2 hall=> ?_) (λlisted a w' hJ hr=> ?_) ops.size _ _ _ ?_ ?_
 . obtain⟨hsz,hclo,hoff,hon⟩:=hJ
   have hi:i<s+1:=by rw[<-hs];exact(Array.getElem?_eq_some_iff.1 ho).1
   have hl3:listed.getD i false=false:=(by rw[lget_flip (d:=true) (by omega)];exact hl2)
   have hdep:∀j,depB ops i j=true->j<i/\listed.getD j false=true:=λj hj=>by
    unfold depB at hj;rw[ho]at hj;simp only[Array.any_eq_true,Bool.and_eq_true,beq_iff_eq]at hj;obtain⟨k,hk,rfl,hbd⟩:=hj;obtain⟨o',ho',hlt⟩:=ordB_at hq hi;obtain rfl:o=o':=Option.some.inj (ho.symm.trans ho');have hm:=Array.getElem_mem hk;exact⟨hlt _ hm,hall _ hm hbd⟩
   have hls:listed.getD s false=false:=by
    cases h:listed.getD s false with
    |false=>rfl
    |true=>
      by_cases e:i=s
      . rw[e,h]at hl3;exact hl3
      . have:=(hon h).1 i (by omega);rw[hl3]at this;exact this.symm
   obtain⟨⟨f,rfl,hoth,hv⟩,hb⟩:=hoff hls
   have hclo2:∀i2 j,i2<s->(listed.setIfInBounds i true).getD i2 false=true->depB ops i2 j=true->(listed.setIfInBounds i true).getD j false=true:=λi2 j h1 h2 h3=>by
    have hj:listed.getD j false=true:=by
     by_cases e:i=i2
     . subst e;exact(hdep j h3).2
     . exact hclo i2 j h1 ((lget_set e).symm.trans h2) h3
    by_cases e:i=j
    . subst e;rw[hl3]at hj;cases hj
    . exact(lget_set e).trans hj
   by_cases his:i=s
   . subst his;have hallj:∀j,j<i->listed.getD j false=true:=λj hj=>last_all (L:=λj=>listed.getD j false=true) hl (λj hj=>(hdep j hj).2) (λi2 j h1 h2 h3=>hclo i2 j h1 h2 h3) i j hj (by omega);refine wpOp_mono (λa' w'' h=> ?_) (last f w' hb hoth (λj hj=>hv j hj (hallj j hj)));refine⟨by rw[Array.size_setIfInBounds];exact hsz,hclo2,λh2=> ?_,λ_=>⟨λj hj=>(lget_set (by omega)).trans (hallj j hj),h⟩⟩;exfalso
     have:(listed.setIfInBounds i true).getD i false=true:=by rw[Array.getD_eq_getD_getElem?,Array.getElem?_setIfInBounds_self_of_lt (by omega)];rfl
     rw[this]at h2;cases h2
   . have hi2:i<s:=(by omega)
     refine wpOp_mono (λa' w'' h=> ?_) (step i hi2 f w' hb hoth (λj hj=>hv j (by have:=(hdep j hj).1;omega) (hdep j hj).2));obtain⟨v,rfl,hr,hb2⟩:=h;refine⟨by rw[Array.size_setIfInBounds];exact hsz,hclo2,λ_=>⟨⟨_,rfl,λt ht=> ?_,λj hj hlj=> ?_⟩,hb.trans (hb2.mono hb.size)⟩,λh2=> ?_⟩
     . rw[show upv f (D i) v t=f t from if_neg (λe=>ht i hi2 e.symm)];exact hoth t ht
     . by_cases hij:i=j
       . subst hij;rw[show upv f (D i) v (D i)=v from if_pos rfl];exact hr
       . rw[show upv f (D i) v (D j)=f (D j) from if_neg (λe=>hij (difB_at hd hj hi2 e).symm)];exact(R j).keep _ _ _ hb2 (hv j hj ((lget_set hij).symm.trans hlj))
     . rw[lget_set his,hls]at h2;cases h2
 . obtain⟨hsz,hclo,hoff,hon⟩:=hJ
   have hall:∀i,i<s+1->listed.getD i true=true:=by
    intro i
    induction i using Nat.strongRecOn with
    |ind i ih=>
      intro hi;cases hl:listed.getD i true with
      |true=>rfl
      |false=>
        exfalso;obtain⟨o,ho,hall⟩:=ordB_at hq hi
        have hm:i∈Region.ready .any ops listed:=mem_ready.2 ⟨hl,o,ho,λe he _=>by
         have hlt:=hall e he;rw[lget_flip (d:=true) (by omega)];exact ih e.on hlt (by omega)⟩
        rw[hr]at hm;cases hm
   exact(hon (by rw[lget_flip (d:=true) (by omega)];exact hall s (by omega))).2
 . have hno:∀k,(Array.replicate ops.size false).getD k false=false:=λk=>by
    rw[Array.getD_eq_getD_getElem?,Array.getElem?_replicate];split<;>rfl
   refine⟨by rw[Array.size_replicate,hs],λi j _ h _=> ?_,λ_=>⟨⟨f0,rfl,λ_ _=>rfl,λj hj h=> ?_⟩,(Below.refl _ _).drew⟩,λh=> ?_⟩
   . rw[hno]at h;cases h
   . rw[hno]at h;cases h
   . rw[hno]at h;cases h
 . exact Nat.le_trans (countN _) (by rw[Array.size_replicate];exact Nat.le_refl _)
theorem fv_t{n:Nat}{f:Nat->Value}{t:Nat}(h:t<n):(Fv n f).tmps[t]?.getD undef=f t:=fv_get h rfl
def Needs (lo:Nat) (vs:List Value) (f:Nat->Value):List Edge->Prop
 | []=>True
 |e::es=>(Region.binds .any e=true->f (lo+e.on)=vs.getD e.on undef)/\Needs lo vs f es
theorem needs_of {lo:Nat} {vs:List Value} {f:Nat->Value}:∀{l:List Edge},(∀e∈l,Region.binds .any e=true->f (lo+e.on)=vs.getD e.on undef)->Needs lo vs f l
 | [],_=>trivial
 |e::es,h=>⟨h e (by simp),needs_of λe' he=>h e' (by simp[he])⟩
def guardsB (l:List Oper):Bool:=l.all λo=>match o.guard with |none=>true |some (g,_)=>o.after.any λe=>e.on==g&&Region.binds .any e
inductive StepAll (P:Program) (Q:Exit->Act->World->Prop) (n lo:Nat) (vs:List Value) (f:Nat->Value) (w:World):Nat->List Oper->List Value->Prop
 |nil {d:Nat}:StepAll P Q n lo vs f w d [] []
 |run {d:Nat} {o:Oper} {os:List Oper} {v:Value} {us:List Value} (hg:o.guard=none) (h:Needs lo vs f o.after.toList->∀K':Act->World->Prop,(∀a u,a=Fv n (upv f d v)/\Below w.heap.size w u->K' a u)->Oper.wp P o (Fv n f) w K' Q)
  (k:StepAll P Q n lo vs f w (d+1) os us):StepAll P Q n lo vs f w d (o::os) (v::us)
 |runG {d:Nat} {o:Oper} {os:List Oper} {v:Value} {us:List Value} {g:Nat} {b:Bool} (hg:o.guard=some (g,b)) (hv:vs.getD g undef=.bool b) (h:Needs lo vs f o.after.toList->∀K':Act->World->Prop,(∀a u,a=Fv n (upv f d v)/\Below w.heap.size w u->K' a u)->Oper.wp P o (Fv n f) w K' Q)
  (k:StepAll P Q n lo vs f w (d+1) os us):StepAll P Q n lo vs f w d (o::os) (v::us)
 |skip {d:Nat} {o:Oper} {os:List Oper} {us:List Value} {g:Nat} {b c:Bool} (hg:o.guard=some (g,b)) (hv:vs.getD g undef=.bool c) (hc:(c==b)=false)
  (k:StepAll P Q n lo vs f w (d+1) os us):StepAll P Q n lo vs f w d (o::os) (undef::us)
theorem stepAll_at{P:Program}{Q:Exit->Act->World->Prop}{n lo:Nat}{vs:List Value}{f:Nat->Value}{w:World}:∀{d:Nat} {os:List Oper} {us:List Value},StepAll P Q n lo vs f w d os us->∀k o,os[k]? =some o->∃v,us[k]? =some v/\StepAll P Q n lo vs f w (d+k) (o::os.drop (k+1)) (v::us.drop (k+1)):=by
 intro d os us h
 induction h with
 |nil=>intro k o ho;simp at ho
 |run hg h k ih=>
   intro j o ho;cases j with
   |zero=>simp at ho;subst ho;exact⟨_,rfl,.run hg h k⟩
   |succ j=>obtain⟨v,h1,h2⟩:=ih j o (by simpa using ho);exact⟨v,by simpa using h1,by rw[show∀d:Nat,d+(j+1)=d+1+j by omega];exact h2⟩
 |runG hg hv h k ih=>
   intro j o ho;cases j with
   |zero=>simp at ho;subst ho;exact⟨_,rfl,.runG hg hv h k⟩
   |succ j=>obtain⟨v,h1,h2⟩:=ih j o (by simpa using ho);exact⟨v,by simpa using h1,by rw[show∀d:Nat,d+(j+1)=d+1+j by omega];exact h2⟩
 |skip hg hv hc k ih=>
   intro j o ho;cases j with
   |zero=>simp at ho;subst ho;exact⟨_,rfl,.skip hg hv hc k⟩
   |succ j=>obtain⟨v,h1,h2⟩:=ih j o (by simpa using ho);exact⟨v,by simpa using h1,by rw[show∀d:Nat,d+(j+1)=d+1+j by omega];exact h2⟩
theorem depB_of{l:List Oper}{i:Nat}{o:Oper}(ho:l[i]? =some o){e:Edge}(he:e∈o.after.toList)(hb:Region.binds .any e=true):depB l.toArray i e.on=true:=by unfold depB;rw[show l.toArray[i]? =some o by simpa using ho];simp only[Array.any_eq_true',Bool.and_eq_true,beq_iff_eq];exact⟨e,by simpa using he,rfl,hb⟩
theorem xY{P:Program}{Q:Exit->Act->World->Prop}{id:Nat}{l:List Oper}{f0:Nat->Value}{w:World}(hmix:P.follows .mixedOrders=true)(n lo s:Nat)(vs:List Value)(hn:lo+s<=n)(hs:l.length=s)(hsv:vs.length=s)(hq:seqB lo l.toArray s=true)(hg:guardsB l=true)(step:∀f w',Below w.heap.size w w'->(∀t,(t<lo\/lo+s<=t)->f t=f0 t)->StepAll P Q n lo vs f w' lo l vs)(fin:∀w' f,Below w.heap.size w w'->(∀j,j<s->f (lo+j)=vs.getD j undef)->Q .normal (Fv n (ovv f0 f lo s)) w'):(Code.region id l.toArray true).wp P Q (Fv n f0) w:=by
 refine region_vals hmix n lo s (by simpa using hs) hq (λt=>vs.getD (t-lo) undef) (λi hi f w' hb ho hv=> ?_) (λw' hb=> ?_)
 . obtain⟨o,hoi⟩:∃o,l[i]? =some o:=⟨_,List.getElem?_eq_getElem (by omega)⟩
   have hoa:l.toArray[i]? =some o:=(by simpa using hoi)
   obtain⟨v,hvi,h⟩:=stepAll_at (step f w' hb (λt ht=>ho t (by omega))) i o hoi;obtain⟨o',ho',hd,hlt⟩:=seq_at hq hi;obtain rfl:o=o':=Option.some.inj (hoa.symm.trans ho');have hne:Needs lo vs f o.after.toList:=needs_of λe he hb=>by rw[hv _ (depB_of hoi he hb),Nat.add_sub_cancel_left]
   have hvv:vs.getD (lo+i-lo) undef=v:=(by rw[Nat.add_sub_cancel_left,List.getD_eq_getElem?_getD,hvi];rfl)
   have hgd:∀g b,o.guard=some (g,b)->g<i/\f (lo+g)=vs.getD g undef/\(l.toArray[g]?).bind (·.dst)=some (lo+g):=λg b hgb=>by
    have:=List.all_eq_true.1 hg o (List.mem_of_getElem? hoi);rw[hgb]at this;simp only[Array.any_eq_true',Bool.and_eq_true,beq_iff_eq]at this;obtain⟨e,he,rfl,hb⟩:=this;have hl:=hlt e he;obtain⟨o2,ho2,hd2,_⟩:=seq_at hq (show e.on<s by omega);exact⟨hl,by rw[hv _ (depB_of hoi (by simpa using he) hb),Nat.add_sub_cancel_left],by rw[ho2];exact hd2⟩
   unfold StepV
   dsimp only
   rw[hvv];refine wpOp_step hoa λK' hK'=> ?_;cases h with
   |run hg h k=>rw[if_pos (wanted_none hg)];exact h hne K' hK'
   |runG hgg hvg h k=>obtain⟨h1,h2,h3⟩:=hgd _ _ hgg;rw[if_pos (by rw[wanted_some hgg h3 (by omega) (h2.trans hvg)];simp)];exact h hne K' hK'
   |skip hgg hvg hc k=>obtain⟨h1,h2,h3⟩:=hgd _ _ hgg;rw[if_neg (by rw[wanted_some hgg h3 (by omega) (h2.trans hvg),hc];decide),hd];exact hK' _ _ ⟨fv_put _ _,Below.refl _ _⟩
 . exact fin w' _ hb (λj hj=>by rw[Nat.add_sub_cancel_left])
end Go.Proofs.YtacohbllbjgdgaaGreatDoor
