/- The law's leads. -/
import Derived.Test.YtacohbllbjgdgaaGreatDoorPa
import Derived.Test.YtacohbllbjgdgaaGreatDoorDv
set_option linter.all false
set_option maxRecDepth 100000
set_option maxHeartbeats 2000000
namespace Go.Proofs.YtacohbllbjgdgaaGreatDoor
open Go.RowKit
def LeadsC (l:Il):Prop:=∀(ao:Option Addr) (c:Nat) (w:World) (d:Int),l.len<=9223372036854775807->IlIn w ao 0 l->0<=d->d+(wt l:Int)<=1000000->
 Calls Tryz.prog 20 #[.slice ao l.len c,.int .i64 d] w λe w'=>e=.returned (.bool (xF l d))/\Below w.heap.size w w'
theorem leads_step(l:Il)(hs:Sub LeadsC l):LeadsC l:=by
 intro ao c w d hl hw hd0 hd1;obtain⟨N,hN⟩:∃N,l.len=N:=⟨_,rfl⟩
 rw[hN]at hl ⊢;obtain⟨X,hX⟩:∃X,X=xF l d:=⟨_,rfl⟩
 rw[<-hX];go_enter Tryz.func20,Tryz.ntmps20;go_wp2_with fail;go_loopw [5] (λvi wr=>∃(i:Nat) (r:Il),vi=.int .i64 i/\i+r.len=N/\Hid (IlIn w ao i r)/\Hid (Sub LeadsC r)/\Hid (X=xF r d)/\Hid (d+(wt r:Int)<=1000000)/\Hid (Below w.heap.size w wr)) (λvi _=>N-(intOf vi).toNat)
 case atStart=>exact⟨0,l,rfl,by omega,zh hw,zh hs,zh hX,zh hd1,zh (Below.refl _ _)⟩
 case round=>
  clear hX hd1;obtain⟨i,r,rfl,hi,hr,hsub,hX,hd1,hb⟩:=hrel;cases r with
  |nil=>
    have hiN:i=N:=(by simpa[Il.len]using hi)
    have hX0:X=false:=hX.out;subst hiN hX0;go_wp2;go_ret;exact⟨rfl,hb.out⟩
  |cons op x y n ls body els rest=>
    have hlen:i+(rest.len+1)=N:=hi;have hlt:i<N:=(by omega)
    obtain⟨b,o,a4,k4,a5,k5,a6,k6,rfl,hh,hrest⟩:=hr.out.head;obtain⟨c0,c1,c2,c3,c4,c5,c6,i4,l5,i5,l6,i6⟩:=hh;have kb:=zA hb.out;have d0:=kb _ _ c0;have d1:=kb _ _ c1;have d2:=kb _ _ c2;have d3:=kb _ _ c3;have d4:=kb _ _ c4;have d5:=kb _ _ c5;have d6:=kb _ _ c6;have hr2:=zh hrest;have hl4:=i4.1;obtain⟨W0,hW0⟩:∃W0,W0=wr.alloc (.cells #[.int .i64 op,.int .i64 x,.int .i64 y,.int .i64 n,.slice a4 ls.length k4,.slice a5 body.len k5,.slice a6 els.len k6] 49):=⟨_,rfl⟩
    obtain⟨p,hp⟩:∃p,p=wr.heap.size:=⟨_,rfl⟩
    have hbW:Below wr.heap.size wr W0:=(by rw[hW0];exact Below.of_alloc _ _)
    have hb0:=zh (hb.out.trans (hbW.mono hb.out.size));have hbx:Box W0 p #[.int .i64 op,.int .i64 x,.int .i64 y,.int .i64 n,.slice a4 ls.length k4,.slice a5 body.len k5,.slice a6 els.len k6]:=λj v e=>by rw[hW0,hp];exact(World.cell?_alloc_at _ _ _ j rfl).trans e
    have hi4:=zh (i4.keep (zA hb0.out));have hi5:=zh (i5.keep (zA hb0.out));have hi6:=zh (i6.keep (zA hb0.out));have hx0:=zh hbx;have e0:Hid (X=(((op==12||(op==13||op==14))&&decide (d<=x))||(ls.any (λk=>decide (d<=k))||(xF body (d+1)||(xF els (d+1)||xF rest d))))):=hX
    have hwt:d+1+(wt body:Int)<=1000000/\d+1+(wt els:Int)<=1000000/\d+(wt rest:Int)<=1000000:=by have:=hd1.out;unfold wt at this;omega
    have hdw:IntKind.i64.wrap (d+1)=d+1:=vU _ (by omega) (by omega);clear c0 c1 c2 c3 c4 c5 c6 i4 i5 i6 hr hrest kb hX hd1 hbW hb hbx
    go_upto_region 5 with(fail)
    rw[<-hW0,<-hp];clear hW0 hp d0 d1 d2 d3 d4 d5 d6;have z0:W0.cell? ⟨p,0,none⟩=some (.int .i64 op):=hx0.out 0 _ rfl;have z1:W0.cell? ⟨p,1,none⟩=some (.int .i64 x):=hx0.out 1 _ rfl
    by_cases hc:(op==12||(op==13||op==14))=true/\d<=x
    . have hX1:X=true:=(by rw[e0.out,hc.1,decide_eq_true hc.2];rfl)
      subst hX1;have hcx:=hc.2
      have hc3:op=12\/(op≠12/\op=13)\/(op≠12/\op≠13/\op=14):=by have:=hc.1;simp only[Bool.or_eq_true,beq_iff_eq]at this;omega
      clear hc e0
      rcases hc3 with rfl |⟨h1,rfl⟩ |⟨h1,h2,rfl⟩
      all_goals
       go_wp2;go_ret;exact⟨rfl,hb0.out⟩
    have hc3:(op≠12/\op≠13/\op≠14)\/(op=12/\¬d<=x)\/(op≠12/\op=13/\¬d<=x)\/(op≠12/\op≠13/\op=14/\¬d<=x):=by simp only[Bool.or_eq_true,beq_iff_eq,not_and]at hc;omega
    have e1:Hid (X=(ls.any (λk=>decide (d<=k))||(xF body (d+1)||(xF els (d+1)||xF rest d)))):=zh (by
     rw[e0.out]
     have:((op==12||(op==13||op==14))&&decide (d<=x))=false:=by
      rw[Bool.and_eq_false_iff]
      by_cases q:d<=x
      . left;cases hb:(op==12||(op==13||op==14))with
        |false=>rfl
        |true=>exact absurd ⟨hb,q⟩ hc
      . right;exact decide_eq_false q
     rw[this,Bool.false_or])
    clear hc e0
    rcases hc3 with⟨h1,h2,h3⟩ |⟨rfl,h1⟩ |⟨h1,rfl,h2⟩ |⟨h1,h2,rfl,h3⟩
    all_goals
     have z4:W0.cell? ⟨p,4,none⟩=some (.slice a4 ls.length k4):=hx0.out 4 _ rfl;go_wp2_with fail;go_loopw [7] (λvj wx=>∃j:Nat,vj=.int .i64 j/\j<=ls.length/\wx=W0/\Hid (ls.any (λk=>decide (d<=k))=(ls.drop j).any (λk=>decide (d<=k)))) (λvj _=>ls.length-(intOf vj).toNat)
     case atStart=>exact⟨0,rfl,by omega,rfl,zh rfl⟩
     case round=>
      obtain⟨j,rfl,hj,rfl,ha⟩:=hrel
      by_cases hlt4:j<ls.length
      . obtain⟨q,hq⟩:∃q,ls[j]? =some q:=⟨_,List.getElem?_eq_getElem hlt4⟩
        have hdr:ls.drop j=q::ls.drop (j+1):=(by rw[List.drop_eq_getElem_cons hlt4,(List.getElem?_eq_some_iff.1 hq).2])
        obtain⟨b4,o4,rfl,hc4⟩:∃b4 o4,a4=some ⟨b4,o4,none⟩/\wr.cell? ⟨b4,o4+j,none⟩=some (.int .i64 q):=by
         rcases hi4.out.2 with h |⟨b4,o4,e,h⟩
         . rw[h]at hlt4;exact absurd hlt4 (by simp)
         . exact⟨b4,o4,e,h j q hq⟩
        have ha2:=ha.out;rw[hdr,List.any_cons]at ha2;clear hdr ha
        by_cases hqd:d<=q
        . have hX1:X=true:=(by rw[e1.out,ha2,decide_eq_true hqd];rfl)
          subst hX1;clear ha2 e1;go_wp2;go_ret;exact⟨rfl,hb0.out⟩
        . rw[decide_eq_false hqd,Bool.false_or]at ha2;have ha3:=zh ha2;clear ha2;go_wp2;exact⟨⟨j+1,by simp,by omega,trivial,ha3⟩,by simp[intOf];omega⟩
      . have hjl:j=ls.length:=(by omega)
        subst hjl
        have e2:Hid (X=(xF body (d+1)||(xF els (d+1)||xF rest d))):=zh (by
         rw[e1.out,ha.out,List.drop_length];rfl)
        clear e1 ha hj;have z5:wr.cell? ⟨p,5,none⟩=some (.slice a5 body.len k5):=hx0.out 5 _ rfl;have z6:wr.cell? ⟨p,6,none⟩=some (.slice a6 els.len k6):=hx0.out 6 _ rfl;go_wp2_with fail;refine(hsub.out.1 a5 k5 _ (d+1) l5 hi5.out (by omega) hwt.1).mono ?_;rintro e u1 ⟨rfl,hb1⟩;have g6:u1.cell? ⟨p,6,none⟩=some (.slice a6 els.len k6):=zA hb1 _ _ z6;have hu1:=zh (hb0.out.trans (hb1.mono hb0.out.size));have hu6:=zh (hi6.out.keep (zA hb1));clear hb1 z5 z6;obtain⟨B1,hB1⟩:∃q,q=xF body (d+1):=⟨_,rfl⟩
        rw[<-hB1]at e2 ⊢;clear hB1;cases B1
        . go_wp2_with fail;refine(hsub.out.2.1 a6 k6 _ (d+1) l6 hu6.out (by omega) hwt.2.1).mono ?_;rintro e u2 ⟨rfl,hb2⟩;have hu2:=zh (hu1.out.trans (hb2.mono hu1.out.size));have hr3:=zh (hr2.out);clear hb2;obtain⟨B2,hB2⟩:∃q,q=xF els (d+1):=⟨_,rfl⟩
          rw[<-hB2]at e2 ⊢;clear hB2;cases B2
          . have e3:Hid (X=xF rest d):=zh (by rw[e2.out];rfl);have hsr:=zh hsub.out.2.2;have hwr:=zh hwt.2.2;clear e2 hsub;go_wp2;exact⟨⟨i+1,rest,by simp,by omega,hr3,hsr,e3,hwr,hu2⟩,by simp[intOf];omega⟩
          . have hX1:X=true:=e2.out;subst hX1;go_wp2;go_ret;exact⟨rfl,hu2.out⟩
        . have hX1:X=true:=e2.out;subst hX1;go_wp2;go_ret;exact⟨rfl,hu1.out⟩
theorem leads_any(l:Il):LeadsC l:=Il.each leads_step l
end Go.Proofs.YtacohbllbjgdgaaGreatDoor
namespace Go.Proofs.YtacohbllbjgdgaaGreatDoor
open Go.RowKit
def ext (T:List Fr) (s:Ts):Ts:=⟨s.st,s.fs++T⟩
section
variable {T:List Fr}
theorem pop_fr{t:Int}{st:List Int}{f:Fr}{r r':List Fr}{q:Int×Ts}(h:zI t ⟨st,f::r⟩=.ok q):q.2.fs=f::r/\zI t ⟨st,f::r'⟩=.ok (q.1,⟨q.2.st,f::r'⟩):=by
 unfold zI at h ⊢
 dsimp only at h ⊢
 by_cases h1:st.length=f.h
 . rw[if_pos h1]at h ⊢
   by_cases h2:f.dead=true
   . rw[if_pos h2]at h ⊢;cases h;exact⟨rfl,rfl⟩
   . rw[if_neg h2]at h;cases h
 . rw[if_neg h1]at h ⊢;cases st with
   |nil=>cases h
   |cons x st=>
     dsimp only at h ⊢
     by_cases h2:t≠0/\x≠0/\x≠t
     . rw[if_pos h2]at h;cases h
     . rw[if_neg h2]at h ⊢;cases h;exact⟨rfl,rfl⟩
theorem pop_ext{t:Int}{s:Ts}{q:Int×Ts}(hn:s.fs≠[])(h:zI t s=.ok q):q.2.fs=s.fs/\zI t (ext T s)=.ok (q.1,ext T q.2):=by
 obtain⟨st,fs⟩:=s;cases fs with
 |nil=>exact absurd rfl hn
 |cons f r=>
   obtain⟨h1,h2⟩:=pop_fr (r':=r++T) h;refine⟨h1,?_⟩
   show zI t ⟨st,f::(r++T)⟩=_
   rw[h2];unfold ext;rw[h1];rfl
theorem pops_ext:∀(l:List Int) {s u:Ts},s.fs≠[]->yR l s=.ok u->u.fs=s.fs/\yR l (ext T s)=.ok (ext T u)
 | [],s,u,hn,h=>by cases h;exact⟨rfl,rfl⟩
 |t::r,s,u,hn,h=>by
   unfold yR at h ⊢;cases hp:zI t s with
   |error e=>rw[hp]at h;cases h
   |ok q=>rw[hp]at h;obtain⟨a1,a2⟩:=pop_ext (T:=T) hn hp;obtain⟨b1,b2⟩:=pops_ext r (s:=q.2) (u:=u) (by rw[a1];exact hn) h;rw[a2];exact⟨b1.trans a1,b2⟩
structure Alk (n:Nat) (e:List Int) (s:Ts):Prop where
 len:s.fs.length=n+1
 ret:tRet s=e
theorem Alk.ne{n:Nat}{e:List Int}{s:Ts}(h:Alk n e s):s.fs≠[]:=λq=>by have:=h.len;rw[q]at this;cases this
theorem Alk.fs{n:Nat}{e:List Int}{s u:Ts}(h:Alk n e s)(k:u.fs=s.fs):Alk n e u:=⟨by rw[k];exact h.len,by unfold tRet;rw[k];exact h.ret⟩
def ExT (T:List Fr) (n:Nat) (e:List Int) (X:Ts->Except Int Ts):Prop:=∀s t,Alk n e s->X s=.ok t->Alk n e t/\X (ext T s)=.ok (ext T t)
theorem ExT.bind{n:Nat}{e:List Int}{X Y:Ts->Except Int Ts}(hX:ExT T n e X)(hY:ExT T n e Y):ExT T n e λs=>(X s).bind Y:=by
 intro s t hs h;replace h:(X s).bind Y=.ok t:=h;cases hx:X s with
 |error e=>rw[hx]at h;cases h
 |ok u=>
   rw[hx]at h;obtain⟨a1,a2⟩:=hX s u hs hx;obtain⟨b1,b2⟩:=hY u t a1 h;refine⟨b1,?_⟩
   show(X (ext T s)).bind Y=_
   rw[a2];exact b2
theorem ex_ok{n:Nat}{e:List Int}:ExT T n e λs=>.ok s:=λs t hs h=>by cases h;exact⟨hs,rfl⟩
theorem ex_err{n:Nat}{e:List Int}{k:Int}:ExT T n e λs=>.error k:=λs t hs h=>by cases h
theorem yQ{n:Nat}{e:List Int}(l:List Int):ExT T n e λs=>.ok (zL l s):=λs t hs h=>by cases h;exact⟨hs.fs rfl,rfl⟩
theorem ex_pops{n:Nat}{e:List Int}(l:List Int):ExT T n e (yR l):=λs t hs h=>by
 obtain⟨a,b⟩:=pops_ext (T:=T) l hs.ne h;exact⟨hs.fs a,b⟩
theorem ex_popL{n:Nat}{e:List Int}(l:List Int):ExT T n e (qP l):=ex_pops l.reverse
theorem ex_popk{n:Nat}{e:List Int}(t:Int){k:Int->Ts->Except Int Ts}(hk:∀x,ExT T n e (k x)):ExT T n e λs=>(zI t s).bind λq=>k q.1 q.2:=by
 intro s u hs h;replace h:((zI t s).bind λq=>k q.1 q.2)=.ok u:=h;cases hp:zI t s with
 |error e=>rw[hp]at h;cases h
 |ok q=>
   rw[hp]at h;obtain⟨a1,a2⟩:=pop_ext (T:=T) hs.ne hp;obtain⟨b1,b2⟩:=hk q.1 q.2 u (hs.fs a1) h;refine⟨b1,?_⟩
   show(zI t (ext T s)).bind _=_
   rw[a2];exact b2
theorem ex_pop1{n:Nat}{e:List Int}(t:Int):ExT T n e λs=>(zI t s).bind λq=>.ok q.2:=ex_popk t (k:=λ_ u=>.ok u) λ_=>ex_ok
theorem xW{n:Nat}{e:List Int}{p:Prop}[Decidable p]{X Y:Ts->Except Int Ts}(hX:p->ExT T n e X)(hY:¬p->ExT T n e Y):ExT T n e λs=>if p then X s else Y s:=by
 intro s t hs h
 by_cases q:p
 . simp only[if_pos q]at h ⊢;exact hX q s t hs h
 . simp only[if_neg q]at h ⊢;exact hY q s t hs h
theorem ex_dies{n:Nat}{e:List Int}:ExT T n e λs=>.ok (xO s):=λs t hs h=>by
 cases h;obtain⟨st,fs⟩:=s;cases fs with
 |nil=>exact absurd rfl hs.ne
 |cons f r=>
   refine⟨⟨hs.len,?_⟩,rfl⟩;have hr:=hs.ret;rw[<-hr];unfold tRet xO;cases r with
   |nil=>rfl
   |cons g r=>rfl
theorem goes_ext{n:Nat}{e:List Int}{s:Ts}(hs:Alk n e s){k:Int}(h0:0<=k)(h1:k<(n:Int)+1):xC k (ext T s)=xC k s:=by
 unfold xC ext;have:=hs.len
 dsimp only
 rw[List.length_append,if_pos (by omega),if_pos (by omega)];rw[List.getD_eq_getElem?_getD,List.getD_eq_getElem?_getD,List.getElem?_append_left (by omega)]
theorem all_ext {n:Nat} {e:List Int} {s:Ts} (hs:Alk n e s):∀(ls:List Int),(∀k∈ls,0<=k/\k<(n:Int)+1)->tAll ls (ext T s)=tAll ls s
 | [],_=>rfl
 |k::r,h=>by
   unfold tAll;have hk:=h k (List.mem_cons_self ..);rw[goes_ext hs hk.1 hk.2,all_ext hs r λx hx=>h x (List.mem_cons_of_mem _ hx)]
theorem like_ext {n:Nat} {e:List Int} {s:Ts} (hs:Alk n e s) (g:List Int):∀(ls:List Int),(∀k∈ls,0<=k/\k<(n:Int)+1)->jN g ls (ext T s)=jN g ls s
 | [],_=>rfl
 |k::r,h=>by
   unfold jN;have hk:=h k (List.mem_cons_self ..);rw[goes_ext hs hk.1 hk.2,like_ext hs g r λx hx=>h x (List.mem_cons_of_mem _ hx)]
theorem ex_leaves{n:Nat}{e:List Int}{op a:Int}{ls:List Int}(h0:0<=a)(h1:a<(n:Int)+1)(hl:∀k∈ls,0<=k/\k<(n:Int)+1):ExT T n e (xL op a ls):=by
 intro s t hs h;unfold xL at h ⊢;rw[all_ext hs ls hl,goes_ext hs h0 h1];cases x1:tAll ls s with
 |error k=>rw[x1]at h;cases h
 |ok u1=>
   rw[x1]at h;cases x2:xC a s with
   |error k=>rw[x2]at h;cases h
   |ok g=>
     rw[x2]at h
     have hX:ExT T n e λs=>(if op≠12 then(zI 127 s).bind λq=>.ok q.2 else .ok s).bind λs=>(jN g ls s).bind λ_=>(qP g s).bind λs=>.ok (if op=13 then zL g s else xO s):=by
      refine ExT.bind (X:=λs=>if op≠12 then(zI 127 s).bind λq=>.ok q.2 else .ok s) (xW (λ_=>ex_pop1 127) λ_=>ex_ok) ?_;intro s t hs h;replace h:((jN g ls s).bind λ_=>(qP g s).bind λs=>.ok (if op=13 then zL g s else xO s))=.ok t:=h
      show Alk n e t/\((jN g ls (ext T s)).bind λ_=>(qP g (ext T s)).bind λs=>.ok (if op=13 then zL g s else xO s))=_
      rw[like_ext hs g ls hl];cases x3:jN g ls s with
      |error k=>rw[x3]at h;cases h
      |ok u3=>
        rw[x3]at h;refine(ex_popL g).bind (Y:=λs=>.ok (if op=13 then zL g s else xO s)) ?_ s t hs h
        by_cases q:op=13
        . simp only[if_pos q];exact yQ g
        . simp only[if_neg q];exact ex_dies
     exact hX s t hs h
theorem ret_tail{s:Ts}{f:Fr}{r:List Fr}(h:s.fs=f::r)(hr:r≠[]){u:List Int}:tRet s=tRet ⟨u,r⟩:=by
 unfold tRet;rw[h];cases r with
 |nil=>exact absurd rfl hr
 |cons g r=>rfl
theorem ex_block{n:Nat}{e:List Int}{B:Ts->Except Int Ts}(hB:ExT T (n+1) e B)(goes ends:List Int):ExT T n e (qB B goes ends):=by
 intro s t hs h;unfold qB at h ⊢;cases hb:B ⟨s.st,⟨goes,ends,s.st.length,false⟩::s.fs⟩with
 |error k=>rw[hb]at h;cases h
 |ok s1=>
   rw[hb]at h
   have hs1:Alk (n+1) e ⟨s.st,⟨goes,ends,s.st.length,false⟩::s.fs⟩:=by refine⟨by simp[hs.len],?_⟩;rw[ret_tail (f:=⟨goes,ends,s.st.length,false⟩) (r:=s.fs) rfl hs.ne (u:=s.st)];exact hs.ret
   obtain⟨a1,a2⟩:=hB _ _ hs1 hb;change B ⟨(ext T s).st,⟨goes,ends,(ext T s).st.length,false⟩::(ext T s).fs⟩=_ at a2;rw[a2];change endT0 s1=_ at h;unfold endT0 at h
   show _/\endT0 (ext T s1)=_
   unfold endT0;cases hf:s1.fs with
   |nil=>exact absurd hf a1.ne
   |cons f r=>
     rw[hf]at h;rw[show(ext T s1).fs=f::(r++T) by unfold ext;rw[hf];rfl]
     dsimp only at h ⊢
     cases hp:qP f.ends s1 with
     |error k=>rw[hp]at h;cases h
     |ok s2=>
       rw[hp]at h;obtain⟨b1,b2⟩:=ex_popL (T:=T) f.ends s1 s2 a1 hp;rw[b2];change (if s2.st.length=f.h then Except.ok (⟨s2.st,r⟩:Ts)else .error 60)=_ at h
       show Alk n e t/\(if s2.st.length=f.h then Except.ok (⟨s2.st,r++T⟩:Ts)else .error 60)=_
       by_cases q:s2.st.length=f.h
       . rw[if_pos q]at h ⊢;cases h;have hl:=a1.len;rw[hf]at hl;have hl2:r.length=n+1:=(by simpa using hl)
         refine⟨⟨hl2,?_⟩,rfl⟩;rw[<-ret_tail (s:=s1) hf (λq=>by rw[q]at hl2;cases hl2)];exact a1.ret
       . rw[if_neg q]at h;cases h
theorem ex_blocks{n:Nat}{e:List Int}{B C:Ts->Except Int Ts}(hB:ExT T (n+1) e B)(hC:ExT T (n+1) e C)(op a:Int)(k:Nat):ExT T n e (xT op a k B C):=by unfold xT;refine xW (λ_=>(ex_block hB _ _).bind (yQ _)) λ_=>xW (λ_=>(ex_block hB _ _).bind (yQ _)) λ_=> ?_;refine ex_popk 127 (k:=λ_ u=>if 0<k\/a=0 then(qB B (zK a) (zK a) u).bind λs=>(if 0<k then qB C (zK a) (zK a) s else .ok s).bind λs=>.ok (zL (zK a) s)else .error 60) λ_=> ?_;refine xW (λ_=>(ex_block hB _ _).bind (Y:=λs=>(if 0<k then qB C (zK a) (zK a) s else .ok s).bind λs=>.ok (zL (zK a) s)) ?_) λ_=>ex_err;exact ExT.bind (X:=λs=>if 0<k then qB C (zK a) (zK a) s else .ok s) (xW (λ_=>ex_block hC _ _) λ_=>ex_ok) (yQ _)
theorem ex_calls{n:Nat}{e:List Int}(t:List Int×List Int):ExT T n e (yE t):=(ex_popL t.1).bind (yQ t.2)
theorem ex_named{n:Nat}{e:List Int}(E:Ev)(op a:Int):ExT T n e (jE E op a):=by
 unfold jE;refine xW (λ_=> ?_) λ_=>xW (λ_=> ?_) λ_=>xW (λ_=> ?_) λ_=> ?_
 . cases E.funcs[a.toNat]? with
   |none=>exact ex_err
   |some t=>exact ex_calls t
 . cases E.globals[a.toNat]? with
   |none=>exact ex_err
   |some g=>exact yQ _
 . cases E.globals[a.toNat]? with
   |none=>exact ex_err
   |some g=>exact xW (λ_=>ex_pop1 _) λ_=>ex_err
 . cases E.locals[a.toNat]? with
   |none=>exact ex_err
   |some t=>
     refine ExT.bind (X:=λs=>if op≠32 then(zI t s).bind λq=>.ok q.2 else .ok s) (xW (λ_=>ex_pop1 _) λ_=>ex_ok) ?_
     by_cases q:op≠33
     . simp only[if_pos q];exact yQ _
     . simp only[if_neg q];exact ex_ok
theorem ex_memory{n:Nat}{e:List Int}(E:Ev)(op a:Int):ExT T n e (zF E op a):=by
 unfold zF;refine xW (λ_=>xW (λ_=> ?_) λ_=>ex_err) λ_=>ex_err;refine ExT.bind (X:=λs=>if 54<=op then(zI (memT op) s).bind λq=>.ok q.2 else .ok s) (xW (λ_=>ex_pop1 _) λ_=>ex_ok) ?_;refine ex_popk 127 (k:=λ_ u=>.ok (if op<54 then zL [memT op] u else u)) λ_=> ?_
 by_cases q:op<54
 . simp only[if_pos q];exact yQ _
 . simp only[if_neg q];exact ex_ok
theorem ret_ext{s:Ts}{e:List Int}(hT:T≠[])(he:tRet ⟨[],T⟩=e):tRet (ext T s)=e:=by
 rw[<-he];unfold tRet ext
 dsimp only
 rw[List.getLast?_append];cases h:T.getLast? with
 |none=>exact absurd (List.getLast?_eq_none_iff.1 h) hT
 |some f=>rfl
theorem ex_plain{n:Nat}{e:List Int}(hT:T≠[])(he:tRet ⟨[],T⟩=e)(E:Ev)(op:Int):ExT T n e (xK E op):=by
 unfold xK;refine xW (λ_=>ex_dies) λ_=>xW (λ_=> ?_) λ_=>xW (λ_=>ex_pop1 _) λ_=>xW (λ_=> ?_) λ_=>xW (λ_=>xW (λ_=>yQ _) λ_=>ex_err) λ_=>xW (λ_=>xW (λ_=> ?_) λ_=>ex_err) λ_=>ex_ok
 . intro s t hs h;replace h:((qP (tRet s) s).bind λs=>.ok (xO s))=.ok t:=h
   show Alk n e t/\((qP (tRet (ext T s)) (ext T s)).bind λs=>.ok (xO s))=_
   rw[ret_ext hT he];rw[hs.ret]at h;exact(ex_popL e).bind ex_dies s t hs h
 . refine ex_popk 127 (k:=λ_ u=>(zI 0 u).bind λa=>(zI 0 a.2).bind λb=>if a.1=b.1\/a.1=0\/b.1=0 then .ok (zL [if a.1=0 then b.1 else a.1] b.2)else .error 60) λ_=> ?_;refine ex_popk 0 (k:=λx u=>(zI 0 u).bind λb=>if x=b.1\/x=0\/b.1=0 then .ok (zL [if x=0 then b.1 else x] b.2)else .error 60) λx=> ?_;refine ex_popk 0 (k:=λy u=>if x=y\/x=0\/y=0 then .ok (zL [if x=0 then y else x] u)else .error 60) λy=> ?_;exact xW (λ_=>yQ _) λ_=>ex_err
 . exact ex_popk 127 (k:=λ_ u=>.ok (zL [127] u)) λ_=>yQ _
theorem ex_tyL (hT:T≠[]) {e:List Int} (he:tRet ⟨[],T⟩=e) (E:Ev):∀(l:Il) (n:Nat),qA l=true->xF l n=false->ExT T n e (tyL E l)
 |.nil,n,hf,hl=>ex_ok
 |.cons op a y k ls body els rest,n,hf,hl=>by
   unfold qA at hf;rw[Bool.and_eq_true,Bool.and_eq_true,Bool.and_eq_true]at hf;obtain⟨f1,f2,f3,f4⟩:=hf;unfold xF at hl;rw[Bool.or_eq_false_iff,Bool.or_eq_false_iff,Bool.or_eq_false_iff,Bool.or_eq_false_iff]at hl;obtain⟨l1,l2,l3,l4,l5⟩:=hl;obtain⟨h0,h1,h2,h3,h4⟩:=plainfacts f1;obtain⟨i1,i2,i3,i4,i5,i6,i7,i8,i9⟩:=fv_inv op;have eB:=ex_tyL hT he E body (n+1) f2 (by simpa using l3);have eC:=ex_tyL hT he E els (n+1) f3 (by simpa using l4);have eR:=ex_tyL hT he E rest n f4 l5;refine ExT.bind (X:=jL E op a ls els.len (tyL E body) (tyL E els)) ?_ eR;unfold jL;refine xW (λ_=>(ex_popL _).bind (yQ _)) λ_=>xW (λ_=>ex_blocks eB eC _ _ _) λ_=>xW (λhq=> ?_) λ_=>xW (λ_=>ex_named _ _ _) λ_=>xW (λ_=> ?_) λ_=>xW (λ_=>ex_memory _ _ _) λ_=>xW (λ_=>yQ _) λ_=>ex_plain hT he _ _
   . have ha:=h2 (by omega);refine ex_leaves ha ?_ λk hk=> ?_
     . have:op=12\/op=13\/op=14:=by
        rcases hq with hq |hq
        . have:=i4 hq;omega
        . have:=i5 hq;omega
       rw[Bool.and_eq_false_iff]at l1
       rcases l1 with l1 |l1
       . simp only[Bool.or_eq_false_iff,beq_eq_false_iff_ne]at l1;omega
       . have:=of_decide_eq_false l1;omega
     . by_cases h5:zG op=5
       . refine⟨h3 h5 k hk,?_⟩;have:=List.any_eq_false.1 l2 k hk;simp only[decide_eq_true_eq]at this;omega
       . rw[h4 h5]at hk;cases hk
   . unfold vI;refine xW (λ_=> ?_) λ_=>ex_err;cases E.types[a.toNat]? with
     |none=>exact ex_err
     |some t=>exact ex_popk 127 (k:=λ_ u=>yE t u) λ_=>ex_calls t
end
def loopB (a:Int) (b:Il):Il:=.cons 3 a 0 0 [] (.cons 2 a 0 0 [] b .nil .nil) .nil .nil
theorem resV_hd{R:List Int}(h1:R.length<=1)(h2:∀x∈R,tyo x):zK (R.headD 0)=R:=by
 rcases R with _ |⟨x,_ |⟨y,R⟩⟩
 . rfl
 . have:=h2 x (List.mem_cons_self ..);unfold tyo at this;unfold zK;exact if_neg (by show¬x=0;omega)
 . simp at h1
theorem pop_end{R:List Int}(h1:R.length<=1){g:Fr}{fs:List Fr}(hg:g.h=0):qP R ⟨R.reverse,g::fs⟩=.ok ⟨[],g::fs⟩:=by
 rcases R with _ |⟨x,_ |⟨y,R⟩⟩
 . rfl
 . show(zI x ⟨[x],g::fs⟩).bind (λq=>yR [] q.2)=_
   unfold zI
   dsimp only
   rw[if_neg (by rw[hg];simp),if_neg (λq=>q.2.2 rfl)];rfl
 . simp at h1
theorem block_in{B:Ts->Except Int Ts}{goes R:List Int}{st:List Int}{fs:List Fr}{s1:Ts}{f:Fr}{r:List Fr}(hb:B ⟨st,⟨goes,R,st.length,false⟩::fs⟩=.ok s1)(hf:s1.fs=f::r)(he:f.ends=R){s2:Ts}(hp:qP R s1=.ok s2)(hl:s2.st.length=f.h):qB B goes R ⟨st,fs⟩=.ok ⟨s2.st,r⟩:=by
 unfold qB
 dsimp only
 rw[hb]
 show endT0 s1=_
 unfold endT0;rw[hf]
 dsimp only
 rw[he,hp];exact if_pos hl
theorem ty2{E:Ev}{op a:Int}{B:Il}(h:op=2\/op=3)(s:Ts):tyL E (.cons op a 0 0 [] B .nil .nil) s=(qB (tyL E B) (if op=2 then zK a else[]) (zK a) s).bind λs=>.ok (zL (zK a) s):=by
 have e:tyL E (.cons op a 0 0 [] B .nil .nil) s=jL E op a [] 0 (tyL E B) (tyL E .nil) s:=by
  show(jL E op a [] 0 (tyL E B) (tyL E .nil) s).bind (tyL E .nil)=_
  cases jL E op a [] 0 (tyL E B) (tyL E .nil) s<;>rfl
 rw[e];unfold jL xT
 rcases h with rfl |rfl
 . rw[if_neg (by decide+kernel),if_pos (by decide+kernel),if_pos rfl,if_pos rfl]
 . rw[if_neg (by decide+kernel),if_pos (by decide+kernel),if_neg (by decide),if_pos rfl,if_neg (by decide)]
theorem loop_ok{E:Ev}(hE:EvOk E){R:List Int}{b:Il}(h1:R.length<=1)(h2:∀x∈R,tyo x)(hf:qA b=true)(hl:xF b 0=false)(h:Okx (qB (tyL E b) R R ⟨[],[]⟩)):Okx (qB (tyL E (loopB (R.headD 0) b)) R R ⟨[],[]⟩):=by
 obtain⟨u,hu⟩:=h;have hr:=resV_hd h1 h2;have hx:=ex_tyL (T:=[⟨[],R,0,false⟩,⟨R,R,0,false⟩]) (by simp) (e:=R) rfl E b 0 hf hl
 have hin:Wf ⟨[],[⟨R,R,0,false⟩]⟩:=⟨⟨_,_,rfl,Nat.le_refl _⟩,(by intro t ht;cases ht),λf hf=>by
  obtain rfl:=List.mem_singleton.1 hf;exact⟨h2,h2⟩⟩
 have hsm:=tyL_ok hE b hf _ hin;unfold qB at hu;have e0:(⟨(⟨[],[]⟩:Ts).st,⟨R,R,(⟨[],[]⟩:Ts).st.length,false⟩::(⟨[],[]⟩:Ts).fs⟩:Ts)=⟨[],[⟨R,R,0,false⟩]⟩:=rfl;rw[e0]at hu;cases hb:tyL E b ⟨[],[⟨R,R,0,false⟩]⟩with
 |error k=>rw[hb]at hu;cases hu
 |ok s1=>
   rw[hb]at hu hsm;obtain⟨_,⟨g,f,r,x1,x2,x3,x4,x5⟩,_⟩:=hsm;cases x1;replace x4:f.ends=R:=x4;replace x5:f.h=0:=x5;obtain⟨a1,a2⟩:=hx _ _ ⟨rfl,rfl⟩ hb;change endT0 s1=_ at hu;unfold endT0 at hu;rw[x2]at hu
   dsimp only at hu
   rw[x4]at hu;cases hp:qP R s1 with
   |error k=>rw[hp]at hu;cases hu
   |ok s2=>
     rw[hp]at hu;change (if s2.st.length=f.h then Except.ok (⟨s2.st,[]⟩:Ts)else .error 60)=_ at hu
     by_cases hq:s2.st.length=f.h
     case neg=>rw[if_neg hq]at hu;cases hu
     obtain⟨b1,b2⟩:=ex_popL (T:=[⟨[],R,0,false⟩,⟨R,R,0,false⟩]) R s1 s2 a1 hp;have hz:s2.st=[]:=List.eq_nil_of_length_eq_zero (by omega)
     have k1:qB (tyL E b) R R ⟨[],[⟨[],R,0,false⟩,⟨R,R,0,false⟩]⟩=.ok ⟨[],[⟨[],R,0,false⟩,⟨R,R,0,false⟩]⟩:=by
      rw[block_in (B:=tyL E b) (goes:=R) (R:=R) (st:=[]) (fs:=[⟨[],R,0,false⟩,⟨R,R,0,false⟩]) (s1:=ext [⟨[],R,0,false⟩,⟨R,R,0,false⟩] s1) (s2:=ext [⟨[],R,0,false⟩,⟨R,R,0,false⟩] s2) (f:=f) (r:=[⟨[],R,0,false⟩,⟨R,R,0,false⟩]) a2 (by unfold ext;rw[x2];rfl) x4 b2 hq]
      show Except.ok (⟨s2.st,_⟩:Ts)=_
      rw[hz]
     have k2:tyL E (.cons 2 (R.headD 0) 0 0 [] b .nil .nil) ⟨[],[⟨[],R,0,false⟩,⟨R,R,0,false⟩]⟩=.ok ⟨R.reverse,[⟨[],R,0,false⟩,⟨R,R,0,false⟩]⟩:=by
      rw[ty2 (.inl rfl),if_pos rfl,hr,k1]
      show Except.ok (zL R ⟨[],_⟩)=_
      unfold zL;rw[List.append_nil]
     have k3:qB (tyL E (.cons 2 (R.headD 0) 0 0 [] b .nil .nil)) [] R ⟨[],[⟨R,R,0,false⟩]⟩=.ok ⟨[],[⟨R,R,0,false⟩]⟩:=
      block_in (st:=[]) (f:=⟨[],R,0,false⟩) k2 rfl rfl (pop_end h1 rfl) rfl
     have k4:tyL E (loopB (R.headD 0) b) ⟨[],[⟨R,R,0,false⟩]⟩=.ok ⟨R.reverse,[⟨R,R,0,false⟩]⟩:=by
      unfold loopB;rw[ty2 (.inr rfl),if_neg (by decide),hr,k3]
      show Except.ok (zL R ⟨[],_⟩)=_
      unfold zL;rw[List.append_nil]
     exact⟨_,block_in (st:=[]) (f:=⟨R,R,0,false⟩) k4 rfl rfl (pop_end h1 rfl) rfl⟩
theorem loop_where{m:Md}{j:Nat}{ty:Int}{lo:List Int}{b:Il}(h:m.funcs[j]? =some (ty,lo,b))(hv:Vd m)(c':zU (vE m j (ty,lo,loopB ((m.types.getD ty.toNat ([],[])).2.headD 0) b))=0)(hl:xF b 0=false):Vd (vE m j (ty,lo,loopB ((m.types.getD ty.toNat ([],[])).2.headD 0) b)):=by
 have c:=cm_of hv.c;have hm:=List.mem_of_getElem? h;obtain⟨_,_,f3,_,f5,_⟩:=c.funcs _ hm;have ht:(∀x∈(tyF m (ty,lo,b)).1,tyo x)/\∀x∈(tyF m (ty,lo,b)).2,tyo x:=xG (P:=λt=>(∀x∈t.1,tyo x)/\∀x∈t.2,tyo x) (types_ok c) ⟨(by intro x hx;cases hx),(by intro x hx;cases hx)⟩ _;have ht2:(tyF m (ty,lo,b)).2.length<=1:=xG (P:=λt=>t.2.length<=1) (types_r hv.types) (by simp) _;have hh:=mBody_head (f':=(ty,lo,loopB ((m.types.getD ty.toNat ([],[])).2.headD 0) b)) h rfl (c'.trans hv.c.symm);have hft:=mBody_funcT (f':=(ty,lo,loopB ((m.types.getD ty.toNat ([],[])).2.headD 0) b)) h rfl;refine⟨c',hv.types,?_,hv.parts,?_,?_,λfn hfn=> ?_⟩
 . unfold idxV;rw[mBody_idx (f':=(ty,lo,loopB ((m.types.getD ty.toNat ([],[])).2.headD 0) b)) h rfl];exact hv.idx
 . rw[mBody_exports (f':=(ty,lo,loopB ((m.types.getD ty.toNat ([],[])).2.headD 0) b)) h rfl];exact hv.exports
 . rw[hft];exact hv.fills
 . rw[hft]
   rcases List.mem_or_eq_of_mem_set (show fn∈m.funcs.set j _ from hfn)with q |rfl
   . exact hv.bodies fn q
   . exact loop_ok (ev_ok c ht.1 f3) ht2 ht.2 f5 hl (hv.bodies _ hm)
end Go.Proofs.YtacohbllbjgdgaaGreatDoor
namespace Go.Proofs.YtacohbllbjgdgaaGreatDoor
open Go.RowKit
theorem fv_ret{n t:Nat}{f:Nat->Value}{v:Value}(h:t<n):(Fv n (upv f t v)).tmps.getD t undef=v:=by rw[Array.getD_eq_getD_getElem?];exact fv_get h (if_pos rfl)
theorem dstB_get{D:Nat->Nat}{ops:Array Oper}{s i:Nat}(h:dstB D ops s=true)(hi:i<s):∃o,ops[i]? =some o/\o.dst=some (D i):=by
 unfold dstB at h;have:=List.all_eq_true.1 h i (List.mem_range.2 hi);cases ho:ops[i]? with
 |none=>rw[ho]at this;cases this
 |some o=>rw[ho]at this;exact⟨o,rfl,beq_iff_eq.1 this⟩
theorem region_listL{P:Program}{Q:Exit->Act->World->Prop}{id:Nat}{l:List Oper}{f0:Nat->Value}{w:World}(hmix:P.follows .mixedOrders=true)(n lo s:Nat)(vs:List Value)(hs:l.length=s+1)(hsv:vs.length=s)(hn:lo+s<=n)(hdst:dstB (λj=>lo+j) l.toArray s=true)(hq:ordB l.toArray (s+1)=true)(hd:difB (λj=>lo+j) s=true)(hl:lastB l.toArray s=true)(hg:guardsB (l.take s)=true)(step:∀f w',Below w.heap.size w w'->(∀t,(t<lo\/lo+s<=t)->f t=f0 t)->StepAll P Q n lo vs f w' lo (l.take s) vs)(last:∀f w',Below w.heap.size w w'->(∀t,(t<lo\/lo+s<=t)->f t=f0 t)->(∀j,j<s->f (lo+j)=vs.getD j undef)->∃o,l[s]? =some o/\o.guard=none/\∀K':Act->World->Prop,(∀a u,Q .normal a u->K' a u)->Oper.wp P o (Fv n f) w' K' Q):(Code.region id l.toArray true).wp P Q (Fv n f0) w:=by
 refine region_last hmix n s (λj=>lo+j) (by simpa using hs) hdst hq hd hl (λj=>pwEq (vs.getD j undef)) (λi hi f w' hb ho hv=> ?_) (λf w' hb ho hv=> ?_)
 . have hoth:∀t,(t<lo\/lo+s<=t)->f t=f0 t:=λt ht=>ho t λj hj=>by show lo+j≠t;omega
   have htk:(l.take s)[i]? =l[i]? :=List.getElem?_take_of_lt hi;obtain⟨o,hoi⟩:∃o,l[i]? =some o:=⟨_,List.getElem?_eq_getElem (by omega)⟩
   have hoa:l.toArray[i]? =some o:=(by simpa using hoi)
   obtain⟨v,hvi,h⟩:=stepAll_at (step f w' hb hoth) i o (htk.trans hoi);obtain⟨o',ho',hlt⟩:=ordB_at hq (show i<s+1 by omega);obtain rfl:o=o':=Option.some.inj (hoa.symm.trans ho');obtain⟨o3,ho3,hdo⟩:=dstB_get hdst hi;obtain rfl:o=o3:=Option.some.inj (hoa.symm.trans ho3);have hne:Needs lo vs f o.after.toList:=needs_of λe he hb=>hv _ (depB_of hoi he hb);have hvv:vs.getD i undef=v:=(by rw[List.getD_eq_getElem?_getD,hvi];rfl)
   have hgd:∀g b,o.guard=some (g,b)->g<i/\f (lo+g)=vs.getD g undef/\(l.toArray[g]?).bind (·.dst)=some (lo+g):=λg b hgb=>by
    have:=List.all_eq_true.1 hg o (List.mem_of_getElem? (htk.trans hoi));rw[hgb]at this;simp only[Array.any_eq_true',Bool.and_eq_true,beq_iff_eq]at this;obtain⟨e,he,rfl,hb⟩:=this;have hl:=hlt e he;obtain⟨o2,ho2,hd2⟩:=dstB_get hdst (show e.on<s by omega);exact⟨hl,hv _ (depB_of hoi (by simpa using he) hb),by rw[ho2];exact hd2⟩
   unfold StepL;refine wpOp_step hoa λK' hK'=> ?_;have hK2:∀a u,a=Fv n (upv f (lo+i) v)/\Below w'.heap.size w' u->K' a u:=λa u h=>hK' a u ⟨v,h.1,hvv.symm,h.2⟩;cases h with
   |run hg h k=>rw[if_pos (wanted_none hg)];exact h hne K' hK2
   |runG hgg hvg h k=>obtain⟨h1,h2,h3⟩:=hgd _ _ hgg;rw[if_pos (by rw[wanted_some hgg h3 (by omega) (h2.trans hvg)];simp)];exact h hne K' hK2
   |skip hgg hvg hc k=>obtain⟨h1,h2,h3⟩:=hgd _ _ hgg;rw[if_neg (by rw[wanted_some hgg h3 (by omega) (h2.trans hvg),hc];decide),hdo];exact hK2 _ _ ⟨fv_put _ _,Below.refl _ _⟩
 . have hoth:∀t,(t<lo\/lo+s<=t)->f t=f0 t:=λt ht=>ho t λj hj=>by show lo+j≠t;omega
   obtain⟨o,ho9,hgn,h⟩:=last f w' hb hoth hv;refine wpOp_step (by simpa using ho9) λK' hK'=> ?_;rw[if_pos (wanted_none hgn)];exact h K' hK'
end Go.Proofs.YtacohbllbjgdgaaGreatDoor
