/- The law's nops. -/
import Derived.Test.YtacohbllbjgdgaaGreatDoorPa
import Derived.Test.YtacohbllbjgdgaaGreatDoorCf
set_option linter.all false
set_option maxRecDepth 100000
set_option maxHeartbeats 4000000
namespace Go.Proofs.YtacohbllbjgdgaaGreatDoor
open Go.RowKit
def IlRn (R:Nat->Prop) (w:World) (ao:Option Addr) (i:Nat) (l:Il):Prop:=l=.nil\/∃b o,ao=some ⟨b,o,none⟩/\R b/\IlR R w b (o+i*7) l
def Rg (R:Nat->Prop) (s:Nat) (b:Nat):Prop:=(R b/\b<s)\/s<=b
def NopsC (l:Il):Prop:=∀(R:Nat->Prop) (ao:Option Addr) (c:Nat) (w:World) (k:Int),l.len<=1600->Sml l->SlR R w ao l→-1000000<=k-(wt l:Int)->k<=9223372036854775807->
 Calls Tryz.prog 18 #[.slice ao l.len c,.int .i64 k] w λe w'=>∃ao' c',e=.returned (.tuple #[.slice ao' (qI l k).1.len c',.int .i64 (qI l k).2])/\SlR (Rg R w.heap.size) w' ao' (qI l k).1/\(qI l k).1.len<=3200/\Below w.heap.size w w'
theorem wrapk(x:Int)(h1: -2000000<=x)(h2:x<=9223372036854775807):IntKind.i64.wrap x=x:=by simp[IntKind.wrap,IntKind.bits,IntKind.signed];omega
def nopV:List Value:=[.int .i64 1,.int .i64 0,.int .i64 0,.int .i64 0,.slice none 0 0,.slice none 0 0,.slice none 0 0]
def nopE:ERec:=⟨1,0,0,0,[],.nil,.nil,none,0,none,0,none,0⟩
theorem nops_len2:∀(l:Il) (k:Int),(qI l k).1.len<=2*l.len
 |.nil,k=>Nat.le_refl _
 |.cons op x y n ls body els rest,k=>by
   have:=nops_len2 rest (qI els (qI body (k-1)).2).2;unfold qI
   dsimp only
   split<;>simp only[nop0,Il.len]<;>omega
theorem nops_k:∀(l:Il) (k:Int),k-(wt l:Int)<=(qI l k).2/\(qI l k).2<=k
 |.nil,k=>by unfold qI wt;omega
 |.cons op x y n ls body els rest,k=>by
   have h1:=nops_k body (k-1);have h2:=nops_k els (qI body (k-1)).2;have h3:=nops_k rest (qI els (qI body (k-1)).2).2;unfold qI
   dsimp only
   unfold wt;omega
theorem nops_step(l:Il)(hs:Sub NopsC l):NopsC l:=by
 intro R ao c w k hl hsm hw hk0 hk1;obtain⟨N,hN⟩:∃N,l.len=N:=⟨_,rfl⟩
 have hw0:IlRn (λb=>R b/\b<w.heap.size) w ao 0 l:=by
  rcases hw.keep (S:=λb=>R b/\b<w.heap.size) ⟨λ_ _ _=>rfl,λb h1 h2=>⟨h1,h2⟩⟩with h |⟨b,o,e,h1,h2⟩
  . exact .inl h
  . exact .inr ⟨b,o,e,h1,by simpa using h2⟩
 obtain⟨Z,hZ⟩:∃Z,Z=qI l k:=⟨_,rfl⟩
 have hZl:Z.1.len<=3200:=(by rw[hZ];have:=nops_len2 l k;omega)
 rw[hN]at hl ⊢;rw[<-hZ];replace hZl:=zh hZl;go_enter Tryz.func18,Tryz.ntmps18;go_wp2_with fail
 go_loopw [1,6,7] (λvk vo vi wr=>∃(i:Nat) (r:Il) (ts:List ERec) (k':Int),vi=.int .i64 i/\vk=.int .i64 k'/\i+r.len=N/\ts.length<=2*i/\Hid (Below w.heap.size w wr)/\Hid (IlRn (λb=>R b/\b<w.heap.size) w ao i r)/\Hid (Sub NopsC r)/\Hid (Sml r)/\
  Hid (Z.1=vO ts (qI r k').1/\Z.2=(qI r k').2)/\Hid (-1000000<=k'-(wt r:Int)/\k'<=9223372036854775807)/\
  Hid (wr.ownsRow w.heap.size 49 7 vo ts.length (ts.flatMap eV))/\Hid (∀t∈ts,EOk (λb=>Rg R w.heap.size b/\some b≠vo.ownBlock) wr t)) (λ_ _ vi _=>N-(intOf vi).toNat)
 case atStart=>exact⟨0,l,[],k,rfl,rfl,by omega,by simp,zh (Below.refl _ _),zh hw0,zh hs,zh hsm,zh ⟨by rw[hZ];rfl,by rw[hZ]⟩,zh ⟨hk0,hk1⟩,zh (World.ownsRow_nil _ _ _ _),zh (λt ht=>by cases ht)⟩
 case round=>
  clear hw hw0 hZ hk0 hk1;obtain⟨i,r,ts,k',rfl,rfl,hi,hts,hb,hr,hsub,hsml,hli,hkk,hown,hok⟩:=hrel;cases r with
  |nil=>
    have hiN:i=N:=(by simpa[Il.len]using hi)
    obtain⟨z1,z2⟩:=hli.out;replace z1:Z.1=vO ts .nil:=z1;replace z2:Z.2=k':=z2;have hln:Z.1.len=ts.length:=(by rw[z1,ilOf_len];rfl)
    have hfin:∃ao' c',u6=.slice ao' Z.1.len c'/\SlR (Rg R w.heap.size) wr ao' Z.1:=by
     rcases hown.out.2 with⟨h1,h2⟩ |⟨g,cap,cur,h1,h2,h3,_⟩
     . have hts0:ts=[]:=List.eq_nil_of_length_eq_zero h2;refine⟨none,0,by rw[h1,hln,h2],.inl ?_⟩;rw[z1,hts0];rfl
     . refine⟨some ⟨g,0,none⟩,cap,by rw[h1,hln],.inr ⟨g,0,rfl,.inr h2,?_⟩⟩;rw[z1];refine row_il ts 0 (λj u hj=> ?_) (λt ht=>(hok.out t ht).keep ⟨λ_ _ _=>rfl,λb h _=>h.1⟩);have:=hown.out.cells (g:=g) (by rw[h1];rfl) j u hj;have e:(⟨g,0,none⟩:Addr).add j=⟨g,0+j,none⟩:=(by unfold Addr.add;split<;>simp_all)
       rw[e]at this;exact this
    obtain⟨ao',c',rfl,hfin⟩:=hfin;have hfin:=zh hfin;have hz2:=zh z2;subst hiN;clear hok hown hli z1 z2 hln hkk;go_wp2;go_ret2;refine⟨ao',c',?_,hfin.out,hZl.out,hb.out⟩
    show Ending.returned (.tuple #[.slice ao' Z.1.len c',.int .i64 k'])=_
    rw[hz2.out]
  |cons op x y n ls body els rest=>
    have hlen:i+(rest.len+1)=N:=hi;have hlt:i<N:=(by omega)
    obtain⟨b,o,rfl,hRb,hcells,⟨a4,k4,q4,i4⟩,⟨a5,k5,q5,l5,i5⟩,⟨a6,k6,q6,l6,i6⟩,hrest⟩:∃b o,ao=some ⟨b,o,none⟩/\(R b/\b<w.heap.size)/\IlR (λb=>R b/\b<w.heap.size) w b (o+i*7) (.cons op x y n ls body els rest):=by
     rcases hr.out with h |⟨b,o,e,h1,h2⟩
     . cases h
     . exact⟨b,o,e,h1,h2⟩
    obtain⟨q0,q1,q2,q3⟩:=hcells;have hr2:Hid (IlRn (λb=>R b/\b<w.heap.size) w (some ⟨b,o,none⟩) (i+1) rest):=zh (.inr ⟨b,o,rfl,hRb,by rw[show o+(i+1)*7=o+i*7+7 by omega];exact hrest⟩);have hi4:=zh i4;have hi5:Hid (SlR (λb=>R b/\b<w.heap.size) w a5 body):=zh i5;have hi6:Hid (SlR (λb=>R b/\b<w.heap.size) w a6 els):=zh i6;obtain⟨m1,m2,m3,m4,m5,m6⟩:=hsml.out;have hm6:=zh m6;obtain⟨B1,hB1⟩:∃q,q=qI body (k'-1):=⟨_,rfl⟩
    obtain⟨B2,hB2⟩:∃q,q=qI els B1.2:=⟨_,rfl⟩
    have hkb:B1.2<=k'/\k'-1-(wt body:Int)<=B1.2/\B2.2<=B1.2/\B1.2-(wt els:Int)<=B2.2:=by have h1:=nops_k body (k'-1);have h2:=nops_k els B1.2;rw[<-hB1]at h1;rw[<-hB2]at h2;omega
    have hwt:wt (.cons op x y n ls body els rest)=1+ls.length/10+wt body+wt els+wt rest:=rfl;obtain⟨hkk0,hkk1⟩:=hkk.out;rw[hwt]at hkk0
    have hz:Z.1=vO ts (if k'=0 then nop0 (.cons op x y n ls B1.1 B2.1 (qI rest B2.2).1)else .cons op x y n ls B1.1 B2.1 (qI rest B2.2).1)/\Z.2=(qI rest B2.2).2:=by obtain⟨z1,z2⟩:=hli.out;unfold qI at z1 z2;rw[<-hB1,<-hB2]at z1 z2;exact⟨z1,z2⟩
    obtain⟨ie,hie,hze,hse,hbe⟩:=info_parts info45;have hwk:IntKind.i64.wrap (k'-1)=k'-1:=wrapk _ (by omega) (by omega);have hkR:Hid (-1000000<=B2.2-(wt rest:Int)/\B2.2<=9223372036854775807):=zh (by omega);have hkB: -1000000<=k'-1-(wt body:Int)/\k'-1<=9223372036854775807:=(by omega)
    have hkE: -1000000<=B1.2-(wt els:Int)/\B1.2<=9223372036854775807:=(by omega)
    have htl:ts.length<=3200:=(by omega)
    replace hB1:=zh hB1;replace hB2:=zh hB2
    have hqq:Hid (w.cell? ⟨b,o+i*7,none⟩=some (.int .i64 op)/\w.cell? ⟨b,o+i*7+1,none⟩=some (.int .i64 x)/\w.cell? ⟨b,o+i*7+2,none⟩=some (.int .i64 y)/\w.cell? ⟨b,o+i*7+3,none⟩=some (.int .i64 n)/\
     w.cell? ⟨b,o+i*7+4,none⟩=some (.slice a4 ls.length k4)/\w.cell? ⟨b,o+i*7+5,none⟩=some (.slice a5 body.len k5)/\w.cell? ⟨b,o+i*7+6,none⟩=some (.slice a6 els.len k6)):=zh ⟨q0,q1,q2,q3,q4,q5,q6⟩
    clear hkk hkk0 hkk1 hli hr hsml q0 q1 q2 q3 q4 q5 q6 i4 i5 i6 hrest hRb m1 m6 hwt hkb
    by_cases hk':k'=0
    case' pos=>
     rw[if_pos hk']at hz;have hd:(k'==0)=true:=beq_iff_eq.2 hk';clear hk'
     go_upto_region 7 with(first |(
      at_builtin
      refine wpList_append_lies _ rfl _ _ _ rfl w.heap.size 49 ie _ 7 104 Tryz.underlying45 hie hze hse hbe rfl (by omega) u6 ts.length (ts.flatMap eV) (by rfl) (hown.out.alloc _)
       ⟨wr.heap.size,0,none⟩ 1 1 nopV (by rfl) (by rfl)
       (World.news_of_block (cs:= #[.int .i64 1,.int .i64 0,.int .i64 0,.int .i64 0,.slice none 0 0,.slice none 0 0,.slice none 0 0]) (t:=49) (fr:=(0,0)) (heap_alloc_new _ _)) (by intro u hu;simp only[nopV,List.mem_cons,List.mem_nil_iff,or_false]at hu;rcases hu with rfl |rfl |rfl |rfl |rfl |rfl |rfl<;>rfl)
       (by omega) (by unfold maxLen;omega) (by omega) (by have:=hb.out.size;simp;omega) (wr.heap.size+1) (by simp) ?_
      intro g cap w1 hown1 hgrow hat hlt1))
     have hal:Below wr.heap.size wr (wr.alloc (.cells #[.int .i64 1,.int .i64 0,.int .i64 0,.int .i64 0,.slice none 0 0,.slice none 0 0,.slice none 0 0] 49)):=Below.of_alloc _ _;have hlw:=hb.out.size;have hgg:u6.ownBlock=some g\/(wr.alloc (.cells #[.int .i64 1,.int .i64 0,.int .i64 0,.int .i64 0,.slice none 0 0,.slice none 0 0,.slice none 0 0] 49)).heap.size<=g:=hat.imp id (λh=>by rw[h];simp);have hrow:∀q,u6.ownBlock=some q->w.heap.size<=q/\q<wr.heap.size:=λq e=>hown.out.lt q e
     have hk:KeepsR (λb=>Rg R w.heap.size b/\some b≠u6.ownBlock) (λb=>Rg R w.heap.size b/\some b≠some g) wr w1:=by
      refine⟨λb hr hl=>(hgrow.block b (by simp;omega) hr.2).trans (hal.block b hl),λb hr hl=>⟨hr.1,λe=> ?_⟩⟩;have e:=Option.some.inj e
      rcases hgg with h |h
      . exact hr.2 (by rw[h,e])
      . simp at h;omega
     have hbf:Hid (Below w.heap.size w w1):=zh ((hb.out.trans (hal.mono hb.out.size)).grown hgrow (by have:=hal.size;omega) (λk e=>(hrow k e).1));obtain⟨ts1,hts1⟩:∃q,q=ts++[nopE]:=⟨_,rfl⟩
     have hlen1:ts1.length=ts.length+1:=(by rw[hts1];simp)
     have hown2:Hid (w1.ownsRow w.heap.size 49 7 (.slice (some ⟨g,0,none⟩) (ts.length+1) cap) ts1.length (ts1.flatMap eV)):=zh (by rw[hlen1,hts1,List.flatMap_append];simpa[eV,nopE,nopV,Il.len]using hown1)
     have hok2:Hid (∀t∈ts1,EOk (λb=>Rg R w.heap.size b/\some b≠(Value.slice (some ⟨g,0,none⟩) (ts.length+1) cap).ownBlock) w1 t):=zh (by
      intro t ht;rw[hts1]at ht
      rcases List.mem_append.1 ht with h |h
      . exact(hok.out t h).keep hk
      . obtain rfl:=List.mem_singleton.1 h;exact⟨⟨Nat.zero_le _,.inl rfl⟩,Nat.zero_le _,.inl rfl,Nat.zero_le _,.inl rfl⟩)
     have hz2:Hid (Z.1=vO ts1 (.cons op x y n ls B1.1 B2.1 (qI rest B2.2).1)/\Z.2=(qI rest B2.2).2):=zh ⟨by rw[hz.1,hts1,ilOf_snoc];rfl,hz.2⟩;have htl1:ts1.length<=2*i+1:=(by omega)
     clear hz hown hok hb hts htl hal hlw hgg hrow hk hown1 hgrow hat hlt1 hts1 hlen1 hd;generalize Value.slice (some ⟨g,0,none⟩) (ts.length+1) cap=v6 at hown2 hok2 ⊢
    case' neg=>
     rw[if_neg hk']at hz
     go_upto_region 7 with(fail)
     obtain⟨w1,rfl⟩:∃q,q=wr:=⟨_,rfl⟩
     obtain⟨v6,rfl⟩:∃q,q=u6:=⟨_,rfl⟩
     obtain⟨ts1,rfl⟩:∃q,q=ts:=⟨_,rfl⟩
     have hbf:=hb;have hown2:=hown;have hok2:=hok;have hz2:=zh hz;have htl1:ts1.length<=2*i+1:=(by omega)
     clear hz hown hok hb hts htl hk'
    all_goals
     obtain⟨p,hp⟩:∃p,p=w1.heap.size:=⟨_,rfl⟩
     have hlw:w.heap.size<=p:=(by rw[hp];exact hbf.out.size)
     obtain⟨q0,q1,q2,q3,q4,q5,q6⟩:=hqq.out;have kb:=zA hbf.out;have d0:=kb _ _ q0;have d1:=kb _ _ q1;have d2:=kb _ _ q2;have d3:=kb _ _ q3;have d4:=kb _ _ q4;have d5:=kb _ _ q5;have d6:=kb _ _ q6;clear q0 q1 q2 q3 q4 q5 q6 kb hqq;obtain⟨W0,hW0⟩:∃W0,W0=w1.alloc (.cells #[.int .i64 op,.int .i64 x,.int .i64 y,.int .i64 n,.slice a4 ls.length k4,.slice a5 body.len k5,.slice a6 els.len k6] 49):=⟨_,rfl⟩
     have hbW:Below p w1 W0:=(by rw[hW0,hp];exact Below.of_alloc _ _)
     have hsz:W0.heap.size=p+1:=(by rw[hW0,hp];simp)
     have hbx:Hid (Box W0 p #[.int .i64 op,.int .i64 x,.int .i64 y,.int .i64 n,.slice a4 ls.length k4,.slice a5 body.len k5,.slice a6 els.len k6]):=zh λj v e=>by rw[hW0,hp];exact(World.cell?_alloc_at _ _ _ j rfl).trans e
     have hfr:Hid (∀j,W0.frozen? ⟨p,j,none⟩=false):=zh λj=>by rw[hW0,hp];exact World.frozen?_alloc_at _ _ _ _ (by simp)
     have hb0:Below w.heap.size w W0:=hbf.out.trans (hbW.mono hlw);have hs5:=zh (hi5.out.keep (KeepsR.below hb0));have hs6:=hi6.out.keep (KeepsR.below hb0);have hs4:=hi4.out.keep (KeepsR.below hb0)
     go_upto_region 8 with(fail)
     rw[<-hW0,<-hp];clear d0 d1 d2 d3 d4 d5 d6 hW0;have z5:W0.cell? ⟨p,5,none⟩=some (.slice a5 body.len k5):=hbx.out 5 _ rfl;replace hs6:=zh hs6;replace hs4:=zh hs4;replace hb0:=zh hb0;replace hbW:=zh hbW;replace hsz:=zh hsz;replace hp:=zh hp;go_wp2_with fail;refine(hsub.out.1 _ a5 k5 W0 (k'-1) m2 m4 hs5.out hkB.1 hkB.2).mono ?_;rw[<-hB1.out];rintro e u1 ⟨ao5,c5',rfl,R5,n5,B5⟩;have hb5:Below p w1 u1:=hbW.out.trans (B5.mono (by rw[hsz.out];omega));have t6:u1.cell? ⟨p,6,none⟩=some (.slice a6 els.len k6):=zA B5 _ _ (hbx.out 6 _ rfl);have t5:u1.cell? ⟨p,5,none⟩=some (.slice a5 body.len k5):=zA B5 _ _ z5;have ff:∀j,u1.frozen? ⟨p,j,none⟩=false:=λj=>(B5.frozen (p:=⟨p,j,none⟩) (by rw[hsz.out];show p<p+1;omega)).trans (hfr.out j);have ff5:=ff 5;obtain⟨W1,hW1⟩:∃q,q=u1.setCell ⟨p,5,none⟩ (.slice ao5 B1.1.len c5'):=⟨_,rfl⟩
     have hfw:∀j,W1.frozen? ⟨p,j,none⟩=false:=λj=>by rw[hW1,World.frozen?_setCell];exact ff j
     have g5:W1.cell? ⟨p,5,none⟩=some (.slice ao5 B1.1.len c5'):=(by rw[hW1];exact xM t5)
     have g:∀j v,j≠5->(#[.int .i64 op,.int .i64 x,.int .i64 y,.int .i64 n,.slice a4 ls.length k4,.slice a5 body.len k5,.slice a6 els.len k6]:Array Value)[j]? =some v->W1.cell? ⟨p,j,none⟩=some v:=λj v hj e=>by
      rw[hW1];exact zE (zA B5 _ _ (hbx.out j v e)) (.inr (λq=>hj q.symm))
     have hblk:∀q,q≠p->W1.heap[q]? =u1.heap[q]? :=λq hq=>by rw[hW1];exact Below.heap_setCell u1 ⟨p,5,none⟩ _ q hq
     have hu1:W1.heap.size=u1.heap.size:=(by rw[hW1];simp[World.setCell])
     have hsu:p+1<=u1.heap.size:=(by rw[<-hsz.out];exact B5.size)
     have hbw:Below p w1 W1:=(by rw[hW1];exact hb5.setCell (p:=⟨p,5,none⟩) (Nat.le_refl _) _)
     have kR:KeepsR (λb=>R b/\b<w.heap.size) (λb=>R b/\b<w.heap.size) W0 W1:=⟨λq h1 h2=>(hblk q (by omega)).trans (B5.block q h2),λq h1 _=>h1⟩
     have hs6':=hs6.out.keep kR;have hs4':=hs4.out.keep kR
     have hs5':SlR (λb=>(R b/\b<w.heap.size)\/p<b) W1 ao5 B1.1:=R5.keep ⟨λq h1 h2=>hblk q (by rcases h1 with h1 |h1;omega;rw[hsz.out]at h1;omega),λq h1 h2=>by
      rcases h1 with h1 |h1
      . exact .inl h1.1
      . rw[hsz.out]at h1;exact .inr (by omega)⟩
     have g6:=g 6 _ (by decide) rfl;have gg:=zh g
     go_upto_region 9 with(fail)
     rw[<-hW1];clear hW1 t5 t6 ff ff5 z5 hblk g hb5 B5 kR R5;replace hs6':=zh hs6';replace hs4':=zh hs4';replace hs5':=zh hs5';replace hbw:=zh hbw;replace hfw:=zh hfw;replace hu1:=zh hu1;replace hsu:=zh hsu;replace g5:=zh g5;go_wp2_with fail;refine(hsub.out.2.1 _ a6 k6 W1 B1.2 m3 m5 hs6'.out hkE.1 hkE.2).mono ?_;rw[<-hB2.out];rintro e u2 ⟨ao6,c6',rfl,R6,n6,B6⟩;have hb6:Below p w1 u2:=hbw.out.trans (B6.mono (by rw[hu1.out];have:=hsu.out;omega));have t6:u2.cell? ⟨p,6,none⟩=some (.slice a6 els.len k6):=zA B6 _ _ g6;have ff6:u2.frozen? ⟨p,6,none⟩=false:=(B6.frozen (p:=⟨p,6,none⟩) (by rw[hu1.out];have:=hsu.out;show p<_;omega)).trans (hfw.out 6);obtain⟨W2,hW2⟩:∃q,q=u2.setCell ⟨p,6,none⟩ (.slice ao6 B2.1.len c6'):=⟨_,rfl⟩
     have y6:W2.cell? ⟨p,6,none⟩=some (.slice ao6 B2.1.len c6'):=(by rw[hW2];exact xM t6)
     have yy:∀j v,j≠6->W1.cell? ⟨p,j,none⟩=some v->W2.cell? ⟨p,j,none⟩=some v:=λj v hj e=>by
      rw[hW2];exact zE (zA B6 _ _ e) (.inr (λq=>hj q.symm))
     have y0:=yy 0 _ (by decide) (gg.out 0 _ (by decide) rfl);have y1:=yy 1 _ (by decide) (gg.out 1 _ (by decide) rfl);have y2:=yy 2 _ (by decide) (gg.out 2 _ (by decide) rfl);have y3:=yy 3 _ (by decide) (gg.out 3 _ (by decide) rfl);have y4:=yy 4 _ (by decide) (gg.out 4 _ (by decide) rfl);have y5:=yy 5 _ (by decide) g5.out;have hblk:∀q,q≠p->W2.heap[q]? =u2.heap[q]? :=λq hq=>by rw[hW2];exact Below.heap_setCell u2 ⟨p,6,none⟩ _ q hq
     have hu2:W2.heap.size=u2.heap.size:=(by rw[hW2];simp[World.setCell])
     have hbw2:Below p w1 W2:=(by rw[hW2];exact hb6.setCell (p:=⟨p,6,none⟩) (Nat.le_refl _) _)
     have hsu2:p+1<=u2.heap.size:=(by have:=hsu.out;have:=hu1.out;have:=B6.size;omega)
     have kR:KeepsR (λb=>R b/\b<w.heap.size) (λb=>R b/\b<w.heap.size) W1 W2:=⟨λq h1 h2=>(hblk q (by omega)).trans (B6.block q h2),λq h1 _=>h1⟩
     have hbw3:Below w1.heap.size w1 W2:=(by rw[<-hp.out];exact hbw2)
     have hE:EOk (λb=>(R b/\b<w.heap.size)\/p<b) W2 ⟨op,x,y,n,ls,B1.1,B2.1,a4,k4,ao5,c5',ao6,c6'⟩:=by
      refine⟨(hs4'.out.keep kR).keep ⟨λ_ _ _=>rfl,λq h _=>.inl h⟩,by show B1.1.len<=_;omega,?_,by show B2.1.len<=_;omega,?_⟩
      . exact hs5'.out.keep ⟨λq h1 h2=>(hblk q (by omega)).trans (B6.block q h2),λq h1 _=>h1⟩
      . exact R6.keep ⟨λq h1 h2=>hblk q (by have:=hsu.out;have:=hu1.out;rcases h1 with h1 |h1<;>omega),λq h1 h2=>by
         rcases h1 with h1 |h1
         . exact .inl h1.1
         . exact .inr (by have:=hsu.out;have:=hu1.out;omega)⟩
     obtain⟨t,ht⟩:∃t:ERec,t=⟨op,x,y,n,ls,B1.1,B2.1,a4,k4,ao5,c5',ao6,c6'⟩:=⟨_,rfl⟩
     rw[<-ht]at hE;have hev:Hid (eV t=[.int .i64 op,.int .i64 x,.int .i64 y,.int .i64 n,.slice a4 ls.length k4,.slice ao5 B1.1.len c5',.slice ao6 B2.1.len c6']):=zh (by rw[ht];rfl);have hz3:Hid (Z.1=vO (ts1++[t]) (qI rest B2.2).1/\Z.2=(qI rest B2.2).2):=zh ⟨by rw[hz2.out.1,ilOf_snoc,ht],hz2.out.2⟩;have hown4:=own_below hown2.out hbw3;have hrow:∀q,v6.ownBlock=some q->w.heap.size<=q/\q<p:=λq e=>by rw[hp.out];exact hown2.out.lt q e
     have hok4:Hid (∀t∈ts1,EOk (λb=>Rg R w.heap.size b/\some b≠v6.ownBlock) W2 t):=zh λt ht=>(hok2.out t ht).keep (KeepsR.below hbw3);have hbW2:Hid (Below w.heap.size w W2):=zh (hbf.out.trans (hbw2.mono hlw));have hlW2:w.heap.size<=W2.heap.size:=hbW2.out.size;have hpW2:p<W2.heap.size:=(by omega)
     go_upto_region 10 with(fail)
     rw[<-hW2];clear hW2 t6 ff6 yy hblk hb6 B6 kR R6 g6 gg ht hs4 hs5 hs6 hs4' hs5' hs6' hbw hbw2 hbw3 hfw hfr hbx hbW hb0 hu1 hu2 hsu hsu2 g5 hsz hown2 hok2 hz2 n5 n6;replace hE:=zh hE;replace hrow:=zh hrow
     go_wp2_with (first |(
      at_builtin
      refine wpList_append_lies _ rfl _ _ _ rfl w.heap.size 49 ie _ 7 104 Tryz.underlying45 hie hze hse hbe rfl (by omega) v6 ts1.length (ts1.flatMap eV) (by rfl) (hown4.alloc _)
       ⟨W2.heap.size,0,none⟩ 1 1 [.int .i64 op,.int .i64 x,.int .i64 y,.int .i64 n,.slice a4 ls.length k4,.slice ao5 B1.1.len c5',.slice ao6 B2.1.len c6'] (by rfl) (by rfl)
       (World.news_of_block (cs:= #[.int .i64 op,.int .i64 x,.int .i64 y,.int .i64 n,.slice a4 ls.length k4,.slice ao5 B1.1.len c5',.slice ao6 B2.1.len c6']) (t:=49) (fr:=(0,0)) (heap_alloc_new _ _)) (by intro u hu;simp only[List.mem_cons,List.mem_nil_iff,or_false]at hu;rcases hu with rfl |rfl |rfl |rfl |rfl |rfl |rfl<;>rfl)
       (by omega) (by unfold maxLen;omega) (by omega) (by simp;omega) (W2.heap.size+1) (by simp) ?_
      intro g cap w3 hown3 hgrow hat hlt3))
     rw[<-hev.out]at hown3;have hal:Below W2.heap.size W2 (W2.alloc (.cells #[.int .i64 op,.int .i64 x,.int .i64 y,.int .i64 n,.slice a4 ls.length k4,.slice ao5 B1.1.len c5',.slice ao6 B2.1.len c6'] 49)):=Below.of_alloc _ _;have hgg:v6.ownBlock=some g\/W2.heap.size<g:=hat.imp id (λh=>by rw[h];simp)
     have hk:∀Q:Nat->Prop,(∀b,Q b->Rg R w.heap.size b)->KeepsR (λb=>Q b/\some b≠v6.ownBlock) (λb=>Rg R w.heap.size b/\some b≠some g) W2 w3:=λQ hQ=>by
      refine⟨λb hr hl=>(hgrow.block b (by simp;omega) hr.2).trans (hal.block b hl),λb hr hl=>⟨hQ b hr.1,λe=> ?_⟩⟩;have e:=Option.some.inj e
      rcases hgg with h |h
      . exact hr.2 (by rw[h,e])
      . omega
     have hlen2:(ts1++[t]).length=ts1.length+1:=(by simp)
     have hown5:Hid (w3.ownsRow w.heap.size 49 7 (.slice (some ⟨g,0,none⟩) (ts1.length+1) cap) (ts1++[t]).length ((ts1++[t]).flatMap eV)):=zh (by rw[hlen2,List.flatMap_append];simpa using hown3)
     have hok5:Hid (∀s∈ts1++[t],EOk (λb=>Rg R w.heap.size b/\some b≠(Value.slice (some ⟨g,0,none⟩) (ts1.length+1) cap).ownBlock) w3 s):=zh (by
      intro s hs
      rcases List.mem_append.1 hs with h |h
      . exact(hok4.out s h).keep (hk _ λb h=>h)
      . obtain rfl:=List.mem_singleton.1 h;refine hE.out.keep ((hk (λb=>(R b/\b<w.heap.size)\/p<b) λb h=>h.imp id λq=>by omega).imp λb h1 h2=>⟨h1,λe=> ?_⟩);have:=hrow.out b e.symm;omega)
     have hbf2:Hid (Below w.heap.size w w3):=zh ((hbW2.out.trans (hal.mono hlW2)).grown hgrow (by have:=hal.size;omega) (λq e=>(hrow.out q e).1));have hsr:=zh hsub.out.2.2;clear hgg hk hal hgrow hat hlt3 hown3 hown4 hok4 hE hev hrow hsub hbW2 y0 y1 y2 y3 y4 y5 y6;go_wp2;exact⟨⟨i+1,rest,ts1++[t],B2.2,by simp,rfl,by omega,by simp;omega,hbf2,hr2,hsr,hm6,hz3,hkR,hown5,hok5⟩,by simp[intOf];omega⟩
theorem nops_any(l:Il):NopsC l:=Il.each nops_step l
end Go.Proofs.YtacohbllbjgdgaaGreatDoor
