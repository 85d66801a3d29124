/- The law's weigh: what it tells is small. -/
import Derived.Test.YtacohbllbjgdgaaGreatDoorMa
import Derived.Test.YtacohbllbjgdgaaGreatDoorMh
import Derived.Test.YtacohbllbjgdgaaGreatDoorZa
set_option linter.all false
set_option maxRecDepth 100000
set_option maxHeartbeats 4000000
namespace Go.Proofs.YtacohbllbjgdgaaGreatDoor
open Go.RowKit
def Sml:Il->Prop
 |.nil=>True
 |.cons _ _ _ _ ls body els rest=>ls.length<=20000/\body.len<=1600/\els.len<=1600/\Sml body/\Sml els/\Sml rest
def wt:Il->Nat
 |.nil=>0
 |.cons _ _ _ _ ls body els rest=>1+ls.length/10+wt body+wt els+wt rest
theorem wt_zero:∀{l:Il},l.len=0->wt l=0
 |.nil,_=>rfl
 |.cons ..,h=>by simp[Il.len]at h
structure WeighP (l:Il) (n r:Int):Prop where
 lo: -1<=r
 empty:l.len=0->r=n\/r= -1
 hi:0<l.len->r<=1500
 sml:0<=r->0<=n/\n+l.len<=r/\Sml l
 wts:0<=r->n+(wt l:Int)<=r
def WeighC (l:Il):Prop:=∀(ao:Option Addr) (c:Nat) (w:World) (d n:Int),l.len<=9223372036854775807->IlIn w ao 0 l->0<=d->d<=81→-1<=n->n<=4611686018427387904->
 Calls Tryz.prog 21 #[.slice ao l.len c,.int .i64 d,.int .i64 n] w λe w'=>∃r,e=.returned (.int .i64 r)/\WeighP l n r/\w=w'
theorem weigh_step(l:Il)(hs:Sub WeighC l):WeighC l:=by
 intro ao c w d n hl hw hd0 hd1 hn0 hn1;obtain⟨N,hN⟩:∃N,l.len=N:=⟨_,rfl⟩
 rw[hN]at hl ⊢;have hbad:WeighP l n (-1):=⟨by omega,λ_=>.inr rfl,λ_=>by omega,λh=>by omega,λh=>by omega⟩
 go_enter Tryz.func21,Tryz.ntmps21
 by_cases hg:n<0\/d>80
 . go_wp2;all_goals(go_ret;exact⟨_,rfl,hbad,rfl⟩)
 have hng:0<=n:=(by omega)
 have hdg:d<=80:=(by omega)
 clear hg;go_wp2_with fail;go_loopw [2,7] (λvn vi wr=>∃(i:Nat) (r:Il) (k:Int),vi=.int .i64 i/\vn=.int .i64 k/\wr=w/\i+r.len=N∧-1<=k/\k<=4611686018427387904/\Hid (IlIn w ao i r)/\Hid (Sub WeighC r)/\Hid ((i=0->k=n)/\(0<i->k<=1500)/\(0<=k->n+i<=k/\(Sml r->Sml l)/\n+(wt l:Int)<=k+(wt r:Int)))) (λ_ vi _=>N-(intOf vi).toNat)
 case atStart=>exact⟨0,l,n,rfl,rfl,rfl,by omega,by omega,by omega,zh hw,zh hs,zh ⟨λ_=>rfl,λh=>by omega,λ_=>⟨by omega,id,Int.le_refl _⟩⟩⟩
 case round=>
  obtain⟨i,r,k,rfl,rfl,rfl,hi,hk0,hk1,hr,hsub,hc⟩:=hrel
  by_cases hkn:k<0
  . have hk:k= -1:=(by omega)
    subst hk
    by_cases hiN:i<N
    . go_wp2;go_ret;exact⟨_,rfl,hbad,rfl⟩
    . go_wp2;go_ret;exact⟨_,rfl,hbad,rfl⟩
  cases r with
  |nil=>
    have hiN:i=N:=(by simpa[Il.len]using hi)
    have hfin:WeighP l n k:=by obtain⟨g1,g2,g3⟩:=hc.out;have g4:=g3 (by omega);exact⟨by omega,λh=>.inl (g1 (by omega)),λh=>g2 (by omega),λh=>⟨hng,by omega,g4.2.1 trivial⟩,λh=>by have:=g4.2.2;simp only[wt]at this;omega⟩
    subst hiN;clear hc;go_wp2;go_ret;exact⟨_,rfl,hfin,rfl⟩
  |cons op x y n' ls body els rest=>
    have hlen:i+(rest.len+1)=N:=hi;have hlt:i<N:=(by omega)
    obtain⟨b,o,a4,k4,a5,k5,a6,k6,rfl,hh,hrest⟩:=hr.out.head;obtain⟨c0,c1,c2,c3,c4,c5,c6,i4,l5,i5,l6,i6⟩:=hh;have hls:=i4.1;have hr2:=zh hrest;have hsr:=zh hsub.out.2.2;have hcb:=λ(m:Int) h1 h2=>zh (hsub.out.1 a5 k5 wr (d+1) m l5 i5 (by omega) (by omega) h1 h2);have hce:=λ(m:Int) h1 h2=>zh (hsub.out.2.1 a6 k6 wr (d+1) m l6 i6 (by omega) (by omega) h1 h2);have hc3:=zh (hc.out.2.2 (by omega));clear hr hrest hi hsub hc i4 i5 i6;obtain⟨q,hq⟩:∃q:Nat,ls.length/10=q:=⟨_,rfl⟩
    have hqe:(ls.length:Int).tdiv 10=(q:Int):=(by rw[<-hq];exact(Int.ofNat_tdiv _ _).symm)
    by_cases hbig:k+(1+(q:Int))>1500
    . go_wp2;go_ret;exact⟨_,rfl,hbad,rfl⟩
    obtain⟨k2,hk2⟩:∃k2,k+(1+(q:Int))=k2:=⟨_,rfl⟩
    have hls2:ls.length<=20000:=(by omega)
    -- the body
    have fin:∀k4:Int,-1<=k4->k4<=1500->(0<=k4->k2+(wt body:Int)+(wt els:Int)<=k4/\body.len<=1600/\Sml body/\els.len<=1600/\Sml els)->
     Hid ((i+1=0->k4=n)/\(0<i+1->k4<=1500)/\(0<=k4->n+(i+1:Nat)<=k4/\(Sml rest->Sml l)/\n+(wt l:Int)<=k4+(wt rest:Int))):=λk4 h1 h2 h3=>zh ⟨λh=>by omega,λ_=>h2,λh=>by
     obtain⟨g1,g2,g3,g4,g5⟩:=h3 h;have:=hc3.out.1;have hw:=hc3.out.2.2;simp only[wt]at hw;exact⟨by omega,λhrs=>hc3.out.2.1 ⟨hls2,g2,g4,g3,g5,hrs⟩,by omega⟩⟩
    have hne0: -1<=k2:=(by omega)
    have hne1:k2<=1500:=(by omega)
    by_cases hbz:body.len=0
    . have hbn:Sml body:=by
       cases body with
       |nil=>trivial
       |cons=>simp[Il.len]at hbz
      have H3:0<=k2->k2+(wt body:Int)<=k2/\body.len<=1600/\Sml body:=λ_=>⟨by rw[wt_zero hbz];omega,by omega,hbn⟩
      by_cases hneg:k2<0
      . exfalso;omega
      by_cases hez:els.len=0
      . have hen:Sml els:=by
         cases els with
         |nil=>trivial
         |cons=>simp[Il.len]at hez
        have hf:=fin k2 hne0 hne1 (λh=>⟨by rw[wt_zero hez];have:=(H3 h).1;omega,(H3 h).2.1,(H3 h).2.2,by omega,hen⟩);clear fin hc3;go_wp2
        go_roundw
        case rel=>exact⟨i+1,rest,k2,by simp,rfl,trivial,by omega,by omega,by omega,hr2,hsr,hf⟩
        case measure=>simp[intOf];omega
      go_wp2_with fail;refine(hce k2 hne0 (by omega)).out.mono ?_;rintro e w3 ⟨r2,rfl,P2,rfl⟩;have z0:=P2.lo;have z1:=P2.hi (by omega)
      have hf:=fin r2 z0 z1 (λh=>by
       obtain⟨g1,g2,g3⟩:=P2.sml h;have g4:=P2.wts h;obtain⟨f1,f2,f3⟩:=H3 g1;exact⟨by omega,f2,f3,by omega,g3⟩)
      clear fin hc3 P2;go_wp2
      go_roundw
      case rel=>exact⟨i+1,rest,r2,by simp,rfl,trivial,by omega,by omega,by omega,hr2,hsr,hf⟩
      case measure=>simp[intOf];omega
    go_wp2_with fail;refine(hcb k2 hne0 (by omega)).out.mono ?_;rintro e w2 ⟨r1,rfl,P1,rfl⟩;have y0:=P1.lo;have y1:=P1.hi (by omega)
    have H3:0<=r1->k2+(wt body:Int)<=r1/\body.len<=1600/\Sml body:=λh=>by
     have g4:=P1.wts h;obtain⟨g1,g2,g3⟩:=P1.sml h;exact⟨by omega,by omega,g3⟩
    clear P1
    by_cases hneg:r1<0
    . have hf:=fin r1 y0 y1 (λh=>by omega);clear fin hc3;go_wp2
      go_roundw
      case rel=>exact⟨i+1,rest,r1,by simp,rfl,trivial,by omega,by omega,by omega,hr2,hsr,hf⟩
      case measure=>simp[intOf];omega
    by_cases hez:els.len=0
    . have hen:Sml els:=by
       cases els with
       |nil=>trivial
       |cons=>simp[Il.len]at hez
      have hf:=fin r1 y0 y1 (λh=>⟨by rw[wt_zero hez];have:=(H3 h).1;omega,(H3 h).2.1,(H3 h).2.2,by omega,hen⟩);clear fin hc3;go_wp2
      go_roundw
      case rel=>exact⟨i+1,rest,r1,by simp,rfl,trivial,by omega,by omega,by omega,hr2,hsr,hf⟩
      case measure=>simp[intOf];omega
    go_wp2_with fail;refine(hce r1 y0 (by omega)).out.mono ?_;rintro e w3 ⟨r2,rfl,P2,rfl⟩;have z0:=P2.lo;have z1:=P2.hi (by omega)
    have hf:=fin r2 z0 z1 (λh=>by
     obtain⟨g1,g2,g3⟩:=P2.sml h;have g4:=P2.wts h;obtain⟨f1,f2,f3⟩:=H3 g1;exact⟨by omega,f2,f3,by omega,g3⟩)
    clear fin hc3 P2;go_wp2
    go_roundw
    case rel=>exact⟨i+1,rest,r2,by simp,rfl,trivial,by omega,by omega,by omega,hr2,hsr,hf⟩
    case measure=>simp[intOf];omega
theorem weigh_any(l:Il):WeighC l:=Il.each weigh_step l
def funP (t:Int×List Int×Il):Prop:=t.2.1.length<=200000/\t.2.2.len<=1600/\Sml t.2.2
def typP (t:List Int×List Int):Prop:=t.1.length<=40000/\t.2.length<=40000
def elmP (t:One×List Int):Prop:=t.2.length<=40000/\Sml t.1.il
def datP (t:One×ByteArray):Prop:=t.2.size<=300000/\Sml t.1.il
def gloP (t:Int×Bool×One):Prop:=Sml t.2.2.il
def wtF:List (Int×List Int×Il)->Nat
 | []=>0
 |f::r=>wt f.2.2+wtF r
theorem wtF_app:∀(l:List (Int×List Int×Il)) (f:Int×List Int×Il),wtF (l++[f])=wtF l+wt f.2.2
 | [],f=>by simp[wtF]
 |g::r,f=>by
   show wt g.2.2+wtF (r++[f])=wt g.2.2+wtF r+wt f.2.2
   rw[wtF_app r f];omega
structure Small (m:Md):Prop where
 l0:m.types.length<=5000
 l1:m.imports.length<=5000
 l2:m.funcs.length<=5000
 l3:m.tables.length<=5000
 l4:m.mems.length<=5000
 l5:m.globals.length<=5000
 l6:m.exports.length<=5000
 l7:m.start.length<=5000
 l8:m.elems.length<=5000
 l9:m.datas.length<=5000
 funcs:∀t∈m.funcs,funP t
 types:∀t∈m.types,typP t
 elems:∀t∈m.elems,elmP t
 datas:∀t∈m.datas,datP t
 globals:∀t∈m.globals,gloP t
 wts:wtF m.funcs<=1500
theorem take_all{α:Type}{P:α->Prop}{l:List α}{i:Nat}{x:α}(hx:l[i]? =some x)(h:∀t∈l.take i,P t)(hp:P x):∀t∈l.take (i+1),P t:=by
 intro t ht;rw[List.take_add_one,hx]at ht
 rcases List.mem_append.1 ht with h1 |h1
 . exact h t h1
 . simp at h1;subst h1;exact hp
theorem large_any(m:Md)(a0:Option Addr)(k0:Nat)(a1:Option Addr)(k1:Nat)(a2:Option Addr)(k2:Nat)(a3:Option Addr)(k3:Nat)(a4:Option Addr)(k4:Nat)(a5:Option Addr)(k5:Nat)(a6:Option Addr)(k6:Nat)(a7:Option Addr)(k7:Nat)(a8:Option Addr)(k8:Nat)(a9:Option Addr)(k9:Nat)(w:World)(h:MdAt w m a0 k0 a1 k1 a2 k2 a3 k3 a4 k4 a5 k5 a6 k6 a7 k7 a8 k8 a9 k9):Calls Tryz.prog 9 #[mdV m a0 k0 a1 k1 a2 k2 a3 k3 a4 k4 a5 k5 a6 k6 a7 k7 a8 k8 a9 k9] w λe w'=>∃L,e=.returned (.bool L)/\(L=false->Small m)/\Below w.heap.size w w':=by
 have HM:=zh (h.keep (zA ((Below.refl w.heap.size w).alloc (Nat.le_refl _) (.cells #[.slice a0 m.types.length k0,.slice a1 m.imports.length k1,.slice a2 m.funcs.length k2,.slice a3 m.tables.length k3,.slice a4 m.mems.length k4,.slice a5 m.globals.length k5,.slice a6 m.exports.length k6,.slice a7 m.start.length k7,.slice a8 m.elems.length k8,.slice a9 m.datas.length k9] 32))));have n0:=h.types.1;have n1:=h.imports.1;have n2:=h.funcs.1;have n3:=h.tables.1;have n4:=h.mems.1;have n5:=h.globals.1;have n6:=h.exports.1;have n7:=h.start.1;have n8:=h.elems.1;have n9:=h.datas.1;have hB0:Hid (Below w.heap.size w (w.alloc (.cells #[.slice a0 m.types.length k0,.slice a1 m.imports.length k1,.slice a2 m.funcs.length k2,.slice a3 m.tables.length k3,.slice a4 m.mems.length k4,.slice a5 m.globals.length k5,.slice a6 m.exports.length k6,.slice a7 m.start.length k7,.slice a8 m.elems.length k8,.slice a9 m.datas.length k9] 32))):=zh ((Below.refl _ _).alloc (Nat.le_refl _) _);clear h;unfold mdV;go_enter Tryz.func9,Tryz.ntmps9
 go_upto_region 1 with fail
 obtain⟨w0,hw0⟩:∃w0,w0=(w.alloc (.cells #[.slice a0 m.types.length k0,.slice a1 m.imports.length k1,.slice a2 m.funcs.length k2,.slice a3 m.tables.length k3,.slice a4 m.mems.length k4,.slice a5 m.globals.length k5,.slice a6 m.exports.length k6,.slice a7 m.start.length k7,.slice a8 m.elems.length k8,.slice a9 m.datas.length k9] 32)):=⟨_,rfl⟩
 rw[<-hw0];rw[<-hw0]at HM hB0;have hs0:w.heap.size<=w0.heap.size:=hB0.out.size;have y0:Hid (w0.cell? ⟨w.heap.size,0,none⟩=some (.slice a0 m.types.length k0)):=zh (by rw[hw0];exact World.cell?_alloc_at _ _ _ _ rfl);have y1:Hid (w0.cell? ⟨w.heap.size,1,none⟩=some (.slice a1 m.imports.length k1)):=zh (by rw[hw0];exact World.cell?_alloc_at _ _ _ _ rfl);have y2:Hid (w0.cell? ⟨w.heap.size,2,none⟩=some (.slice a2 m.funcs.length k2)):=zh (by rw[hw0];exact World.cell?_alloc_at _ _ _ _ rfl);have y3:Hid (w0.cell? ⟨w.heap.size,3,none⟩=some (.slice a3 m.tables.length k3)):=zh (by rw[hw0];exact World.cell?_alloc_at _ _ _ _ rfl);have y4:Hid (w0.cell? ⟨w.heap.size,4,none⟩=some (.slice a4 m.mems.length k4)):=zh (by rw[hw0];exact World.cell?_alloc_at _ _ _ _ rfl);have y5:Hid (w0.cell? ⟨w.heap.size,5,none⟩=some (.slice a5 m.globals.length k5)):=zh (by rw[hw0];exact World.cell?_alloc_at _ _ _ _ rfl);have y6:Hid (w0.cell? ⟨w.heap.size,6,none⟩=some (.slice a6 m.exports.length k6)):=zh (by rw[hw0];exact World.cell?_alloc_at _ _ _ _ rfl);have y7:Hid (w0.cell? ⟨w.heap.size,7,none⟩=some (.slice a7 m.start.length k7)):=zh (by rw[hw0];exact World.cell?_alloc_at _ _ _ _ rfl);have y8:Hid (w0.cell? ⟨w.heap.size,8,none⟩=some (.slice a8 m.elems.length k8)):=zh (by rw[hw0];exact World.cell?_alloc_at _ _ _ _ rfl);have y9:Hid (w0.cell? ⟨w.heap.size,9,none⟩=some (.slice a9 m.datas.length k9)):=zh (by rw[hw0];exact World.cell?_alloc_at _ _ _ _ rfl)
 have hb:Hid (Below w0.heap.size w0 w0):=zh (Below.refl _ _);clear hw0;have x0:w0.cell? ⟨w.heap.size,0,none⟩=some (.slice a0 m.types.length k0):=zA hb.out _ _ y0.out;have x1:w0.cell? ⟨w.heap.size,1,none⟩=some (.slice a1 m.imports.length k1):=zA hb.out _ _ y1.out;have x2:w0.cell? ⟨w.heap.size,2,none⟩=some (.slice a2 m.funcs.length k2):=zA hb.out _ _ y2.out;have x3:w0.cell? ⟨w.heap.size,3,none⟩=some (.slice a3 m.tables.length k3):=zA hb.out _ _ y3.out;have x4:w0.cell? ⟨w.heap.size,4,none⟩=some (.slice a4 m.mems.length k4):=zA hb.out _ _ y4.out;have x5:w0.cell? ⟨w.heap.size,5,none⟩=some (.slice a5 m.globals.length k5):=zA hb.out _ _ y5.out;have x6:w0.cell? ⟨w.heap.size,6,none⟩=some (.slice a6 m.exports.length k6):=zA hb.out _ _ y6.out;have x7:w0.cell? ⟨w.heap.size,7,none⟩=some (.slice a7 m.start.length k7):=zA hb.out _ _ y7.out;have x8:w0.cell? ⟨w.heap.size,8,none⟩=some (.slice a8 m.elems.length k8):=zA hb.out _ _ y8.out;have x9:w0.cell? ⟨w.heap.size,9,none⟩=some (.slice a9 m.datas.length k9):=zA hb.out _ _ y9.out
 by_cases g0:m.types.length<=5000
 . have d0:decide ((5000:Int)<(m.types.length:Int))=false:=decide_eq_false (by omega)
   by_cases g1:m.imports.length<=5000
   . have d1:decide ((5000:Int)<(m.imports.length:Int))=false:=decide_eq_false (by omega)
     by_cases g2:m.funcs.length<=5000
     . have d2:decide ((5000:Int)<(m.funcs.length:Int))=false:=decide_eq_false (by omega)
       by_cases g3:m.tables.length<=5000
       . have d3:decide ((5000:Int)<(m.tables.length:Int))=false:=decide_eq_false (by omega)
         by_cases g4:m.mems.length<=5000
         . have d4:decide ((5000:Int)<(m.mems.length:Int))=false:=decide_eq_false (by omega)
           by_cases g5:m.globals.length<=5000
           . have d5:decide ((5000:Int)<(m.globals.length:Int))=false:=decide_eq_false (by omega)
             by_cases g6:m.exports.length<=5000
             . have d6:decide ((5000:Int)<(m.exports.length:Int))=false:=decide_eq_false (by omega)
               by_cases g8:m.elems.length<=5000
               . have d8:decide ((5000:Int)<(m.elems.length:Int))=false:=decide_eq_false (by omega)
                 by_cases g9:m.datas.length<=5000
                 . have d9:decide ((5000:Int)<(m.datas.length:Int))=false:=decide_eq_false (by omega)
                   by_cases g7:m.start.length<=5000
                   . have d7:decide ((5000:Int)<(m.start.length:Int))=false:=decide_eq_false (by omega);go_wp2_with fail;clear d0 d1 d2 d3 d4 d5 d6 d7 d8 d9 x0 x1 x2 x3 x4 x5 x6 x7 x8 x9;go_loopw [3,4] (λvn vi wr=>∃(i:Nat) (n:Int),i<=m.funcs.length/\vi=.int .i64 i/\vn=.int .i64 n/\0<=n/\n<=1500/\Hid ((∀t∈m.funcs.take i,funP t)/\(wtF (m.funcs.take i):Int)<=n)/\Hid (Below w0.heap.size w0 wr)) (λ_ vi _=>m.funcs.length-(intOf vi).toNat)
                     case atStart=>exact⟨0,0,Nat.zero_le _,rfl,rfl,by omega,by omega,zh ⟨by simp,by simp[wtF]⟩,hb⟩
                     case round=>
                      clear hb;obtain⟨i,n,hi,rfl,rfl,hn0,hn1,ha,hb⟩:=hrel
                      by_cases hlt:i<m.funcs.length
                      . obtain⟨t,ht⟩:∃t,m.funcs[i]? =some t:=⟨_,List.getElem?_eq_getElem hlt⟩
                        obtain⟨b,o,e,hrow⟩:=(HM.out.funcs.keep λ_ _ _=>FuncAt.keep (zA hb.out)).row ht;have x2:wr.cell? ⟨w.heap.size,2,none⟩=some (.slice a2 m.funcs.length k2):=zA hb.out _ _ y2.out;subst e;have hst:=λ(r:Int) (hp:funP t) (hr:n+(wt t.2.2:Int)<=r)=>zh (show(∀t∈m.funcs.take (i+1),funP t)/\(wtF (m.funcs.take (i+1)):Int)<=r from⟨take_all (P:=funP) ht ha.out.1 hp,by rw[List.take_add_one,ht,Option.toList_some,wtF_app];have:=ha.out.2;omega⟩);clear ht ha;obtain⟨ty,lo,bo⟩:=t;obtain⟨c0,⟨q1,r1,c1,i1⟩,⟨q2,r2,c2,l2,i2⟩⟩:=hrow;have l1:=i1.1;simp only at c1 c2 l1 l2 i2;have i2:=zh i2;clear c0 i1;obtain⟨q,hq⟩:∃q:Nat,lo.length/100=q:=⟨_,rfl⟩
                        have hqe:(lo.length:Int).tdiv 100=(q:Int):=(by rw[<-hq];exact(Int.ofNat_tdiv _ _).symm)
                        have eA:IntKind.i64.wrap (q:Int)=(q:Int):=vJ _ (by omega) (by omega);have eD:IntKind.i64.wrap (n+(q:Int))=n+(q:Int):=vJ _ (by omega) (by omega);go_wp2_with fail
                        go_region_held3 (λw'=>w'.cell? ⟨w.heap.size,2,none⟩=some (.slice (some ⟨b,o,none⟩) m.funcs.length k2)/\w'.cell? ⟨b,o+i*3+1,none⟩=some (.slice q1 lo.length r1)/\w'.cell? ⟨b,o+i*3+2,none⟩=some (.slice q2 bo.len r2)) (go_keep) ((first |(go_at_call 21;(try simp only[hqe,eA,eD]);refine(weigh_any bo q2 r2 _ 0 (n+(q:Int)) l2 (i2.out.keep (keeps_drew _)) (by omega) (by omega) (by omega) (by omega)).mono ?_;rintro e w' ⟨r,rfl,P,rfl⟩)))
                        have hbd:=zh (hb.out.drew);have z0:=P.lo
                        by_cases hr:r<0\/1500<r
                        . clear P;go_wp2;all_goals(go_ret;first |exact⟨true,rfl,λh=>(by cases h),hB0.out.trans (hbd.out.mono hs0)⟩ |exact .inr ⟨rfl,hB0.out.trans (hbd.out.mono hs0)⟩)
                        . have hn:=hst r ⟨by show lo.length<=200000;have:=P.sml (by omega);omega,by show bo.len<=1600;have:=P.sml (by omega);omega,(P.sml (by omega)).2.2⟩ (by show n+(wt bo:Int)<=r;have:=P.wts (by omega);omega);have hr0:0<=r:=(by omega)
                          have hr1:r<=1500:=(by omega)
                          clear hst P hr hqe eA eD;go_wp2;exact⟨⟨i+1,r,by omega,by simp,rfl,by omega,by omega,hn,hbd⟩,by simp[intOf];omega⟩
                      . have x2:wr.cell? ⟨w.heap.size,2,none⟩=some (.slice a2 m.funcs.length k2):=zA hb.out _ _ y2.out;have hiN:i=m.funcs.length:=(by omega)
                        subst hiN
                        have hP2:∀t∈m.funcs,funP t:=by
                         have:=ha.out.1
                         rwa [List.take_of_length_le (by omega)]at this
                        have hW:wtF m.funcs<=1500:=by have:=ha.out.2;rw[List.take_of_length_le (by omega)]at this;omega
                        clear ha hi hlt;have S2:=zh (And.intro hP2 hW);clear hP2 hW;have x0:wr.cell? ⟨w.heap.size,0,none⟩=some (.slice a0 m.types.length k0):=zA hb.out _ _ y0.out;go_wp2_with fail;go_loopw [3,5] (λvn vi wr=>∃(i:Nat) (n:Int),i<=m.types.length/\vi=.int .i64 i/\vn=.int .i64 n/\0<=n/\n<=3000/\Hid (∀t∈m.types.take i,typP t)/\Hid (Below w0.heap.size w0 wr)) (λ_ vi _=>m.types.length-(intOf vi).toNat)
                        case atStart=>exact⟨0,_,Nat.zero_le _,rfl,rfl,by omega,by omega,zh (by simp),hb⟩
                        case round=>
                         clear hb hn0 hn1;obtain⟨i,n,hi,rfl,rfl,hn0,hn1,ha,hb⟩:=hrel
                         by_cases hlt:i<m.types.length
                         . obtain⟨t,ht⟩:∃t,m.types[i]? =some t:=⟨_,List.getElem?_eq_getElem hlt⟩
                           obtain⟨b,o,e,hrow⟩:=(HM.out.types.keep λ_ _ _=>TypeAt.keep (zA hb.out)).row ht;have x0:wr.cell? ⟨w.heap.size,0,none⟩=some (.slice a0 m.types.length k0):=zA hb.out _ _ y0.out;subst e;have hst:=λhp=>zh (take_all (P:=typP) ht ha.out hp);clear ht ha;obtain⟨ps,rs⟩:=t;obtain⟨⟨q0,r0,c0,i0⟩,⟨q1,r1,c1,i1⟩⟩:=hrow;have l0:=i0.1;have l1:=i1.1;simp only at c0 c1 l0 l1;clear i0 i1;obtain⟨q,hq⟩:∃q:Nat,ps.length/10=q:=⟨_,rfl⟩
                           have hqe:(ps.length:Int).tdiv 10=(q:Int):=(by rw[<-hq];exact(Int.ofNat_tdiv _ _).symm)
                           obtain⟨q',hq'⟩:∃q:Nat,rs.length/10=q:=⟨_,rfl⟩
                           have hqe':(rs.length:Int).tdiv 10=(q':Int):=(by rw[<-hq'];exact(Int.ofNat_tdiv _ _).symm)
                           have eA:IntKind.i64.wrap (q:Int)=(q:Int):=vJ _ (by omega) (by omega);have eB:IntKind.i64.wrap (q':Int)=(q':Int):=vJ _ (by omega) (by omega);have eC:IntKind.i64.wrap ((q:Int)+(q':Int))=(q:Int)+(q':Int):=vJ _ (by omega) (by omega);have eD:IntKind.i64.wrap (n+((q:Int)+(q':Int)))=n+((q:Int)+(q':Int)):=vJ _ (by omega) (by omega)
                           by_cases hsb:n+((q:Int)+(q':Int))<=3000
                           . have hn:=hst ⟨by show ps.length<=40000;omega,by show rs.length<=40000;omega⟩;clear hst;go_wp2_with fail
                             go_quiet (fail)
                             try simp only[hqe,hqe',eA,eB,eC,eD]
                             have hbq:=zh (Go.below_drewN hb.out nq);clear hqe hqe' eA eB eC eD;go_wp2;exact⟨⟨i+1,n+(q+q'),by omega,by simp,rfl,by omega,by omega,hn,hbq⟩,by simp[intOf];omega⟩
                           . clear hst;go_wp2_with fail
                             go_quiet (fail)
                             try simp only[hqe,hqe',eA,eB,eC,eD]
                             have hbq:=zh (Go.below_drewN hb.out nq);clear hqe hqe' eA eB eC eD;go_wp2;go_ret;first |exact⟨true,rfl,λh=>(by cases h),hB0.out.trans (hbq.out.mono hs0)⟩ |exact .inr ⟨rfl,hB0.out.trans (hbq.out.mono hs0)⟩
                         . have x0:wr.cell? ⟨w.heap.size,0,none⟩=some (.slice a0 m.types.length k0):=zA hb.out _ _ y0.out;have hiN:i=m.types.length:=(by omega)
                           subst hiN
                           have hP0:∀t∈m.types,typP t:=by
                            have:=ha.out
                            rwa [List.take_of_length_le (by omega)]at this
                           clear ha hi hlt;have S0:=zh hP0;clear hP0;have x8:wr.cell? ⟨w.heap.size,8,none⟩=some (.slice a8 m.elems.length k8):=zA hb.out _ _ y8.out;go_wp2_with fail;go_loopw [3,6] (λvn vi wr=>∃(i:Nat) (n:Int),i<=m.elems.length/\vi=.int .i64 i/\vn=.int .i64 n/\0<=n/\n<=3000/\Hid (∀t∈m.elems.take i,elmP t)/\Hid (Below w0.heap.size w0 wr)) (λ_ vi _=>m.elems.length-(intOf vi).toNat)
                           case atStart=>exact⟨0,_,Nat.zero_le _,rfl,rfl,by omega,by omega,zh (by simp),hb⟩
                           case round=>
                            clear hb hn0 hn1;obtain⟨i,n,hi,rfl,rfl,hn0,hn1,ha,hb⟩:=hrel
                            by_cases hlt:i<m.elems.length
                            . obtain⟨t,ht⟩:∃t,m.elems[i]? =some t:=⟨_,List.getElem?_eq_getElem hlt⟩
                              obtain⟨b,o,e,hrow⟩:=(HM.out.elems.keep λ_ _ _=>ElemAt.keep (zA hb.out)).row ht;have x8:wr.cell? ⟨w.heap.size,8,none⟩=some (.slice a8 m.elems.length k8):=zA hb.out _ _ y8.out;subst e;have hst:=λhp=>zh (take_all (P:=elmP) ht ha.out hp);clear ht ha;obtain⟨⟨op,ix,iy,iz,ls,body,els⟩,fl⟩:=t;obtain⟨⟨⟨c0,c1,c2,c3⟩,⟨q4,r4,c4,i4⟩,⟨q5,r5,c5,l5,i5⟩,⟨q6,r6,c6,l6,i6⟩,_⟩,⟨q7,r7,c7,i7⟩⟩:=hrow;simp only at c7;have l7:fl.length<=9223372036854775807:=i7.1;clear i7;simp only at l5 i5 l6 i6;have hone:OneIs wr ⟨op,ix,iy,iz,ls,body,els⟩ q4 r4 q5 r5 q6 r6:=⟨i4,l5,by rcases i5 with e |h;exact .inl e;exact .inr (by simpa using h),l6,by rcases i6 with e |h;exact .inl e;exact .inr (by simpa using h)⟩
                              have hcw:=zh (weigh_any (One.il ⟨op,ix,iy,iz,ls,body,els⟩) _ 1 _ 0 0 (by show 0+1<=_;omega) hone.new (by omega) (by omega) (by omega) (by omega));have hal:=zh ((Below.refl wr.heap.size wr).alloc (Nat.le_refl _) (.cells (oneV ⟨op,ix,iy,iz,ls,body,els⟩ q4 r4 q5 r5 q6 r6) 49));have hbw:=zh (hb.out.trans (hal.out.mono hb.out.size));have l4:ls.length<=9223372036854775807:=hone.i4.1;clear i4 i5 i6 hone;obtain⟨q,hq⟩:∃q:Nat,fl.length/10=q:=⟨_,rfl⟩
                              have hqe:(fl.length:Int).tdiv 10=(q:Int):=(by rw[<-hq];exact(Int.ofNat_tdiv _ _).symm)
                              by_cases hsb:n+(q:Int)<=3000
                              . have dsb:decide ((3000:Int)<n+(q:Int))=false:=decide_eq_false (by omega);go_wp2_with fail;refine hcw.out.mono ?_;rintro e w2 ⟨r,rfl,P,rfl⟩
                                by_cases hr:r<0
                                . clear P;go_wp2;go_ret;first |exact⟨true,rfl,λh=>(by cases h),hB0.out.trans (hbw.out.mono hs0)⟩ |exact .inr ⟨rfl,hB0.out.trans (hbw.out.mono hs0)⟩
                                . have hn:=hst ⟨by show fl.length<=40000;omega,(P.sml (by omega)).2.2⟩;clear hst P dsb;go_wp2;exact⟨⟨i+1,n+q,by omega,by simp,rfl,by omega,by omega,hn,hbw⟩,by simp[intOf];omega⟩
                              . have dsb:decide ((3000:Int)<n+(q:Int))=true:=decide_eq_true (by omega);clear hst hcw;go_wp2;go_ret;first |exact⟨true,rfl,λh=>(by cases h),hB0.out.trans (hb.out.mono hs0)⟩ |exact .inr ⟨rfl,hB0.out.trans (hb.out.mono hs0)⟩
                            . have x8:wr.cell? ⟨w.heap.size,8,none⟩=some (.slice a8 m.elems.length k8):=zA hb.out _ _ y8.out;have hiN:i=m.elems.length:=(by omega)
                              subst hiN
                              have hP8:∀t∈m.elems,elmP t:=by
                               have:=ha.out
                               rwa [List.take_of_length_le (by omega)]at this
                              clear ha hi hlt;have S8:=zh hP8;clear hP8;have x9:wr.cell? ⟨w.heap.size,9,none⟩=some (.slice a9 m.datas.length k9):=zA hb.out _ _ y9.out;go_wp2_with fail;go_loopw [7] (λvi wr=>∃i:Nat,i<=m.datas.length/\vi=.int .i64 i/\Hid (∀t∈m.datas.take i,datP t)/\Hid (Below w0.heap.size w0 wr)) (λvi _=>m.datas.length-(intOf vi).toNat)
                              case atStart=>exact⟨0,Nat.zero_le _,rfl,zh (by simp),hb⟩
                              case round=>
                               clear hb;obtain⟨i,hi,rfl,ha,hb⟩:=hrel
                               by_cases hlt:i<m.datas.length
                               . obtain⟨t,ht⟩:∃t,m.datas[i]? =some t:=⟨_,List.getElem?_eq_getElem hlt⟩
                                 obtain⟨b,o,e,hrow⟩:=(HM.out.datas.keep λ_ _ _=>DataAt.keep (zA hb.out)).row ht;have x9:wr.cell? ⟨w.heap.size,9,none⟩=some (.slice a9 m.datas.length k9):=zA hb.out _ _ y9.out;subst e;have hst:=λhp=>zh (take_all (P:=datP) ht ha.out hp);clear ht ha;obtain⟨⟨op,ix,iy,iz,ls,body,els⟩,sb⟩:=t;obtain⟨⟨⟨c0,c1,c2,c3⟩,⟨q4,r4,c4,i4⟩,⟨q5,r5,c5,l5,i5⟩,⟨q6,r6,c6,l6,i6⟩,_⟩,c7,hsz⟩:=hrow;simp only at c7 hsz;simp only at l5 i5 l6 i6;have hone:OneIs wr ⟨op,ix,iy,iz,ls,body,els⟩ q4 r4 q5 r5 q6 r6:=⟨i4,l5,by rcases i5 with e |h;exact .inl e;exact .inr (by simpa using h),l6,by rcases i6 with e |h;exact .inl e;exact .inr (by simpa using h)⟩
                                 have hcw:=zh (weigh_any (One.il ⟨op,ix,iy,iz,ls,body,els⟩) _ 1 _ 0 0 (by show 0+1<=_;omega) hone.new (by omega) (by omega) (by omega) (by omega));have hal:=zh ((Below.refl wr.heap.size wr).alloc (Nat.le_refl _) (.cells (oneV ⟨op,ix,iy,iz,ls,body,els⟩ q4 r4 q5 r5 q6 r6) 49));have hbw:=zh (hb.out.trans (hal.out.mono hb.out.size));have l4:ls.length<=9223372036854775807:=hone.i4.1;clear i4 i5 i6 hone
                                 by_cases hsb:sb.size<=300000
                                 . have dsb:decide ((300000:Int)<(sb.size:Int))=false:=decide_eq_false (by omega);go_wp2_with fail;refine hcw.out.mono ?_;rintro e w2 ⟨r,rfl,P,rfl⟩
                                   by_cases hr:r<0
                                   . clear P;go_wp2;go_ret;first |exact⟨true,rfl,λh=>(by cases h),hB0.out.trans (hbw.out.mono hs0)⟩ |exact .inr ⟨rfl,hB0.out.trans (hbw.out.mono hs0)⟩
                                   . have hn:=hst ⟨hsb,(P.sml (by omega)).2.2⟩;clear hst P dsb;go_wp2;exact⟨⟨i+1,by omega,by simp,hn,hbw⟩,by simp[intOf];omega⟩
                                 . have dsb:decide ((300000:Int)<(sb.size:Int))=true:=decide_eq_true (by omega);clear hst hcw;go_wp2;go_ret;first |exact⟨true,rfl,λh=>(by cases h),hB0.out.trans (hb.out.mono hs0)⟩ |exact .inr ⟨rfl,hB0.out.trans (hb.out.mono hs0)⟩
                               . have x9:wr.cell? ⟨w.heap.size,9,none⟩=some (.slice a9 m.datas.length k9):=zA hb.out _ _ y9.out;have hiN:i=m.datas.length:=(by omega)
                                 subst hiN
                                 have hP9:∀t∈m.datas,datP t:=by
                                  have:=ha.out
                                  rwa [List.take_of_length_le (by omega)]at this
                                 clear ha hi hlt;have S9:=zh hP9;clear hP9;have x5:wr.cell? ⟨w.heap.size,5,none⟩=some (.slice a5 m.globals.length k5):=zA hb.out _ _ y5.out;go_wp2_with fail;go_loopw [8] (λvi wr=>∃i:Nat,i<=m.globals.length/\vi=.int .i64 i/\Hid (∀t∈m.globals.take i,gloP t)/\Hid (Below w0.heap.size w0 wr)) (λvi _=>m.globals.length-(intOf vi).toNat)
                                 case atStart=>exact⟨0,Nat.zero_le _,rfl,zh (by simp),hb⟩
                                 case round=>
                                  clear hb;obtain⟨i,hi,rfl,ha,hb⟩:=hrel
                                  by_cases hlt:i<m.globals.length
                                  . obtain⟨t,ht⟩:∃t,m.globals[i]? =some t:=⟨_,List.getElem?_eq_getElem hlt⟩
                                    obtain⟨b,o,e,hrow⟩:=(HM.out.globals.keep λ_ _ _=>GlobalAt.keep (zA hb.out)).row ht;have x5:wr.cell? ⟨w.heap.size,5,none⟩=some (.slice a5 m.globals.length k5):=zA hb.out _ _ y5.out;subst e;have hst:=λhp=>zh (take_all (P:=gloP) ht ha.out hp);clear ht ha;obtain⟨ty,mu,⟨op,ix,iy,iz,ls,body,els⟩⟩:=t;obtain⟨c0,c1,⟨⟨d0,d1,d2,d3⟩,⟨q4,r4,d4,i4⟩,⟨q5,r5,d5,l5,i5⟩,⟨q6,r6,d6,l6,i6⟩,_⟩⟩:=hrow;clear c0 c1;simp only at l5 i5 l6 i6;have hone:OneIs wr ⟨op,ix,iy,iz,ls,body,els⟩ q4 r4 q5 r5 q6 r6:=⟨i4,l5,by rcases i5 with e |h;exact .inl e;exact .inr (by simpa using h),l6,by rcases i6 with e |h;exact .inl e;exact .inr (by simpa using h)⟩
                                    have hcw:=zh (weigh_any (One.il ⟨op,ix,iy,iz,ls,body,els⟩) _ 1 _ 0 0 (by show 0+1<=_;omega) hone.new (by omega) (by omega) (by omega) (by omega));have hal:=zh ((Below.refl wr.heap.size wr).alloc (Nat.le_refl _) (.cells (oneV ⟨op,ix,iy,iz,ls,body,els⟩ q4 r4 q5 r5 q6 r6) 49));have hbw:=zh (hb.out.trans (hal.out.mono hb.out.size));have l4:ls.length<=9223372036854775807:=hone.i4.1;clear i4 i5 i6 hone;go_wp2_with fail;refine hcw.out.mono ?_;rintro e w2 ⟨r,rfl,P,rfl⟩
                                    by_cases hr:r<0
                                    . clear P;go_wp2;go_ret;first |exact⟨true,rfl,λh=>(by cases h),hB0.out.trans (hbw.out.mono hs0)⟩ |exact .inr ⟨rfl,hB0.out.trans (hbw.out.mono hs0)⟩
                                    . have hn:=hst ((P.sml (by omega)).2.2);clear hst P;go_wp2;exact⟨⟨i+1,by omega,by simp,hn,hbw⟩,by simp[intOf];omega⟩
                                  . have x5:wr.cell? ⟨w.heap.size,5,none⟩=some (.slice a5 m.globals.length k5):=zA hb.out _ _ y5.out;have hiN:i=m.globals.length:=(by omega)
                                    subst hiN
                                    have hP5:∀t∈m.globals,gloP t:=by
                                     have:=ha.out
                                     rwa [List.take_of_length_le (by omega)]at this
                                    clear ha hi hlt;have hfin:Small m:=⟨g0,g1,g2,g3,g4,g5,g6,g7,g8,g9,S2.out.1,S0.out,S8.out,S9.out,hP5,S2.out.2⟩
                                    go_wp2;go_ret;first |exact⟨false,rfl,λ_=>hfin,hB0.out.trans (hb.out.mono hs0)⟩ |exact .inl ⟨rfl,hfin,hB0.out.trans (hb.out.mono hs0)⟩
                   . have d7:decide ((5000:Int)<(m.start.length:Int))=true:=decide_eq_true (by omega);go_wp2;go_ret;first |exact⟨true,rfl,λh=>(by cases h),hB0.out.trans (hb.out.mono hs0)⟩ |exact .inr ⟨rfl,hB0.out.trans (hb.out.mono hs0)⟩
                 . have d9:decide ((5000:Int)<(m.datas.length:Int))=true:=decide_eq_true (by omega);go_wp2;go_ret;first |exact⟨true,rfl,λh=>(by cases h),hB0.out.trans (hb.out.mono hs0)⟩ |exact .inr ⟨rfl,hB0.out.trans (hb.out.mono hs0)⟩
               . have d8:decide ((5000:Int)<(m.elems.length:Int))=true:=decide_eq_true (by omega);go_wp2;go_ret;first |exact⟨true,rfl,λh=>(by cases h),hB0.out.trans (hb.out.mono hs0)⟩ |exact .inr ⟨rfl,hB0.out.trans (hb.out.mono hs0)⟩
             . have d6:decide ((5000:Int)<(m.exports.length:Int))=true:=decide_eq_true (by omega);go_wp2;go_ret;first |exact⟨true,rfl,λh=>(by cases h),hB0.out.trans (hb.out.mono hs0)⟩ |exact .inr ⟨rfl,hB0.out.trans (hb.out.mono hs0)⟩
           . have d5:decide ((5000:Int)<(m.globals.length:Int))=true:=decide_eq_true (by omega);go_wp2;go_ret;first |exact⟨true,rfl,λh=>(by cases h),hB0.out.trans (hb.out.mono hs0)⟩ |exact .inr ⟨rfl,hB0.out.trans (hb.out.mono hs0)⟩
         . have d4:decide ((5000:Int)<(m.mems.length:Int))=true:=decide_eq_true (by omega);go_wp2;go_ret;first |exact⟨true,rfl,λh=>(by cases h),hB0.out.trans (hb.out.mono hs0)⟩ |exact .inr ⟨rfl,hB0.out.trans (hb.out.mono hs0)⟩
       . have d3:decide ((5000:Int)<(m.tables.length:Int))=true:=decide_eq_true (by omega);go_wp2;go_ret;first |exact⟨true,rfl,λh=>(by cases h),hB0.out.trans (hb.out.mono hs0)⟩ |exact .inr ⟨rfl,hB0.out.trans (hb.out.mono hs0)⟩
     . have d2:decide ((5000:Int)<(m.funcs.length:Int))=true:=decide_eq_true (by omega);go_wp2;go_ret;first |exact⟨true,rfl,λh=>(by cases h),hB0.out.trans (hb.out.mono hs0)⟩ |exact .inr ⟨rfl,hB0.out.trans (hb.out.mono hs0)⟩
   . have d1:decide ((5000:Int)<(m.imports.length:Int))=true:=decide_eq_true (by omega);go_wp2;go_ret;first |exact⟨true,rfl,λh=>(by cases h),hB0.out.trans (hb.out.mono hs0)⟩ |exact .inr ⟨rfl,hB0.out.trans (hb.out.mono hs0)⟩
 . have d0:decide ((5000:Int)<(m.types.length:Int))=true:=decide_eq_true (by omega);go_wp2;go_ret;first |exact⟨true,rfl,λh=>(by cases h),hB0.out.trans (hb.out.mono hs0)⟩ |exact .inr ⟨rfl,hB0.out.trans (hb.out.mono hs0)⟩
end Go.Proofs.YtacohbllbjgdgaaGreatDoor
