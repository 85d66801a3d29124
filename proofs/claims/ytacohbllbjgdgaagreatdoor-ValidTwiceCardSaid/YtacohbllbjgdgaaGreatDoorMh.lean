/- The contract of Count. -/
import Derived.Test.YtacohbllbjgdgaaGreatDoorMe
import Derived.Test.YtacohbllbjgdgaaGreatDoorMf
import Derived.Deep.QuietTactic
import Derived.BigQuiet
import Derived.WalkSmall
set_option linter.all false
set_option maxRecDepth 100000
set_option maxHeartbeats 4000000
namespace Go.Proofs.YtacohbllbjgdgaaGreatDoor
open Go.RowKit
def vB:List (Int×List Int×Il)->Int->Int
 | [],left=>left
 |f::r,left=>if cnt f.2.2 left<0 then cnt f.2.2 left else vB r (cnt f.2.2 left)
theorem drop_at{α:Type}{l:List α}{i:Nat}{x:α}(hx:l[i]? =some x):l.drop i=x::l.drop (i+1):=by have hi:=(List.getElem?_eq_some_iff.1 hx).1;have he:=(List.getElem?_eq_some_iff.1 hx).2;rw[List.drop_eq_getElem_cons hi,he]
theorem count_core(m:Md)(v0 v1 v3 v4 v5 v6 v7 v8 v9:Value)(a2:Option Addr)(k2:Nat)(w:World)(h:RowsIn FuncAt 3 w a2 m.funcs):Calls Tryz.prog 70 #[.agg #[v0,v1,.slice a2 m.funcs.length k2,v3,v4,v5,v6,v7,v8,v9]] w λe w'=>e=.returned (.int .i64 (65536-vB m.funcs 65536))/\Below w.heap.size w w':=by
 obtain⟨N,hN⟩:∃N,m.funcs.length=N:=⟨_,rfl⟩
 have hl:=h.1;have HR:=zh h;clear h;rw[hN]at hl ⊢
 generalize m.funcs=fs at*
 obtain⟨X,hX⟩:∃X,vB fs 65536=X:=⟨_,rfl⟩
 rw[hX];have hX0:Hid (X=vB (fs.drop 0) 65536):=zh hX.symm;clear hX;go_enter Tryz.func70,Tryz.ntmps70;go_wp2_with fail;go_loopw [3,9] (λvL vi wr=>∃(i:Nat) (L:Int),i<=N/\vi=.int .i64 i/\vL=.int .i64 L/\0<=L/\L<=65536/\Hid (X=vB (fs.drop i) L)/\Hid (Below w.heap.size w wr)) (λ_ vi _=>N-(intOf vi).toNat)
 case atStart=>exact⟨0,65536,Nat.zero_le _,rfl,rfl,by omega,by omega,hX0,zh ((Below.refl _ _).alloc (Nat.le_refl _) _)⟩
 case round=>
  obtain⟨i,L,hi,rfl,rfl,hL0,hL1,hc,hb⟩:=hrel
  by_cases hlt:i<N
  . obtain⟨f,hf⟩:∃f,fs[i]? =some f:=⟨_,List.getElem?_eq_getElem (by omega)⟩
    obtain⟨b,o,rfl,hrow⟩:=(HR.out.keep λ_ _ _=>FuncAt.keep (zA hb.out)).row hf;obtain⟨c0,⟨a1',k1',c1,_⟩,⟨a2',k2',c2,l2,i2⟩⟩:=hrow;unfold j9 at c0;have hi2:=zh i2;have hd:=drop_at hf;have hc2:Hid (X=(if cnt f.2.2 L<0 then cnt f.2.2 L else vB (fs.drop (i+1)) (cnt f.2.2 L))):=zh (by rw[hc.out,hd];rfl);have hbd:=cnt_bd f.2.2 L hL0;have hal:∀o,Below wr.heap.size wr (wr.alloc o):=λo=>(Below.refl _ _).alloc (Nat.le_refl _) o;have hcb:=λw h0=>zh (counted_any f.2.2 a2' k2' w L l2 h0 hL0 hL1);clear hd hc hf i2
    generalize hY:cnt f.2.2 L=Y at*
    clear hY;go_wp2_with fail;refine(hcb _ (hi2.out.below (hal _))).out.mono ?_;rintro e w2 ⟨rfl,b2⟩;have hb2:=zh (hb.out.trans (((hal _).trans (b2.mono (by simp))).mono hb.out.size));clear b2
    by_cases hY0:Y<0
    . rw[if_pos hY0]at hc2;go_wp2;go_ret;exact⟨by rw[hc2.out];rfl,hb2.out⟩
    . rw[if_neg hY0]at hc2;go_wp2
      go_roundw
      case rel=>exact⟨i+1,Y,by omega,by simp,rfl,by omega,by omega,hc2,hb2⟩
      case measure=>simp[intOf];omega
  . obtain rfl:i=N:=by omega
    have hd:fs.drop i=[]:=(by rw[<-hN];exact List.drop_length)
    have hc2:Hid (X=L):=zh (by rw[hc.out,hd];rfl);clear hd hc;go_wp2;go_ret;exact⟨by rw[hc2.out];rfl,hb.out⟩
def vM (t:Int×Int×Bool):Bool:=(zM t.1&&zM t.2.1)&&(t.2.2||t.2.1==0)
theorem limits_any(l:List (Int×Int×Bool))(ao:Option Addr)(c:Nat)(w:World)(h:RowsIn LimitsAt 3 w ao l):Calls Tryz.prog 76 #[.slice ao l.length c] w λe w'=>e=endE (l.all vM) 30/\Below w.heap.size w w':=by
 obtain⟨N,hN⟩:∃N,l.length=N:=⟨_,rfl⟩
 have hl:=h.1;have HR:=zh h;clear h;rw[hN]at hl ⊢;go_enter Tryz.func76,Tryz.ntmps76;go_wp2_with fail;go_loopw [6] (λvi wr=>∃i:Nat,i<=N/\vi=.int .i64 i/\Hid ((l.take i).all vM=true)/\Hid (Below w.heap.size w wr)) (λvi _=>N-(intOf vi).toNat)
 case atStart=>exact⟨0,Nat.zero_le _,rfl,zh rfl,zh (Below.refl _ _)⟩
 case round=>
  obtain⟨i,hi,rfl,ha,hb⟩:=hrel
  by_cases hlt:i<N
  . obtain⟨t,ht⟩:∃t,l[i]? =some t:=⟨_,List.getElem?_eq_getElem (by omega)⟩
    obtain⟨b,o,rfl,hrow⟩:=(HR.out.keep λ_ _ _=>LimitsAt.keep (zA hb.out)).row ht;obtain⟨mn,mx,has⟩:=t;obtain⟨c0,c1,c2⟩:=hrow;have c0:wr.cell? ⟨b,o+i*3,none⟩=some (.int .i64 mn):=c0;have c1:wr.cell? ⟨b,o+i*3+1,none⟩=some (.int .i64 mx):=c1;have c2:wr.cell? ⟨b,o+i*3+2,none⟩=some (.bool has):=c2;have hn:=zh (jB ht ha.out);clear ht ha;have hal2:∀o1 o2,Below w.heap.size w ((wr.alloc o1).alloc o2):=λo1 o2=>hb.out.trans ((((Below.refl _ _).alloc (Nat.le_refl _) o1).alloc (by simp) o2).mono hb.out.size);cases hres:zM mn&&zM mx
    . have hn2:=zh (hn.out.2 (by unfold vM;rw[hres];rfl));have HI:=λ(wq:World) h=>zh (index_no [mn,mx] (some ⟨wr.heap.size+1,0,none⟩) 2 wq h ((all_two mn mx).trans hres));clear hn;go_wp2_with fail;refine(HI _ (by have:=jI (wr.alloc (.cells #[.int .i64 mn,.int .i64 mx,.bool has] 47)) [mn,mx] (by simp);simpa using this)).out.mono ?_;rintro e w' ⟨rfl,rfl⟩;go_wp2;exact⟨rfl,by rw[hn2.out];rfl,hal2 _ _⟩
    . have HI:=λ(wq:World) h=>zh (yS [mn,mx] (some ⟨wr.heap.size+1,0,none⟩) 2 wq h ((all_two mn mx).trans hres));go_wp2_with fail;refine(HI _ (by have:=jI (wr.alloc (.cells #[.int .i64 mn,.int .i64 mx,.bool has] 47)) [mn,mx] (by simp);simpa using this)).out.mono ?_;rintro e w' ⟨rfl,rfl⟩;cases has
      . by_cases h0:mx=0
        . subst h0;have hn2:=zh (hn.out.1 (by unfold vM;rw[hres];rfl));clear hn;go_wp2_with fail;refine(qF 30 _).mono ?_;rintro e w' ⟨rfl,rfl⟩;go_wp2
          go_roundw
          case rel=>exact⟨i+1,by omega,by simp,hn2,zh (hal2 _ _)⟩
          case measure=>simp[intOf];omega
        . have q0:(mx==0)=false:=(by simp[h0])
          have hn2:=zh (hn.out.2 (by unfold vM;rw[hres];exact q0));clear hn;go_wp2_with fail;refine(jV 30 _).mono ?_;rintro e w' ⟨rfl,rfl⟩;go_wp2;exact⟨rfl,by rw[hn2.out];rfl,hal2 _ _⟩
      . have hn2:=zh (hn.out.1 (by unfold vM;rw[hres];rfl));clear hn;go_wp2_with fail;refine(qF 30 _).mono ?_;rintro e w' ⟨rfl,rfl⟩;go_wp2
        go_roundw
        case rel=>exact⟨i+1,by omega,by simp,hn2,zh (hal2 _ _)⟩
        case measure=>simp[intOf];omega
  . obtain rfl:i=N:=by omega
    have ht:l.take i=l:=(by rw[<-hN];exact List.take_length)
    have ha2:=zh (ht▸ha.out);clear ht ha;go_wp2;go_end0;exact⟨by rw[ha2.out];rfl,hb.out⟩
def yM (q:One):Bool:=(q.op==65||(q.op==66||q.op==35))&&zZ q.il
structure OneIs (w:World) (q:One) (a4:Option Addr) (k4:Nat) (a5:Option Addr) (k5:Nat) (a6:Option Addr) (k6:Nat):Prop where
 i4:IntsIn w a4 q.ls
 l5:q.body.len<=9223372036854775807
 i5:IlIn w a5 0 q.body
 l6:q.els.len<=9223372036854775807
 i6:IlIn w a6 0 q.els
theorem OneIs.keep{w w':World}(f:Keeps w w'){q:One}{a4:Option Addr}{k4:Nat}{a5:Option Addr}{k5:Nat}{a6:Option Addr}{k6:Nat}(h:OneIs w q a4 k4 a5 k5 a6 k6):OneIs w' q a4 k4 a5 k5 a6 k6:=
 ⟨h.i4.keep f,h.l5,h.i5.keep f,h.l6,h.i6.keep f⟩
def oneV (q:One) (a4:Option Addr) (k4:Nat) (a5:Option Addr) (k5:Nat) (a6:Option Addr) (k6:Nat):Array Value:=
 #[.int .i64 q.op,.int .i64 q.x,.int .i64 q.y,.int .i64 q.n,.slice a4 q.ls.length k4,.slice a5 q.body.len k5,.slice a6 q.els.len k6]
theorem OneIs.new{w:World}{q:One}{a4:Option Addr}{k4:Nat}{a5:Option Addr}{k5:Nat}{a6:Option Addr}{k6:Nat}(h:OneIs w q a4 k4 a5 k5 a6 k6):IlIn (w.alloc (.cells (oneV q a4 k4 a5 k5 a6 k6) 49)) (some ⟨w.heap.size,0,none⟩) 0 q.il:=by
 have f:=zA ((Below.refl w.heap.size w).alloc (Nat.le_refl _) (.cells (oneV q a4 k4 a5 k5 a6 k6) 49));have g:∀j v,(oneV q a4 k4 a5 k5 a6 k6)[j]? =some v->(w.alloc (.cells (oneV q a4 k4 a5 k5 a6 k6) 49)).cell? ⟨w.heap.size,j,none⟩=some v:=λj v h=>by rw[World.cell?_alloc_at _ _ _ _ rfl,h]
 refine .inr ⟨_,_,rfl,⟨g 0 _ rfl,g 1 _ rfl,g 2 _ rfl,g 3 _ rfl⟩,⟨a4,k4,g 4 _ rfl,h.i4.keep f⟩,⟨a5,k5,g 5 _ rfl,h.l5,?_⟩,⟨a6,k6,g 6 _ rfl,h.l6,?_⟩,trivial⟩
 . have:=h.i5.keep f;simpa[IlIn]using this
 . have:=h.i6.keep f;simpa[IlIn]using this
def LabelsC (l:Il):Prop:=∀(ao:Option Addr) (c:Nat) (w:World),l.len<=9223372036854775807->IlIn w ao 0 l->
 Calls Tryz.prog 42 #[.slice ao l.len c] w λe w'=>e=.returned (.bool (!lab l))/\w=w'
theorem labels_step(l:Il)(hs:Sub LabelsC l):LabelsC l:=by
 intro ao c w hl hw;obtain⟨N,hN⟩:∃N,l.len=N:=⟨_,rfl⟩
 rw[hN]at hl ⊢;go_enter Tryz.func42,Tryz.ntmps42;go_wp2_with fail;go_loopw [3] (λvi wr=>∃(i:Nat) (r:Il),vi=.int .i64 i/\wr=w/\i+r.len=N/\Hid (IlIn w ao i r)/\Hid (Sub LabelsC r)/\Hid (lab l=lab r)) (λvi _=>N-(intOf vi).toNat)
 case atStart=>exact⟨0,l,rfl,rfl,by omega,zh hw,zh hs,zh rfl⟩
 case round=>
  obtain⟨i,r,rfl,rfl,hi,hr,hsub,hc⟩:=hrel;cases r with
  |nil=>
    have hiN:i=N:=(by simpa[Il.len]using hi)
    subst hiN;go_wp2;go_ret;exact⟨by rw[hc.out];rfl,rfl⟩
  |cons op x y n ls body els rest=>
    have hlen:i+(rest.len+1)=N:=hi;have hlt:i<N:=(by omega)
    obtain⟨b,o,a4,k4,a5,k5,a6,k6,rfl,hh,hrest⟩:=hr.out.head;obtain⟨c0,c1,c2,c3,c4,c5,c6,i4,l5,i5,l6,i6⟩:=hh;have hr2:=zh hrest;have hcb:=zh (hsub.out.1 a5 k5 wr l5 i5);have hce:=zh (hsub.out.2.1 a6 k6 wr l6 i6);have hsr:=zh hsub.out.2.2;have hls:=i4.1;have hc2:Hid (lab l=(decide (ls.length<=4096)&&(lab body&&(lab els&&lab rest)))):=zh (by rw[hc.out];rfl);clear hr hrest i4 i5 i6 hi hsub hc
    by_cases hL:ls.length<=4096
    . rw[decide_eq_true hL,Bool.true_and]at hc2;go_wp2_with fail;refine hcb.out.mono ?_;rintro e w2 ⟨rfl,rfl⟩;cases hX:lab body
      . rw[hX,Bool.false_and]at hc2;go_wp2;go_ret;exact⟨by rw[hc2.out];rfl,rfl⟩
      . rw[hX,Bool.true_and]at hc2;go_wp2_with fail;refine hce.out.mono ?_;rintro e w2 ⟨rfl,rfl⟩;cases hY:lab els
        . rw[hY,Bool.false_and]at hc2;go_wp2;go_ret;exact⟨by rw[hc2.out];rfl,rfl⟩
        . rw[hY,Bool.true_and]at hc2;go_wp2
          go_roundw
          case rel=>exact⟨i+1,rest,by simp,trivial,by omega,hr2,hsr,hc2⟩
          case measure=>simp[intOf];omega
    . rw[decide_eq_false hL,Bool.false_and]at hc2;go_wp2;go_ret;exact⟨by rw[hc2.out];rfl,rfl⟩
theorem labels_any(l:Il):LabelsC l:=Il.each labels_step l
def DeepC (l:Il):Prop:=∀(ao:Option Addr) (c:Nat) (w:World) (d:Int),l.len<=9223372036854775807->IlIn w ao 0 l->0<=d->d<=65->
 Calls Tryz.prog 43 #[.slice ao l.len c,.int .i64 d] w λe w'=>e=.returned (.bool (!xN l d))/\w=w'
theorem deep_step(l:Il)(hs:Sub DeepC l):DeepC l:=by
 intro ao c w d hl hw hd0 hd1;have hb0:Hid (xN l d=((l.len==0||decide (d<=64))&&flatR l d)):=zh rfl;obtain⟨N,hN⟩:∃N,l.len=N:=⟨_,rfl⟩
 rw[hN]at hl hb0 ⊢;go_enter Tryz.func43,Tryz.ntmps43
 by_cases hg:0<N/\64<d
 . have hv:xN l d=false:=by rw[hb0.out,decide_eq_false (by omega),show(N==0)=false by simp;omega];rfl
   obtain⟨g1,g2⟩:=hg;go_wp2;go_ret;exact⟨by rw[hv];rfl,rfl⟩
 . have hv:Hid (xN l d=flatR l d):=zh (by
    rw[hb0.out]
    by_cases h0:N=0
    . rw[h0];simp
    . rw[decide_eq_true (by omega)];simp)
   clear hb0
   by_cases hN0:N=0
   . have hln:l=.nil:=by
      cases l with
      |nil=>rfl
      |cons=>simp[Il.len]at hN;omega
     subst hN0;subst hln;go_wp2_with fail;go_loopw [5] (λvi wr=>vi=.int .i64 0/\wr=w) (λ_ _=>0)
     case atStart=>exact⟨rfl,rfl⟩
     case round=>obtain⟨rfl,rfl⟩:=hrel;go_wp2;go_ret;exact⟨by rw[hv.out];rfl,rfl⟩
   have hNp:0<N:=(by omega)
   have hd64:d<=64:=(by omega)
   clear hg hN0;go_wp2_with fail;go_loopw [5] (λvi wr=>∃(i:Nat) (r:Il),vi=.int .i64 i/\wr=w/\i+r.len=N/\Hid (IlIn w ao i r)/\Hid (Sub DeepC r)/\Hid (xN l d=flatR r d)) (λvi _=>N-(intOf vi).toNat)
   case atStart=>exact⟨0,l,rfl,rfl,by omega,zh hw,zh hs,hv⟩
   case round=>
    obtain⟨i,r,rfl,rfl,hi,hr,hsub,hc⟩:=hrel;cases r with
    |nil=>
      have hiN:i=N:=(by simpa[Il.len]using hi)
      subst hiN;go_wp2;go_ret;exact⟨by rw[hc.out];rfl,rfl⟩
    |cons op x y n ls body els rest=>
      have hlen:i+(rest.len+1)=N:=hi;have hlt:i<N:=(by omega)
      obtain⟨b,o,a4,k4,a5,k5,a6,k6,rfl,hh,hrest⟩:=hr.out.head;obtain⟨c0,c1,c2,c3,c4,c5,c6,i4,l5,i5,l6,i6⟩:=hh;have hr2:=zh hrest;have hcb:=zh (hsub.out.1 a5 k5 wr (d+1) l5 i5 (by omega) (by omega));have hce:=zh (hsub.out.2.1 a6 k6 wr (d+1) l6 i6 (by omega) (by omega));have hsr:=zh hsub.out.2.2;have hc2:Hid (xN l d=(xN body (d+1)&&(xN els (d+1)&&flatR rest d))):=zh (by rw[hc.out];rfl);clear hr hrest i4 i5 i6 hi hsub hc hv;go_wp2_with fail;refine hcb.out.mono ?_;rintro e w2 ⟨rfl,rfl⟩;cases hX:xN body (d+1)
      . rw[hX,Bool.false_and]at hc2;go_wp2;go_ret;exact⟨by rw[hc2.out];rfl,rfl⟩
      . rw[hX,Bool.true_and]at hc2;go_wp2_with fail;refine hce.out.mono ?_;rintro e w2 ⟨rfl,rfl⟩;cases hY:xN els (d+1)
        . rw[hY,Bool.false_and]at hc2;go_wp2;go_ret;exact⟨by rw[hc2.out];rfl,rfl⟩
        . rw[hY,Bool.true_and]at hc2;go_wp2
          go_roundw
          case rel=>exact⟨i+1,rest,by simp,trivial,by omega,hr2,hsr,hc2⟩
          case measure=>simp[intOf];omega
theorem deep_any(l:Il):DeepC l:=Il.each deep_step l
theorem quietMany{P:Program}{f:FuncId}{args:Array Value}{w:World}{n:Nat}{v:Value}(h:Calls P f args (w.drewN n) λe w'=>e=.returned v/\∃m,w'=(w.drewN n).drewN m):Calls P f args (w.drewN n) λe w''=>e=.returned v/\∃m,w''=w.drewN m:=
 h.mono λ_ _ ⟨he,m,hm⟩=>⟨he,n+m,by rw[hm,World.drewN_drewN]⟩
theorem IlIn.drewN{w:World}{a:Option Addr}{i:Nat}{l:Il}(h:IlIn w a i l)(n:Nat):IlIn (w.drewN n) a i l:=h.below (below_drewN (Below.refl _ _) n)
theorem vJ(n:Int)(h0:0<=n)(h1:n<9223372036854775808):IntKind.i64.wrap n=n:=by simp[IntKind.wrap,IntKind.bits,IntKind.signed];omega
theorem cnt_neg(l:Il):cnt l (-1)= -1:=by
 cases l with
 |nil=>rfl
 |cons op x y n ls body els rest=>rfl
def CountC (l:Il):Prop:=∀(ao:Option Addr) (c:Nat) (w:World) (nn left:Int),l.len<=9223372036854775807->IlIn w ao 0 l->nn+left=65536→-1<=left->left<=65536->
 Calls Tryz.prog 59 #[.slice ao l.len c,.int .i64 nn] w λe w'=>e=.returned (.int .i64 (65536-cnt l left))/\∃m,w'=w.drewN m
theorem rcount_step(l:Il)(hs:Sub CountC l):CountC l:=by
 intro ao c w nn left hl hw hnn h0 h1;obtain⟨N,hN⟩:∃N,l.len=N:=⟨_,rfl⟩
 rw[hN]at hl ⊢;go_enter Tryz.func59,Tryz.ntmps59;go_wp2_with fail;go_loopw [1,5] (λvn vi wr=>∃(i m:Nat) (r:Il) (L n:Int),vi=.int .i64 i/\vn=.int .i64 n/\n+L=65536∧-1<=L/\L<=65536/\Hid (wr=w.drewN m)/\i+r.len=N/\Hid (IlIn wr ao i r)/\Hid (Sub CountC r)/\Hid (cnt l left=cnt r L)) (λ_ vi _=>N-(intOf vi).toNat)
 case atStart=>exact⟨0,0,l,left,nn,rfl,rfl,hnn,h0,h1,zh rfl,by omega,zh hw,zh hs,zh rfl⟩
 case round=>
  obtain⟨i,m,r,L,n,rfl,rfl,hnL,hL0,hL1,hwr,hi,hr,hsub,hc⟩:=hrel
  by_cases hneg:L= -1
  . have hv:cnt l left= -1:=(by rw[hc.out,hneg,cnt_neg])
    have hn7:n=65537:=(by omega)
    subst hn7;clear hc hr hsub
    by_cases hiN:i<N
    . go_wp2;go_ret;exact⟨by rw[hv];rfl,m,hwr.out⟩
    . go_wp2;go_ret;exact⟨by rw[hv];rfl,m,hwr.out⟩
  cases r with
  |nil=>
    have hiN:i=N:=(by simpa[Il.len]using hi)
    subst hiN;have hv:65536-cnt l left=n:=(by rw[hc.out];show 65536-L=n;omega)
    go_wp2;go_ret;exact⟨by rw[hv];rfl,m,hwr.out⟩
  |cons op x y n' ls body els rest=>
    have hlen:i+(rest.len+1)=N:=hi;have hlt:i<N:=(by omega)
    obtain⟨b,o,a4,k4,a5,k5,a6,k6,rfl,hh,hrest⟩:=hr.out.head;obtain⟨c0,c1,c2,c3,c4,c5,c6,i4,l5,i5,l6,i6⟩:=hh;have hr2:=zh hrest
    have hX:∃X,-1<=X/\X<=65536/\X=cnt body (L-1):=by
     rcases(show L-1= -1\/0<=L-1 by omega)with h |h
     . exact⟨-1,by omega,by omega,by rw[h,cnt_neg]⟩
     . have:=cnt_bd body (L-1) h;exact⟨_,this.1,by omega,rfl⟩
    obtain⟨X,hX0,hX1,hX⟩:=hX
    have hY:∃Y,-1<=Y/\Y<=65536/\Y=cnt els X:=by
     rcases(show X= -1\/0<=X by omega)with h |h
     . exact⟨-1,by omega,by omega,by rw[h,cnt_neg]⟩
     . have:=cnt_bd els X h;exact⟨_,this.1,by omega,rfl⟩
    obtain⟨Y,hY0,hY1,hY⟩:=hY
    have hc2:Hid (cnt l left=cnt rest Y):=zh (by
     rw[hc.out]
     show(if(if 0<=(if 0<=L-1 then cnt body (L-1)else L-1)then cnt els (if 0<=L-1 then cnt body (L-1)else L-1)else(if 0<=L-1 then cnt body (L-1)else L-1))<0 then -1 else cnt rest (if 0<=(if 0<=L-1 then cnt body (L-1)else L-1)then cnt els (if 0<=L-1 then cnt body (L-1)else L-1)else(if 0<=L-1 then cnt body (L-1)else L-1)))=_
     have e1:(if 0<=L-1 then cnt body (L-1)else L-1)=X:=by
      by_cases h:0<=L-1
      . rw[if_pos h,hX]
      . rw[if_neg h,hX,show L-1= -1 by omega,cnt_neg]
     rw[e1]
     have e2:(if 0<=X then cnt els X else X)=Y:=by
      by_cases h:0<=X
      . rw[if_pos h,hY]
      . rw[if_neg h,hY,show X= -1 by omega,cnt_neg]
     rw[e2]
     by_cases h:Y<0
     . rw[if_pos h,show Y= -1 by omega,cnt_neg]
     . rw[if_neg h])
    obtain⟨U,hUX⟩:∃U,U=65536-X:=⟨_,rfl⟩
    obtain⟨V,hVY⟩:∃V,V=65536-Y:=⟨_,rfl⟩
    have hcb:∀q,Hid (Calls Tryz.prog 59 #[.slice a5 body.len k5,.int .i64 (IntKind.i64.wrap (n+1))] (wr.drewN q) λe w'=>e=.returned (.int .i64 U)/\∃m,w'=(wr.drewN q).drewN m):=λq=>zh (by
     rw[hUX,hX,vJ (n+1) (by omega) (by omega)];exact hsub.out.1 a5 k5 (wr.drewN q) (n+1) (L-1) l5 (i5.drewN q) (by omega) (by omega) (by omega))
    have hce:∀q,Hid (Calls Tryz.prog 59 #[.slice a6 els.len k6,.int .i64 U] (wr.drewN q) λe w'=>e=.returned (.int .i64 V)/\∃m,w'=(wr.drewN q).drewN m):=λq=>zh (by
     rw[hVY,hY];exact hsub.out.2.1 a6 k6 (wr.drewN q) U X l6 (i6.drewN q) (by omega) (by omega) (by omega))
    have hsr:=zh hsub.out.2.2;clear hr hrest i4 i5 i6 hi hsub hc hX hY;have hVY2:=zh hVY;clear hUX hVY;go_wp2_with fail
    go_quiet ((first |(go_at_call 59;with_reducible exact quietMany (hcb _).out) |(go_at_call 59;with_reducible exact quietMany (hce _).out)))
    go_wp2;exact⟨⟨i+1,m+nq,rest,Y,V,by simp,rfl,by have:=hVY2.out;omega,hY0,hY1,zh (by rw[hwr.out,World.drewN_drewN]),by omega,zh (hr2.out.drewN nq),hsr,hc2⟩,by simp[intOf];omega⟩
theorem rcount_any(l:Il):CountC l:=Il.each rcount_step l
end Go.Proofs.YtacohbllbjgdgaaGreatDoor
