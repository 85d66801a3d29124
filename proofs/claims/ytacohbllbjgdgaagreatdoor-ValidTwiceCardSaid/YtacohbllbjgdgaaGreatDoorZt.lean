/- The reference's checker: limits, offsets, the first that is wrong. -/
import Derived.Test.YtacohbllbjgdgaaGreatDoorZe
import Derived.Test.YtacohbllbjgdgaaGreatDoorMh
import Derived.Test.YtacohbllbjgdgaaGreatDoorZa
set_option linter.all false
set_option maxRecDepth 100000
set_option maxHeartbeats 40000000
namespace Go.Proofs.YtacohbllbjgdgaaGreatDoor
open Go.RowKit
def eLim (most:Int) (x:Int×Int×Bool):Int:=if(x.2.2=true/\x.2.1<x.1)\/most<x.1\/most<x.2.1 then 60 else 0
def limV (most:Int) (l:List (Int×Int×Bool)):Int:=zX (yL l.length) (zD (eLim most) l)
def offV (op:Int):Int:=if op=35 then 62 else if op=65 then 0 else 60
section
variable {w:World}
theorem roffset_any(op x y n:Int)(v4 v5 v6:Value)(w:World):Calls Tryz.prog 57 #[.agg #[.int .i64 op,.int .i64 x,.int .i64 y,.int .i64 n,v4,v5,v6]] w λe w'=>e=.returned (.int .i64 (offV op))/\Below w.heap.size w w':=by
 have hb:=Below.of_alloc w (.cells #[.int .i64 op,.int .i64 x,.int .i64 y,.int .i64 n,v4,v5,v6] 49)
 by_cases h1:op=35
 . subst h1;go_enter Tryz.func57,Tryz.ntmps57;go_wp2;go_ret;exact⟨rfl,hb⟩
 . by_cases h2:op=65
   . subst h2;go_enter Tryz.func57,Tryz.ntmps57;go_wp2;go_ret;exact⟨rfl,hb⟩
   . have e:offV op=60:=(by unfold offV;rw[if_neg h1,if_neg h2])
     have b1:(op==35)=false:=(by simp[h1])
     have b2:(op==65)=false:=(by simp[h2])
     rw[e];clear h1 h2;go_enter Tryz.func57,Tryz.ntmps57;go_wp2;go_ret;exact⟨rfl,hb⟩
theorem rfirst_any{l:List Int}{a:Option Addr}{c:Nat}(h:IntsIn w a l):Calls Tryz.prog 32 #[.slice a l.length c] w λe w'=>e=.returned (.int .i64 (zD (λx=>x) l))/\w'=w:=by
 have h63:=h.1;generalize hX:zD (λx:Int=>x) l=X;have hX0:Hid (X=zD (λx:Int=>x) (l.drop 0)):=zh hX.symm;clear hX;go_enter Tryz.func32,Tryz.ntmps32;go_wp2_with fail;go_loopw [3] (λvi wr=>wr=w/\∃i:Nat,vi=.int .i64 i/\i<=l.length/\Hid (X=zD (λx:Int=>x) (l.drop i))) (λvi _=>l.length-(intOf vi).toNat)
 case atStart=>exact⟨rfl,0,rfl,Nat.zero_le _,hX0⟩
 case round=>
  clear hX0;obtain⟨rfl,i,rfl,hi,hq⟩:=hrel
  by_cases hlt:i<l.length
  . obtain⟨x,hx⟩:∃x,l[i]? =some x:=⟨_,List.getElem?_eq_getElem hlt⟩
    obtain⟨b,o,rfl,hc⟩:=h.at hx;have i0:(0:Int)<=(i:Int):=(by omega)
    have hq1:=hq.out.trans (qE hx);clear hq
    by_cases hz:x=0
    . rw[if_pos hz]at hq1;replace hq1:=zh hq1;subst hz;go_wp2
      go_roundw
      case rel=>exact⟨trivial,i+1,by simp,by omega,hq1⟩
      case measure=>simp[intOf];omega
    . rw[if_neg hz]at hq1;have hne:(x !=0)=true:=(by simp[hz])
      subst hq1;go_wp2;go_ret;exact⟨rfl,rfl⟩
  . obtain rfl:i=l.length:=by omega
    have e:X=0:=(by have:=hq.out;rw[List.drop_length]at this;exact this)
    subst e;go_wp2;go_ret;exact⟨rfl,rfl⟩
theorem rlimits_any'(most:Int){l:List (Int×Int×Bool)}{a:Option Addr}{c:Nat}(h:RowsIn LimitsAt 3 w a l):Calls Tryz.prog 56 #[.slice a l.length c,.int .i64 most] w λe w'=>e=.returned (.int .i64 (limV most l))/\Below w.heap.size w w':=by
 have h63:=h.1
 by_cases hl:l.length<=1
 . have e1:limV most l=zD (eLim most) l:=by unfold limV;rw[show yL l.length=0 by unfold yL;rw[if_pos hl]];rfl
   rw[e1];generalize hX:zD (eLim most) l=X;have hX0:Hid (X=zD (eLim most) (l.drop 0)):=zh hX.symm;clear hX e1;have i1:¬(1:Int)<(l.length:Int):=(by omega)
   have i2:¬1<l.length:=(by omega)
   replace hl:=zh hl;go_enter Tryz.func56,Tryz.ntmps56;go_wp2_with fail;go_loopw [5] (λvi wr=>∃i:Nat,vi=.int .i64 i/\i<=l.length/\Hid (X=zD (eLim most) (l.drop i))/\Hid (Below w.heap.size w wr)) (λvi _=>l.length-(intOf vi).toNat)
   case atStart=>exact⟨0,rfl,Nat.zero_le _,hX0,zh (Below.refl _ _)⟩
   case round=>
    clear hX0;obtain⟨i,rfl,hi,hq,hb⟩:=hrel
    by_cases hlt:i<l.length
    . obtain⟨x,hx⟩:∃x,l[i]? =some x:=⟨_,List.getElem?_eq_getElem hlt⟩
      obtain⟨b,o,rfl,r1,r2,r3⟩:=h.row hx;replace r1:w.cell? ⟨b,o+i*3,none⟩=some (.int .i64 x.1):=r1;replace r2:w.cell? ⟨b,o+i*3+1,none⟩=some (.int .i64 x.2.1):=r2;replace r3:w.cell? ⟨b,o+i*3+2,none⟩=some (.bool x.2.2):=r3;replace r1:=zA hb.out _ _ r1;replace r2:=zA hb.out _ _ r2;replace r3:=zA hb.out _ _ r3;have hq1:=hq.out.trans (qE hx);have hdr:∀n,Hid (Below w.heap.size w (wr.drewN n)):=λn=>zh (hb.out.trans ((zB n).mono hb.out.size));have i0:(0:Int)<=(i:Int):=(by omega)
      have ilt:(i:Int)<(l.length:Int):=(by omega)
      clear hq hx;obtain⟨mn,mx,hs⟩:=x
      dsimp only at r1 r2 r3 hq1
      have bad:((hs=true/\mx<mn)\/most<mn\/most<mx)->Hid (X=60):=λq=>zh (by
       have e:eLim most (mn,mx,hs)=60:=(by unfold eLim;exact if_pos q)
       rw[hq1,e];rfl)
      have good:¬((hs=true/\mx<mn)\/most<mn\/most<mx)->Hid (X=zD (eLim most) ((l.drop (i+1)))):=λq=>zh (by
       have e:eLim most (mn,mx,hs)=0:=(by unfold eLim;exact if_neg q)
       rw[hq1,e];rfl)
      clear hq1
      have hcase:(hs=true/\mx<mn)\/((hs=false\/(hs=true/\¬mx<mn))/\most<mn)\/((hs=false\/(hs=true/\¬mx<mn))/\¬most<mn/\most<mx)\/((hs=false\/(hs=true/\¬mx<mn))/\¬most<mn/\¬most<mx):=by
       cases hs<;>simp<;>omega
      have h60:Hid (X=60)->X=60:=λq=>q.out
      rcases hcase with⟨rfl,c1⟩ |⟨rfl |⟨rfl,c1⟩,c2⟩ |⟨rfl |⟨rfl,c1⟩,c2,c3⟩ |⟨rfl |⟨rfl,c1⟩,c2,c3⟩
      . have e:=bad (.inl ⟨rfl,c1⟩);replace c1:decide (mx<mn)=true:=decide_eq_true (by omega);clear good bad h60;go_wp2_with fail
        go_quiet (fail)
        go_wp2;go_ret;rw[e.out];exact⟨rfl,(hdr _).out⟩
      . have e:=bad (.inr (.inl c2));replace c2:decide (most<mn)=true:=decide_eq_true (by omega);clear good bad h60;go_wp2_with fail
        go_quiet (fail)
        go_wp2;go_ret;rw[e.out];exact⟨rfl,(hdr _).out⟩
      . have e:=bad (.inr (.inl c2));replace c1:decide (mx<mn)=false:=decide_eq_false (by omega);replace c2:decide (most<mn)=true:=decide_eq_true (by omega);clear good bad h60;go_wp2_with fail
        go_quiet (fail)
        go_wp2;go_ret;rw[e.out];exact⟨rfl,(hdr _).out⟩
      . have e:=bad (.inr (.inr c3));replace c2:decide (most<mn)=false:=decide_eq_false (by omega);replace c3:decide (most<mx)=true:=decide_eq_true (by omega);clear good bad h60;go_wp2_with fail
        go_quiet (fail)
        go_wp2;go_ret;rw[e.out];exact⟨rfl,(hdr _).out⟩
      . have e:=bad (.inr (.inr c3));replace c1:decide (mx<mn)=false:=decide_eq_false (by omega);replace c2:decide (most<mn)=false:=decide_eq_false (by omega);replace c3:decide (most<mx)=true:=decide_eq_true (by omega);clear good bad h60;go_wp2_with fail
        go_quiet (fail)
        go_wp2;go_ret;rw[e.out];exact⟨rfl,(hdr _).out⟩
      . have e:=good (by simp;omega);replace c2:decide (most<mn)=false:=decide_eq_false (by omega);replace c3:decide (most<mx)=false:=decide_eq_false (by omega);clear good bad h60;go_wp2_with fail
        go_quiet (fail)
        have hb2:=hdr nq;go_wp2
        go_roundw
        case rel=>exact⟨i+1,by simp,by omega,e,hb2⟩
        case measure=>simp[intOf];omega
      . have e:=good (by simp;omega);replace c1:decide (mx<mn)=false:=decide_eq_false (by omega);replace c2:decide (most<mn)=false:=decide_eq_false (by omega);replace c3:decide (most<mx)=false:=decide_eq_false (by omega);clear good bad h60;go_wp2_with fail
        go_quiet (fail)
        have hb2:=hdr nq;go_wp2
        go_roundw
        case rel=>exact⟨i+1,by simp,by omega,e,hb2⟩
        case measure=>simp[intOf];omega
    . obtain rfl:i=l.length:=by omega
      have e:X=0:=(by have:=hq.out;rw[List.drop_length]at this;exact this)
      subst e;go_wp2;go_ret;exact⟨rfl,hb.out⟩
 . have e1:limV most l=3:=by unfold limV;rw[show yL l.length=3 by unfold yL;rw[if_neg hl]];rfl
   rw[e1];have i1:(1:Int)<(l.length:Int):=(by omega)
   have i2:1<l.length:=(by omega)
   clear e1 hl;go_enter Tryz.func56,Tryz.ntmps56;go_wp2;go_ret;exact⟨rfl,Below.refl _ _⟩
end
end Go.Proofs.YtacohbllbjgdgaaGreatDoor
namespace Go.Proofs.YtacohbllbjgdgaaGreatDoor
open Go.RowKit
theorem qD(n:Int)(w:World):Calls Tryz.prog 61 #[.int .i64 n] w λe w'=>e=.returned (.bool (zM n))/\w=w':=by
 by_cases h1:0<=n
 . by_cases h2:n<=4294967295
   . have hv:zM n=true:=(by unfold zM;rw[decide_eq_true h1,decide_eq_true (by omega)];rfl)
     go_enter Tryz.func61,Tryz.ntmps61;go_wp2;go_ret;exact⟨by rw[hv];rfl,rfl⟩
   . have hv:zM n=false:=(by unfold zM;rw[decide_eq_true h1,decide_eq_false (by omega)];rfl)
     go_enter Tryz.func61,Tryz.ntmps61;go_wp2;go_ret;exact⟨rfl,rfl⟩
 . have hv:zM n=false:=(by unfold zM;rw[decide_eq_false h1];rfl)
   go_enter Tryz.func61,Tryz.ntmps61;go_wp2;go_ret;exact⟨rfl,rfl⟩
theorem rtypes_any(l:List Int)(ao:Option Addr)(c:Nat)(w:World)(h:IntsIn w ao l):Calls Tryz.prog 60 #[.slice ao l.length c] w λe w'=>e=.returned (.bool (l.all xG))/\w=w':=by
 obtain⟨N,hN⟩:∃N,l.length=N:=⟨_,rfl⟩
 have hl:=h.1;have HI:=zh h;clear h;rw[hN]at hl ⊢;go_enter Tryz.func60,Tryz.ntmps60;go_wp2_with fail;go_loopw [3] (λvi wr=>∃i:Nat,i<=N/\vi=.int .i64 i/\wr=w/\Hid ((l.take i).all xG=true)) (λvi _=>N-(intOf vi).toNat)
 case atStart=>exact⟨0,Nat.zero_le _,rfl,rfl,zh rfl⟩
 case round=>
  obtain⟨i,hi,rfl,rfl,ha⟩:=hrel
  by_cases hlt:i<N
  . obtain⟨x,hx⟩:∃x,l[i]? =some x:=⟨_,List.getElem?_eq_getElem (by omega)⟩
    obtain⟨b,o,rfl,hcell⟩:=HI.out.cell hx;have hn:=zh (all_drop hx ha.out);clear hx ha
    by_cases h6:x=126
    . subst h6;have hn2:=zh (hn.out.1 rfl);clear hn;go_wp2;exact⟨⟨i+1,by omega,by simp,trivial,hn2⟩,by simp[intOf];omega⟩
    by_cases h7:x=127
    . subst h7;have hn2:=zh (hn.out.1 rfl);clear hn;go_wp2;exact⟨⟨i+1,by omega,by simp,trivial,hn2⟩,by simp[intOf];omega⟩
    have hf:xG x=false:=(by unfold xG;simp[h6,h7])
    have q6:(x !=126)=true:=(by simp[h6])
    have q7:(x !=127)=true:=(by simp[h7])
    have hv:=hn.out.2 hf;clear hn;go_wp2;go_ret;exact⟨by rw[hv];rfl,rfl⟩
  . have hiN:i=N:=(by omega)
    subst hiN;have ha2:l.all xG=true:=(by have:=ha.out;rwa [List.take_of_length_le (by omega)]at this)
    clear ha;go_wp2;go_ret;exact⟨by rw[ha2];rfl,rfl⟩
theorem jN(l:List Int)(ao:Option Addr)(c:Nat)(w:World)(h:IntsIn w ao l):Calls Tryz.prog 66 #[.slice ao l.length c] w λe w'=>e=.returned (.bool (l.all zM))/\w=w':=by
 obtain⟨N,hN⟩:∃N,l.length=N:=⟨_,rfl⟩
 have hl:=h.1;have HI:=zh h;clear h;rw[hN]at hl ⊢;go_enter Tryz.func66,Tryz.ntmps66;go_wp2_with fail;go_loopw [3] (λvi wr=>∃i:Nat,i<=N/\vi=.int .i64 i/\wr=w/\Hid ((l.take i).all zM=true)) (λvi _=>N-(intOf vi).toNat)
 case atStart=>exact⟨0,Nat.zero_le _,rfl,rfl,zh rfl⟩
 case round=>
  obtain⟨i,hi,rfl,rfl,ha⟩:=hrel
  by_cases hlt:i<N
  . obtain⟨x,hx⟩:∃x,l[i]? =some x:=⟨_,List.getElem?_eq_getElem (by omega)⟩
    obtain⟨b,o,rfl,hcell⟩:=HI.out.cell hx;have hn:=zh (all_drop hx ha.out);clear hx ha;go_wp2_with fail;refine(qD x _).mono ?_;rintro e w2 ⟨rfl,rfl⟩;cases hX:zM x
    . have hv:=hn.out.2 hX;clear hn;go_wp2;go_ret;exact⟨by rw[hv];rfl,rfl⟩
    . have hn2:=zh (hn.out.1 hX);clear hn;go_wp2;exact⟨⟨i+1,by omega,by simp,trivial,hn2⟩,by simp[intOf];omega⟩
  . have hiN:i=N:=(by omega)
    subst hiN;have ha2:l.all zM=true:=(by have:=ha.out;rwa [List.take_of_length_le (by omega)]at this)
    clear ha;go_wp2;go_ret;exact⟨by rw[ha2];rfl,rfl⟩
theorem rlimits_any(l:List (Int×Int×Bool))(ao:Option Addr)(c:Nat)(w:World)(h:RowsIn LimitsAt 3 w ao l):Calls Tryz.prog 67 #[.slice ao l.length c] w λe w'=>e=.returned (.bool (l.all vM))/\w=w':=by
 obtain⟨N,hN⟩:∃N,l.length=N:=⟨_,rfl⟩
 have hl:=h.1;have HI:=zh h;clear h;rw[hN]at hl ⊢;go_enter Tryz.func67,Tryz.ntmps67;go_wp2_with fail;go_loopw [3] (λvi wr=>∃i:Nat,i<=N/\vi=.int .i64 i/\wr=w/\Hid ((l.take i).all vM=true)) (λvi _=>N-(intOf vi).toNat)
 case atStart=>exact⟨0,Nat.zero_le _,rfl,rfl,zh rfl⟩
 case round=>
  obtain⟨i,hi,rfl,rfl,ha⟩:=hrel
  by_cases hlt:i<N
  . obtain⟨t,ht⟩:∃t,l[i]? =some t:=⟨_,List.getElem?_eq_getElem (by omega)⟩
    obtain⟨b,o,rfl,hrow⟩:=HI.out.row ht;obtain⟨mn,mx,has⟩:=t;obtain⟨c0,c1,c2⟩:=hrow;have c0:wr.cell? ⟨b,o+i*3,none⟩=some (.int .i64 mn):=c0;have c1:wr.cell? ⟨b,o+i*3+1,none⟩=some (.int .i64 mx):=c1;have c2:wr.cell? ⟨b,o+i*3+2,none⟩=some (.bool has):=c2;have hn:=zh (jB ht ha.out);clear ht ha;go_wp2_with fail;refine(qD mn _).mono ?_;rintro e w2 ⟨rfl,rfl⟩;cases hX:zM mn
    . have hv:=hn.out.2 (by unfold vM;rw[hX];rfl);clear hn;go_wp2;go_ret;exact⟨by rw[hv];rfl,rfl⟩
    . go_wp2_with fail;refine(qD mx _).mono ?_;rintro e w2 ⟨rfl,rfl⟩;cases hY:zM mx
      . have hv:=hn.out.2 (by unfold vM;rw[hX,hY];rfl);clear hn;go_wp2;go_ret;exact⟨by rw[hv];rfl,rfl⟩
      . cases has
        . by_cases h0:mx=0
          . subst h0;have hn2:=zh (hn.out.1 (by unfold vM;rw[hX,hY];rfl));clear hn;go_wp2;exact⟨⟨i+1,by omega,by simp,trivial,hn2⟩,by simp[intOf];omega⟩
          . have q0:(mx==0)=false:=(by simp[h0])
            have hv:=hn.out.2 (by unfold vM;rw[hX,hY];exact q0);clear hn;go_wp2;go_ret;exact⟨by rw[hv];rfl,rfl⟩
        . have hn2:=zh (hn.out.1 (by unfold vM;rw[hX,hY];rfl));clear hn;go_wp2;exact⟨⟨i+1,by omega,by simp,trivial,hn2⟩,by simp[intOf];omega⟩
  . have hiN:i=N:=(by omega)
    subst hiN;have ha2:l.all vM=true:=(by have:=ha.out;rwa [List.take_of_length_le (by omega)]at this)
    clear ha;go_wp2;go_ret;exact⟨by rw[ha2];rfl,rfl⟩
end Go.Proofs.YtacohbllbjgdgaaGreatDoor
