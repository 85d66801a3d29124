/- Plain laws of UTF-8: what the reference's loop asks, against the library's tables. -/
import Derived.Lib.ValidLaws
import Derived.Laws.BitsLemmas
import Derived.Test.YtacohbllbjgdgaaGreatDoorRows
import Derived.Test.YtacohbllbjgdgaaGreatDoorZa
import Derived.Lib.Hide
import Derived.Test.YtacohbllbjgdgaaGreatDoorOa
set_option linter.all false
set_option maxRecDepth 100000
set_option maxHeartbeats 2000000
namespace Go.Proofs.YtacohbllbjgdgaaGreatDoor
open Go Go.Lib
def byN (l:List UInt8) (k:Nat):Nat:=(l.getD k 0).toNat
theorem byN_lt(l:List UInt8)(k:Nat):byN l k<256:=(l.getD k 0).toNat_lt
def xU (a:Nat) (f:Nat->Nat):Nat->Nat
 |0=>a
 |k+1=>xU a f k*64+f (k+1) % 64
theorem accN_lt(a:Nat)(f:Nat->Nat)(ha:a<32):∀k,k<=3->xU a f k<8388608:=by
 intro k hk
 match k,hk with
 |0,_=>simp[xU];omega
 |1,_=>simp[xU];omega
 |2,_=>simp[xU];omega
 |3,_=>simp[xU];omega
theorem utf_bad(l:List UInt8)(hne:l≠[])(h0:128<=byN l 0)(hb:byN l 0<194\/244<byN l 0):validD l=false:=by
 rw[validD_lead l hne h0];have hl:=byN_lt l 0;unfold byN at h0 hb hl
 generalize (l.getD 0 0).toNat=b0 at*
 generalize (l.getD 1 0).toNat=b1;generalize (l.getD 2 0).toNat=b2;generalize (l.getD 3 0).toNat=b3
 have e:firstT b0=241:=by
  unfold firstT
  repeat' split
  all_goals first |rfl |(exfalso;omega)
 rw[e];rfl
theorem utf_1(l:List UInt8)(hne:l≠[])(h0:194<=byN l 0)(h1:byN l 0<=223):validD l=if l.length<2\/¬(128<=byN l 1/\byN l 1<=191)then false else validD (l.drop 2):=by
 rw[validD_lead l hne (by unfold byN at h0;omega)];unfold byN at h0 h1 ⊢
 generalize (l.getD 0 0).toNat=b0 at*
 generalize (l.getD 1 0).toNat=b1;generalize (l.getD 2 0).toNat=b2;generalize (l.getD 3 0).toNat=b3
 have e:firstT b0=2:=by
  unfold firstT
  repeat' split
  all_goals first |rfl |(exfalso;omega)
 rw[e]
 show(match checkN l.length b1 b2 b3 2 128 191 with |none=>false |some k=>validD (l.drop k))=_
 unfold checkN
 by_cases h:l.length<2\/b1<128\/191<b1
 . rw[if_pos rfl,if_pos h,if_pos (by omega)]
 . rw[if_pos rfl,if_neg h,if_neg (by omega)]
theorem utf_2(l:List UInt8)(hne:l≠[])(h0:224<=byN l 0)(h1:byN l 0<=239):validD l=if l.length<3\/¬(128<=byN l 1/\byN l 1<=191)\/¬(128<=byN l 2/\byN l 2<=191)\/xU (byN l 0 % 16) (byN l) 2<2048\/(55296<=xU (byN l 0 % 16) (byN l) 2/\xU (byN l 0 % 16) (byN l) 2<=57343)then false else validD (l.drop 3):=by
 rw[validD_lead l hne (by unfold byN at h0;omega)];simp only[xU,Nat.zero_add,Nat.reduceAdd];unfold byN at h0 h1 ⊢
 generalize (l.getD 0 0).toNat=b0 at*
 generalize (l.getD 1 0).toNat=b1;generalize (l.getD 2 0).toNat=b2;generalize (l.getD 3 0).toNat=b3
 have key:∀lo hi,firstT b0 % 8=3->accLo (firstT b0/16)=lo->accHi (firstT b0/16)=hi->
  ((l.length<3\/b1<lo\/hi<b1\/b2<128\/191<b2)↔(l.length<3\/¬(128<=b1/\b1<=191)\/¬(128<=b2/\b2<=191)\/((b0 % 16)*64+b1 % 64)*64+b2 % 64<2048\/(55296<=((b0 % 16)*64+b1 % 64)*64+b2 % 64/\((b0 % 16)*64+b1 % 64)*64+b2 % 64<=57343)))->
  (match checkN l.length b1 b2 b3 (firstT b0 % 8) (accLo (firstT b0/16)) (accHi (firstT b0/16))with |none=>false |some k=>validD (l.drop k))=if(l.length<3\/¬(128<=b1/\b1<=191)\/¬(128<=b2/\b2<=191)\/((b0 % 16)*64+b1 % 64)*64+b2 % 64<2048\/(55296<=((b0 % 16)*64+b1 % 64)*64+b2 % 64/\((b0 % 16)*64+b1 % 64)*64+b2 % 64<=57343))then false else validD (l.drop 3):=by
  intro lo hi e1 e2 e3 hiff;rw[e1,e2,e3];unfold checkN
  by_cases h:l.length<3\/b1<lo\/hi<b1\/b2<128\/191<b2
  . rw[if_neg (by decide),if_pos rfl,if_pos h,if_pos (hiff.1 h)]
  . rw[if_neg (by decide),if_pos rfl,if_neg h,if_neg (λc=>h (hiff.2 c))]
 by_cases c0:b0=224
 . subst c0;exact key 160 191 (by decide) (by decide) (by decide) (by omega)
 by_cases c1:b0=237
 . subst c1;exact key 128 159 (by decide) (by decide) (by decide) (by omega)
 have e:firstT b0=3:=by
  unfold firstT
  repeat' split
  all_goals first |rfl |(exfalso;omega)
 exact key 128 191 (by rw[e]) (by rw[e];decide) (by rw[e];decide) (by omega)
theorem utf_3(l:List UInt8)(hne:l≠[])(h0:240<=byN l 0)(h1:byN l 0<=244):validD l=if l.length<4\/¬(128<=byN l 1/\byN l 1<=191)\/¬(128<=byN l 2/\byN l 2<=191)\/¬(128<=byN l 3/\byN l 3<=191)\/xU (byN l 0 % 8) (byN l) 3<65536\/1114111<xU (byN l 0 % 8) (byN l) 3 then false else validD (l.drop 4):=by
 rw[validD_lead l hne (by unfold byN at h0;omega)];simp only[xU,Nat.zero_add,Nat.reduceAdd];unfold byN at h0 h1 ⊢
 generalize (l.getD 0 0).toNat=b0 at*
 generalize (l.getD 1 0).toNat=b1;generalize (l.getD 2 0).toNat=b2;generalize (l.getD 3 0).toNat=b3;obtain⟨V,hV⟩:∃V,(((b0 % 8)*64+b1 % 64)*64+b2 % 64)*64+b3 % 64=V:=⟨_,rfl⟩
 rw[hV]
 have key:∀lo hi,firstT b0 % 8=4->accLo (firstT b0/16)=lo->accHi (firstT b0/16)=hi->
  ((l.length<4\/b1<lo\/hi<b1\/b2<128\/191<b2\/b3<128\/191<b3)↔(l.length<4\/¬(128<=b1/\b1<=191)\/¬(128<=b2/\b2<=191)\/¬(128<=b3/\b3<=191)\/V<65536\/1114111<V))->
  (match checkN l.length b1 b2 b3 (firstT b0 % 8) (accLo (firstT b0/16)) (accHi (firstT b0/16))with |none=>false |some k=>validD (l.drop k))=if(l.length<4\/¬(128<=b1/\b1<=191)\/¬(128<=b2/\b2<=191)\/¬(128<=b3/\b3<=191)\/V<65536\/1114111<V)then false else validD (l.drop 4):=by
  intro lo hi e1 e2 e3 hiff;rw[e1,e2,e3];unfold checkN
  by_cases h:l.length<4\/b1<lo\/hi<b1\/b2<128\/191<b2\/b3<128\/191<b3
  . rw[if_neg (by decide),if_neg (by decide),if_pos rfl,if_pos h,if_pos (hiff.1 h)]
  . rw[if_neg (by decide),if_neg (by decide),if_pos rfl,if_neg h,if_neg (λc=>h (hiff.2 c))]
 by_cases c0:b0=240
 . subst c0;exact key 144 191 (by decide) (by decide) (by decide) (by omega)
 by_cases c1:b0=244
 . subst c1;exact key 128 143 (by decide) (by decide) (by decide) (by omega)
 have e:firstT b0=4:=by
  unfold firstT
  repeat' split
  all_goals first |rfl |(exfalso;omega)
 exact key 128 191 (by rw[e]) (by rw[e];decide) (by rw[e];decide) (by omega)
/-! ### bits -/
theorem and31_f:∀b:Fin 256,bits .and .i64 (b.val:Int) 31=((b.val % 32:Nat):Int):=by decide+kernel
theorem and15_f:∀b:Fin 256,bits .and .i64 (b.val:Int) 15=((b.val % 16:Nat):Int):=by decide+kernel
theorem and7_f:∀b:Fin 256,bits .and .i64 (b.val:Int) 7=((b.val % 8:Nat):Int):=by decide+kernel
theorem and192_f:∀b:Fin 256,bits .and .u8 (b.val:Int) 192=((b.val/64*64:Nat):Int):=by decide+kernel
theorem and63_f:∀b:Fin 256,bits .and .u8 (b.val:Int) 63=((b.val % 64:Nat):Int):=by decide+kernel
theorem wrap_i64_63(n:Int)(h0:0<=n)(h1:n<2^63):IntKind.i64.wrap n=n:=by
 have e:(2:Int)^63=9223372036854775808:=(by decide)
 rw[e]at h1;simp[IntKind.wrap,IntKind.bits,IntKind.signed];omega
theorem or_64(x y:Nat)(hx:x<1000000000)(hy:y<64):bits .or .i64 ((x:Int)*64) (y:Int)=((x*64+y:Nat):Int):=by have:=bits_join .i64 63 (by decide) wrap_i64_63 6 ((x:Int)*64) (y:Int) (by omega) (by omega) (by omega) (by omega) (by omega) (by omega);rw[this];omega
end Go.Proofs.YtacohbllbjgdgaaGreatDoor
namespace Go.Proofs.YtacohbllbjgdgaaGreatDoor
open Go.RowKit
theorem by_at(s:ByteArray)(i k:Nat)(h:i+k<s.size):byN (s.data.toList.drop i) k=(s[i+k]'h).toNat:=by
 unfold byN;have h2:i+k<s.data.toList.length:=(by simpa using h)
 rw[List.getD_eq_getElem?_getD,List.getElem?_drop,List.getElem?_eq_getElem h2];rfl
theorem conts_1(s:ByteArray)(i:Nat)(hi:i<s.size):(s.data.toList.drop i)≠[]:=by intro h;have:=congrArg List.length h;simp at this;omega
theorem len_drop(s:ByteArray)(i:Nat):(s.data.toList.drop i).length=s.size-i:=by simp
theorem utf_at1(s:ByteArray)(i a:Nat)(hlt:i<s.size)(h0:194<=((s[i]'hlt).toNat:Int))(h1:((s[i]'hlt).toNat:Int)<=223)(ha:(s[i]'hlt).toNat % 32=a):Lib.validD (s.data.toList.drop i)=if s.size-i<2\/¬(128<=byN (s.data.toList.drop i) 1/\byN (s.data.toList.drop i) 1<=191)then false else Lib.validD (s.data.toList.drop (i+2)):=by
 have hb:byN (s.data.toList.drop i) 0=(s[i]'hlt).toNat:=by_at s i 0 hlt;rw[utf_1 _ (conts_1 s i hlt) (by omega) (by omega),len_drop,List.drop_drop]
theorem utf_at2(s:ByteArray)(i a:Nat)(hlt:i<s.size)(h0:224<=((s[i]'hlt).toNat:Int))(h1:((s[i]'hlt).toNat:Int)<=239)(ha:(s[i]'hlt).toNat % 16=a):Lib.validD (s.data.toList.drop i)=if s.size-i<3\/¬(128<=byN (s.data.toList.drop i) 1/\byN (s.data.toList.drop i) 1<=191)\/¬(128<=byN (s.data.toList.drop i) 2/\byN (s.data.toList.drop i) 2<=191)\/xU a (byN (s.data.toList.drop i)) 2<2048\/(55296<=xU a (byN (s.data.toList.drop i)) 2/\xU a (byN (s.data.toList.drop i)) 2<=57343)then false else Lib.validD (s.data.toList.drop (i+3)):=by
 have hb:byN (s.data.toList.drop i) 0=(s[i]'hlt).toNat:=by_at s i 0 hlt;have ha2:byN (s.data.toList.drop i) 0 % 16=a:=(by rw[hb,ha])
 have:=utf_2 _ (conts_1 s i hlt) (by omega) (by omega);rw[len_drop,List.drop_drop,ha2]at this;exact this
theorem utf_at3(s:ByteArray)(i a:Nat)(hlt:i<s.size)(h0:240<=((s[i]'hlt).toNat:Int))(h1:((s[i]'hlt).toNat:Int)<=244)(ha:(s[i]'hlt).toNat % 8=a):Lib.validD (s.data.toList.drop i)=if s.size-i<4\/¬(128<=byN (s.data.toList.drop i) 1/\byN (s.data.toList.drop i) 1<=191)\/¬(128<=byN (s.data.toList.drop i) 2/\byN (s.data.toList.drop i) 2<=191)\/¬(128<=byN (s.data.toList.drop i) 3/\byN (s.data.toList.drop i) 3<=191)\/xU a (byN (s.data.toList.drop i)) 3<65536\/1114111<xU a (byN (s.data.toList.drop i)) 3 then false else Lib.validD (s.data.toList.drop (i+4)):=by
 have hb:byN (s.data.toList.drop i) 0=(s[i]'hlt).toNat:=by_at s i 0 hlt;have ha2:byN (s.data.toList.drop i) 0 % 8=a:=(by rw[hb,ha])
 have:=utf_3 _ (conts_1 s i hlt) (by omega) (by omega);rw[len_drop,List.drop_drop,ha2]at this;exact this
theorem utf_any(s:ByteArray)(w:World)(hs:s.size<=9223372036854775000):Calls Tryz.prog 88 #[.string s] w λe w'=>e=.returned (.bool (Lib.validD s.data.toList))/\w=w':=by
 go_enter Tryz.func88,Tryz.ntmps88;go_wp2;go_loopw [3] (λvi wr=>∃i:Nat,i<=s.size/\vi=.int .i64 i/\wr=w/\Hid (Lib.validD s.data.toList=Lib.validD (s.data.toList.drop i))) (λvi _=>s.size-(intOf vi).toNat)
 case atStart=>exact⟨0,Nat.zero_le _,rfl,rfl,zh (by simp)⟩
 case round=>
  obtain⟨i,hi,rfl,rfl,ha⟩:=hrel
  by_cases hlt:i<s.size
  . have h256:(s[i]'hlt).toNat<256:=UInt8.toNat_lt _;have hb0:=zh (by_at s i 0 hlt);have hne:=zh (conts_1 s i hlt);go_wp2
    . refine⟨⟨i+1,by omega,by simp,trivial,zh ?_⟩,by simp[intOf];omega⟩;rw[ha.out];have hc:=hb0.out
      have hd:s.data.toList.drop i=(s.data.toList.drop i).getD 0 0::s.data.toList.drop (i+1):=by
       have h2:i<s.data.toList.length:=(by simpa using hlt)
       rw[List.drop_eq_getElem_cons h2];rfl
      rw[hd];refine Lib.validD_cons _ _ ?_
      show byN (s.data.toList.drop i) 0<128
      rw[hc]
      show(s[i]'hlt).toNat<128
      omega
    . have hA:bits .and .i64 ((s[i]'hlt).toNat:Int) 31=(((s[i]'hlt).toNat % 32:Nat):Int):=and31_f ⟨_,h256⟩;rw[hA];obtain⟨a,hea⟩:∃a,(s[i]'hlt).toNat % 32=a:=⟨_,rfl⟩
      rw[hea];have ha32:a<32:=(by omega)
      have hU:=zh (ha.out.trans (utf_at1 s i a hlt (by omega) (by omega) hea));have hby:=zh (by_at s i)
      generalize byN (s.data.toList.drop i)=F at hU hby
      clear ha hA hb0 hne
      try generalize Value.bool (decide (((s[i]'hlt).toNat:Int)<128))=g0
      try generalize Value.bool (decide (((s[i]'hlt).toNat:Int)<=223))=g1
      try generalize Value.bool (decide (((s[i]'hlt).toNat:Int)<=239))=g2
      try generalize Value.bool (decide (((s[i]'hlt).toNat:Int)<=244))=g3
      go_loopw [4,7] (λv4 v7 wr2=>∃k:Nat,1<=k/\k<=1+1/\v4=.int .i64 ((xU a F (k-1):Nat):Int)/\v7=.int .i64 k/\wr2=wr/\Hid (∀j,1<=j->j<k->i+j<s.size/\128<=F j/\F j<=191)) (λv4 v7 _=>1+1-(intOf v7).toNat)
      case atStart=>exact⟨1,by omega,by omega,rfl,rfl,rfl,zh (λj h1 h2=>absurd h1 (by omega))⟩
      case round=>
       obtain⟨k,hk1,hk2,rfl,rfl,rfl,hc⟩:=hrel;obtain⟨x,hx⟩:∃x,xU a F (k-1)=x:=⟨_,rfl⟩
       have hxb:x<8388608:=(by rw[<-hx];exact accN_lt a F ha32 _ (by omega))
       rw[hx];have hx:=zh hx
       by_cases hkn:k<=1
       . by_cases hin:i+k<s.size
         . have h256k:(s[i+k]'hin).toNat<256:=UInt8.toNat_lt _;have hbk:=zh (hby.out k hin);have h192:bits .and .u8 ((s[i+k]'hin).toNat:Int) 192=(((s[i+k]'hin).toNat/64*64:Nat):Int):=and192_f ⟨_,h256k⟩;have h63:bits .and .u8 ((s[i+k]'hin).toNat:Int) 63=(((s[i+k]'hin).toNat % 64:Nat):Int):=and63_f ⟨_,h256k⟩
           have hor:bits .or .i64 ((x:Int)*64) (((s[i+k]'hin).toNat:Int) % 64)=((x*64+(s[i+k]'hin).toNat % 64:Nat):Int):=by have:=or_64 x ((s[i+k]'hin).toNat % 64) (by omega) (by omega);simpa using this
           go_wp2
           . rename_i hgd
             have hgd2:¬((((s[i+k]'hin).toNat:Int))/64*64=128):=by
              rcases hgd with h |h
              . omega
              . simpa using h
             have hv:Lib.validD s.data.toList=false:=by
              rw[hU.out];refine if_pos ?_;have c1:=hc.out 1;have c2:=hc.out 2;have hbk2:=hbk.out;have hk3:k=1\/k=2\/k=3:=(by omega)
              rcases hk3 with rfl |rfl |rfl<;>omega
             go_ret;exact⟨by rw[hv];rfl,rfl⟩
           . rename_i hgd
             have hgd2:(((s[i+k]'hin).toNat:Int))/64*64=128:=by simp at hgd;omega
             go_roundw
             case rel=>
              refine⟨k+1,by omega,by omega,?_,by simp,trivial,zh ?_⟩
              . obtain⟨k',rfl⟩:∃k',k=k'+1:=⟨k-1,by omega⟩
                have hx2:=hx.out;simp only[Nat.add_sub_cancel]at hx2;have hbk2:=hbk.out
                have e:((xU a F (k'+1+1-1):Nat):Int)=(x:Int)*64+((s[i+(k'+1)]'hin).toNat:Int) % 64:=by
                 show((xU a F (k'+1):Nat):Int)=_
                 simp only[xU];rw[hx2,hbk2];omega
                rw[e]
              . intro j hj1 hj2
                by_cases hjk:j=k
                . subst hjk;have:=hbk.out;exact⟨hin,by omega,by omega⟩
                . exact hc.out j hj1 (by omega)
             case measure=>simp[intOf];omega
         . go_wp2
           have hv:Lib.validD s.data.toList=false:=by rw[hU.out];refine if_pos ?_;omega
           go_ret;exact⟨by rw[hv];rfl,rfl⟩
       . have hkN:k=1+1:=(by omega)
         subst hkN;have hx2:xU a F 1=x:=hx.out;have hx3:=hx2;simp only[xU,Nat.zero_add,Nat.reduceAdd]at hx3;have c1:i+1<s.size/\128<=F 1/\F 1<=191:=hc.out 1 (by omega) (by omega)
         try simp only[hx2]at hU
         go_wp2_with fail
         . refine(in_any _ _ _ _).mono ?_;rintro e wq ⟨rfl,rfl⟩;go_wp2
           go_roundw
           case rel=>refine⟨i+(1+1),by omega,by simp,trivial,zh ?_⟩;rw[hU.out];exact if_neg (by omega)
           case measure=>simp[intOf];omega
         all_goals(
          have hv:Lib.validD s.data.toList=false:=by rw[hU.out];first |(refine if_pos ?_;omega) |(exfalso;omega)
          go_ret;exact⟨by rw[hv];rfl,rfl⟩)
    . have hA:bits .and .i64 ((s[i]'hlt).toNat:Int) 15=(((s[i]'hlt).toNat % 16:Nat):Int):=and15_f ⟨_,h256⟩;rw[hA];obtain⟨a,hea⟩:∃a,(s[i]'hlt).toNat % 16=a:=⟨_,rfl⟩
      rw[hea];have ha32:a<32:=(by omega)
      have hU:=zh (ha.out.trans (utf_at2 s i a hlt (by omega) (by omega) hea));have hby:=zh (by_at s i)
      generalize byN (s.data.toList.drop i)=F at hU hby
      clear ha hA hb0 hne
      try generalize Value.bool (decide (((s[i]'hlt).toNat:Int)<128))=g0
      try generalize Value.bool (decide (((s[i]'hlt).toNat:Int)<=223))=g1
      try generalize Value.bool (decide (((s[i]'hlt).toNat:Int)<=239))=g2
      try generalize Value.bool (decide (((s[i]'hlt).toNat:Int)<=244))=g3
      go_loopw [4,7] (λv4 v7 wr2=>∃k:Nat,1<=k/\k<=2+1/\v4=.int .i64 ((xU a F (k-1):Nat):Int)/\v7=.int .i64 k/\wr2=wr/\Hid (∀j,1<=j->j<k->i+j<s.size/\128<=F j/\F j<=191)) (λv4 v7 _=>2+1-(intOf v7).toNat)
      case atStart=>exact⟨1,by omega,by omega,rfl,rfl,rfl,zh (λj h1 h2=>absurd h1 (by omega))⟩
      case round=>
       obtain⟨k,hk1,hk2,rfl,rfl,rfl,hc⟩:=hrel;obtain⟨x,hx⟩:∃x,xU a F (k-1)=x:=⟨_,rfl⟩
       have hxb:x<8388608:=(by rw[<-hx];exact accN_lt a F ha32 _ (by omega))
       rw[hx];have hx:=zh hx
       by_cases hkn:k<=2
       . by_cases hin:i+k<s.size
         . have h256k:(s[i+k]'hin).toNat<256:=UInt8.toNat_lt _;have hbk:=zh (hby.out k hin);have h192:bits .and .u8 ((s[i+k]'hin).toNat:Int) 192=(((s[i+k]'hin).toNat/64*64:Nat):Int):=and192_f ⟨_,h256k⟩;have h63:bits .and .u8 ((s[i+k]'hin).toNat:Int) 63=(((s[i+k]'hin).toNat % 64:Nat):Int):=and63_f ⟨_,h256k⟩
           have hor:bits .or .i64 ((x:Int)*64) (((s[i+k]'hin).toNat:Int) % 64)=((x*64+(s[i+k]'hin).toNat % 64:Nat):Int):=by have:=or_64 x ((s[i+k]'hin).toNat % 64) (by omega) (by omega);simpa using this
           go_wp2
           . rename_i hgd
             have hgd2:¬((((s[i+k]'hin).toNat:Int))/64*64=128):=by
              rcases hgd with h |h
              . omega
              . simpa using h
             have hv:Lib.validD s.data.toList=false:=by
              rw[hU.out];refine if_pos ?_;have c1:=hc.out 1;have c2:=hc.out 2;have hbk2:=hbk.out;have hk3:k=1\/k=2\/k=3:=(by omega)
              rcases hk3 with rfl |rfl |rfl<;>omega
             go_ret;exact⟨by rw[hv];rfl,rfl⟩
           . rename_i hgd
             have hgd2:(((s[i+k]'hin).toNat:Int))/64*64=128:=by simp at hgd;omega
             go_roundw
             case rel=>
              refine⟨k+1,by omega,by omega,?_,by simp,trivial,zh ?_⟩
              . obtain⟨k',rfl⟩:∃k',k=k'+1:=⟨k-1,by omega⟩
                have hx2:=hx.out;simp only[Nat.add_sub_cancel]at hx2;have hbk2:=hbk.out
                have e:((xU a F (k'+1+1-1):Nat):Int)=(x:Int)*64+((s[i+(k'+1)]'hin).toNat:Int) % 64:=by
                 show((xU a F (k'+1):Nat):Int)=_
                 simp only[xU];rw[hx2,hbk2];omega
                rw[e]
              . intro j hj1 hj2
                by_cases hjk:j=k
                . subst hjk;have:=hbk.out;exact⟨hin,by omega,by omega⟩
                . exact hc.out j hj1 (by omega)
             case measure=>simp[intOf];omega
         . go_wp2
           have hv:Lib.validD s.data.toList=false:=by rw[hU.out];refine if_pos ?_;omega
           go_ret;exact⟨by rw[hv];rfl,rfl⟩
       . have hkN:k=2+1:=(by omega)
         subst hkN;have hx2:xU a F 2=x:=hx.out;have hx3:=hx2;simp only[xU,Nat.zero_add,Nat.reduceAdd]at hx3;have c1:i+1<s.size/\128<=F 1/\F 1<=191:=hc.out 1 (by omega) (by omega);have c2:i+2<s.size/\128<=F 2/\F 2<=191:=hc.out 2 (by omega) (by omega)
         try simp only[hx2]at hU
         go_wp2_with fail
         . refine(in_any _ _ _ _).mono ?_;rintro e wq ⟨rfl,rfl⟩;go_wp2
           . have hv:Lib.validD s.data.toList=false:=by rw[hU.out];first |(refine if_pos ?_;omega) |(exfalso;omega)
             go_ret;exact⟨by rw[hv];rfl,rfl⟩
           . go_roundw
             case rel=>refine⟨i+(2+1),by omega,by simp,trivial,zh ?_⟩;rw[hU.out];exact if_neg (by omega)
             case measure=>simp[intOf];omega
         all_goals(
          have hv:Lib.validD s.data.toList=false:=by rw[hU.out];first |(refine if_pos ?_;omega) |(exfalso;omega)
          go_ret;exact⟨by rw[hv];rfl,rfl⟩)
    . have hA:bits .and .i64 ((s[i]'hlt).toNat:Int) 7=(((s[i]'hlt).toNat % 8:Nat):Int):=and7_f ⟨_,h256⟩;rw[hA];obtain⟨a,hea⟩:∃a,(s[i]'hlt).toNat % 8=a:=⟨_,rfl⟩
      rw[hea];have ha32:a<32:=(by omega)
      have hU:=zh (ha.out.trans (utf_at3 s i a hlt (by omega) (by omega) hea));have hby:=zh (by_at s i)
      generalize byN (s.data.toList.drop i)=F at hU hby
      clear ha hA hb0 hne
      try generalize Value.bool (decide (((s[i]'hlt).toNat:Int)<128))=g0
      try generalize Value.bool (decide (((s[i]'hlt).toNat:Int)<=223))=g1
      try generalize Value.bool (decide (((s[i]'hlt).toNat:Int)<=239))=g2
      try generalize Value.bool (decide (((s[i]'hlt).toNat:Int)<=244))=g3
      go_loopw [4,7] (λv4 v7 wr2=>∃k:Nat,1<=k/\k<=3+1/\v4=.int .i64 ((xU a F (k-1):Nat):Int)/\v7=.int .i64 k/\wr2=wr/\Hid (∀j,1<=j->j<k->i+j<s.size/\128<=F j/\F j<=191)) (λv4 v7 _=>3+1-(intOf v7).toNat)
      case atStart=>exact⟨1,by omega,by omega,rfl,rfl,rfl,zh (λj h1 h2=>absurd h1 (by omega))⟩
      case round=>
       obtain⟨k,hk1,hk2,rfl,rfl,rfl,hc⟩:=hrel;obtain⟨x,hx⟩:∃x,xU a F (k-1)=x:=⟨_,rfl⟩
       have hxb:x<8388608:=(by rw[<-hx];exact accN_lt a F ha32 _ (by omega))
       rw[hx];have hx:=zh hx
       by_cases hkn:k<=3
       . by_cases hin:i+k<s.size
         . have h256k:(s[i+k]'hin).toNat<256:=UInt8.toNat_lt _;have hbk:=zh (hby.out k hin);have h192:bits .and .u8 ((s[i+k]'hin).toNat:Int) 192=(((s[i+k]'hin).toNat/64*64:Nat):Int):=and192_f ⟨_,h256k⟩;have h63:bits .and .u8 ((s[i+k]'hin).toNat:Int) 63=(((s[i+k]'hin).toNat % 64:Nat):Int):=and63_f ⟨_,h256k⟩
           have hor:bits .or .i64 ((x:Int)*64) (((s[i+k]'hin).toNat:Int) % 64)=((x*64+(s[i+k]'hin).toNat % 64:Nat):Int):=by have:=or_64 x ((s[i+k]'hin).toNat % 64) (by omega) (by omega);simpa using this
           go_wp2
           . rename_i hgd
             have hgd2:¬((((s[i+k]'hin).toNat:Int))/64*64=128):=by
              rcases hgd with h |h
              . omega
              . simpa using h
             have hv:Lib.validD s.data.toList=false:=by
              rw[hU.out];refine if_pos ?_;have c1:=hc.out 1;have c2:=hc.out 2;have hbk2:=hbk.out;have hk3:k=1\/k=2\/k=3:=(by omega)
              rcases hk3 with rfl |rfl |rfl<;>omega
             go_ret;exact⟨by rw[hv];rfl,rfl⟩
           . rename_i hgd
             have hgd2:(((s[i+k]'hin).toNat:Int))/64*64=128:=by simp at hgd;omega
             go_roundw
             case rel=>
              refine⟨k+1,by omega,by omega,?_,by simp,trivial,zh ?_⟩
              . obtain⟨k',rfl⟩:∃k',k=k'+1:=⟨k-1,by omega⟩
                have hx2:=hx.out;simp only[Nat.add_sub_cancel]at hx2;have hbk2:=hbk.out
                have e:((xU a F (k'+1+1-1):Nat):Int)=(x:Int)*64+((s[i+(k'+1)]'hin).toNat:Int) % 64:=by
                 show((xU a F (k'+1):Nat):Int)=_
                 simp only[xU];rw[hx2,hbk2];omega
                rw[e]
              . intro j hj1 hj2
                by_cases hjk:j=k
                . subst hjk;have:=hbk.out;exact⟨hin,by omega,by omega⟩
                . exact hc.out j hj1 (by omega)
             case measure=>simp[intOf];omega
         . go_wp2
           have hv:Lib.validD s.data.toList=false:=by rw[hU.out];refine if_pos ?_;omega
           go_ret;exact⟨by rw[hv];rfl,rfl⟩
       . have hkN:k=3+1:=(by omega)
         subst hkN;have hx2:xU a F 3=x:=hx.out;have hx3:=hx2;simp only[xU,Nat.zero_add,Nat.reduceAdd]at hx3;have c1:i+1<s.size/\128<=F 1/\F 1<=191:=hc.out 1 (by omega) (by omega);have c2:i+2<s.size/\128<=F 2/\F 2<=191:=hc.out 2 (by omega) (by omega);have c3:i+3<s.size/\128<=F 3/\F 3<=191:=hc.out 3 (by omega) (by omega)
         try simp only[hx2]at hU
         go_wp2_with fail
         . refine(in_any _ _ _ _).mono ?_;rintro e wq ⟨rfl,rfl⟩;go_wp2
           go_roundw
           case rel=>refine⟨i+(3+1),by omega,by simp,trivial,zh ?_⟩;rw[hU.out];exact if_neg (by omega)
           case measure=>simp[intOf];omega
         all_goals(
          have hv:Lib.validD s.data.toList=false:=by rw[hU.out];first |(refine if_pos ?_;omega) |(exfalso;omega)
          go_ret;exact⟨by rw[hv];rfl,rfl⟩)
    . have hv:Lib.validD s.data.toList=false:=by rw[ha.out];refine utf_bad _ hne.out ?_ ?_<;>rw[hb0.out]<;>show _<;>simp only[Nat.add_zero]<;>omega
      go_ret;exact⟨by rw[hv];rfl,rfl⟩
    . have hv:Lib.validD s.data.toList=false:=by rw[ha.out];refine utf_bad _ hne.out ?_ ?_<;>rw[hb0.out]<;>show _<;>simp only[Nat.add_zero]<;>omega
      go_ret;exact⟨by rw[hv];rfl,rfl⟩
  . go_wp2;have hiN:i=s.size:=(by omega)
    have hv:Lib.validD s.data.toList=true:=(by rw[ha.out,hiN,List.drop_eq_nil_of_le (by simp)];rfl)
    go_ret;exact⟨by rw[hv];rfl,rfl⟩
theorem rname_any(s:ByteArray)(w:World)(hs:s.size<=9223372036854775000):Calls Tryz.prog 62 #[.string s] w λe w'=>e=.returned (.bool (jD s))/\w=w':=by
 have HV:=λw=>zh (utf_any s w hs);have hS:Hid (jD s=(decide ((s.size:Int)<=64)&&Lib.validD s.data.toList)):=zh rfl;go_enter Tryz.func62,Tryz.ntmps62
 by_cases h64:(s.size:Int)<=64
 . go_wp2_with fail;refine(HV _).out.mono ?_;rintro e w' ⟨rfl,rfl⟩;go_wp2;go_ret;exact⟨by rw[hS.out];simp[h64],rfl⟩
 . have hd:decide ((s.size:Int)<=64)=false:=decide_eq_false h64;have hS2:jD s=false:=(by rw[hS.out,hd];rfl)
   clear hd;go_wp2;go_ret;exact⟨rfl,rfl⟩
end Go.Proofs.YtacohbllbjgdgaaGreatDoor
