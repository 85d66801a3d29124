/- Lists of instructions, as they lie in memory. -/
import Derived.Test.YtacohbllbjgdgaaGreatDoorRows
import Derived.WalkKit
import Derived.Below
import Derived.Lib.Hide
import Derived.WalkLawsBesides
set_option linter.all false
set_option maxRecDepth 100000
set_option maxHeartbeats 4000000
namespace Go.Proofs.YtacohbllbjgdgaaGreatDoor
open Go.RowKit
theorem zh{P:Prop}(h:P):Hid P:=Lib.hid h
inductive Il where
 |nil
 |cons (op a b n:Int) (ls:List Int) (body els rest:Il)
def Il.len:Il->Nat
 |.nil=>0
 |.cons _ _ _ _ _ _ _ r=>r.len+1
def IntsIn (w:World) (ao:Option Addr) (l:List Int):Prop:=
 l.length<=9223372036854775807/\(l=[]\/∃b o,ao=some ⟨b,o,none⟩/\∀i x,l[i]? =some x->w.cell? ⟨b,o+i,none⟩=some (.int .i64 x))
def IlAt (w:World) (b o:Nat):Il->Prop
 |.nil=>True
 |.cons op x y n ls body els rest=>
   (w.cell? ⟨b,o,none⟩=some (.int .i64 op)/\w.cell? ⟨b,o+1,none⟩=some (.int .i64 x)/\w.cell? ⟨b,o+2,none⟩=some (.int .i64 y)/\w.cell? ⟨b,o+3,none⟩=some (.int .i64 n))/\
   (∃ao c,w.cell? ⟨b,o+4,none⟩=some (.slice ao ls.length c)/\IntsIn w ao ls)/\
   (∃ao c,w.cell? ⟨b,o+5,none⟩=some (.slice ao body.len c)/\body.len<=9223372036854775807/\(body=.nil\/∃b2 o2,ao=some ⟨b2,o2,none⟩/\IlAt w b2 o2 body))/\
   (∃ao c,w.cell? ⟨b,o+6,none⟩=some (.slice ao els.len c)/\els.len<=9223372036854775807/\(els=.nil\/∃b2 o2,ao=some ⟨b2,o2,none⟩/\IlAt w b2 o2 els))/\
   IlAt w b (o+7) rest
def IlIn (w:World) (ao:Option Addr) (i:Nat) (l:Il):Prop:=l=.nil\/∃b o,ao=some ⟨b,o,none⟩/\IlAt w b (o+i*7) l
theorem IntsIn.keep{w w':World}{ao:Option Addr}{l:List Int}(h:IntsIn w ao l)(f:∀a v,w.cell? a=some v->w'.cell? a=some v):IntsIn w' ao l:=by
 rcases h with⟨hl,h |⟨b,o,e,h⟩⟩
 . exact⟨hl,.inl h⟩
 . exact⟨hl,.inr ⟨b,o,e,λi x hx=>f _ _ (h i x hx)⟩⟩
theorem IlAt.keep {w w':World} (f:∀a v,w.cell? a=some v->w'.cell? a=some v):∀(l:Il) (b o:Nat),IlAt w b o l->IlAt w' b o l
 |.nil,_,_,_=>trivial
 |.cons op x y n ls body els rest,b,o,h=>by
   obtain⟨⟨h0,h1,h2,h3⟩,⟨a4,k4,h4,i4⟩,⟨a5,k5,h5,l5,i5⟩,⟨a6,k6,h6,l6,i6⟩,hr⟩:=h;refine⟨⟨f _ _ h0,f _ _ h1,f _ _ h2,f _ _ h3⟩,⟨a4,k4,f _ _ h4,i4.keep f⟩,⟨a5,k5,f _ _ h5,l5,?_⟩,⟨a6,k6,f _ _ h6,l6,?_⟩,IlAt.keep f rest b (o+7) hr⟩
   . rcases i5 with e |⟨b2,o2,e,i5⟩
     . exact .inl e
     . exact .inr ⟨b2,o2,e,IlAt.keep f body b2 o2 i5⟩
   . rcases i6 with e |⟨b2,o2,e,i6⟩
     . exact .inl e
     . exact .inr ⟨b2,o2,e,IlAt.keep f els b2 o2 i6⟩
theorem zA{w w':World}(hb:Below w.heap.size w w'):∀a v,w.cell? a=some v->w'.cell? a=some v:=λa v h=>by
 have hs:=World.cell?_spot h;obtain⟨b,o,s⟩:=a;cases hs;rw[hb.cell (World.block_lt_of_cell? _ _ h),h]
theorem IntsIn.below{w w':World}{ao:Option Addr}{l:List Int}(h:IntsIn w ao l)(hb:Below w.heap.size w w'):IntsIn w' ao l:=h.keep (zA hb)
theorem IlIn.below{w w':World}{ao:Option Addr}{i:Nat}{l:Il}(h:IlIn w ao i l)(hb:Below w.heap.size w w'):IlIn w' ao i l:=by
 rcases h with h |⟨b,o,e,h⟩
 . exact .inl h
 . exact .inr ⟨b,o,e,IlAt.keep (zA hb) _ _ _ h⟩
structure HeadIn (w:World) (b o:Nat) (op x y n:Int) (ls:List Int) (body els:Il) (a4:Option Addr) (k4:Nat) (a5:Option Addr) (k5:Nat) (a6:Option Addr) (k6:Nat):Prop where
 c0:w.cell? ⟨b,o,none⟩=some (.int .i64 op)
 c1:w.cell? ⟨b,o+1,none⟩=some (.int .i64 x)
 c2:w.cell? ⟨b,o+2,none⟩=some (.int .i64 y)
 c3:w.cell? ⟨b,o+3,none⟩=some (.int .i64 n)
 c4:w.cell? ⟨b,o+4,none⟩=some (.slice a4 ls.length k4)
 c5:w.cell? ⟨b,o+5,none⟩=some (.slice a5 body.len k5)
 c6:w.cell? ⟨b,o+6,none⟩=some (.slice a6 els.len k6)
 i4:IntsIn w a4 ls
 l5:body.len<=9223372036854775807
 i5:IlIn w a5 0 body
 l6:els.len<=9223372036854775807
 i6:IlIn w a6 0 els
theorem IlIn.head{w:World}{ao:Option Addr}{i:Nat}{op x y n:Int}{ls:List Int}{body els rest:Il}(h:IlIn w ao i (.cons op x y n ls body els rest)):∃b o a4 k4 a5 k5 a6 k6,ao=some ⟨b,o,none⟩/\HeadIn w b (o+i*7) op x y n ls body els a4 k4 a5 k5 a6 k6/\IlIn w ao (i+1) rest:=by
 rcases h with h |⟨b,o,e,h⟩
 . cases h
 . obtain⟨⟨h0,h1,h2,h3⟩,⟨a4,k4,h4,i4⟩,⟨a5,k5,h5,l5,i5⟩,⟨a6,k6,h6,l6,i6⟩,hr⟩:=h;refine⟨b,o,a4,k4,a5,k5,a6,k6,e,⟨h0,h1,h2,h3,h4,h5,h6,i4,l5,?_,l6,?_⟩,.inr ⟨b,o,e,?_⟩⟩
   . simpa[IlIn]using i5
   . simpa[IlIn]using i6
   . have e7:o+(i+1)*7=o+i*7+7:=(by omega)
     rw[e7];exact hr
def Sub (C:Il->Prop):Il->Prop
 |.nil=>True
 |.cons _ _ _ _ _ body els rest=>C body/\C els/\Sub C rest
theorem Il.all {C:Il->Prop} (step:∀l,Sub C l->C l):∀l,Sub C l
 |.nil=>trivial
 |.cons _ _ _ _ _ body els rest=>⟨step _ (Il.all step body),step _ (Il.all step els),Il.all step rest⟩
theorem Il.each{C:Il->Prop}(step:∀l,Sub C l->C l)(l:Il):C l:=step l (Il.all step l)
def fault (n:Int):List PanicEntry:=[{v:=.iface 87 (.agg #[.int .i64 n]),recovered:=false}]
def endE (ok:Bool) (n:Int):Ending:=if ok=true then .returned (.tuple #[])else .panicked (fault n)
theorem qF(n:Int)(w:World):Calls Tryz.prog 69 #[.bool true,.int .i64 n] w λe w'=>e=.returned (.tuple #[])/\w=w':=by go_enter Tryz.func69,Tryz.ntmps69;go_wp2;go_end0;exact⟨rfl,rfl⟩
theorem jV(n:Int)(w:World):Calls Tryz.prog 69 #[.bool false,.int .i64 n] w λe w'=>e=.panicked (fault n)/\w=w':=by go_enter Tryz.func69,Tryz.ntmps69;go_wp2;exact⟨rfl,rfl,rfl⟩
theorem want_any(ok:Bool)(n:Int)(w:World):Calls Tryz.prog 69 #[.bool ok,.int .i64 n] w λe w'=>e=endE ok n/\w=w':=by
 cases ok
 . exact jV n w
 . exact qF n w
def cnt:Il->Int->Int
 |.nil,left=>left
 |.cons _ _ _ _ _ body els rest,left=>
   let l2:=if 0<=left-1 then cnt body (left-1)else left-1
   let l3:=if 0<=l2 then cnt els l2 else l2
   if l3<0 then -1 else cnt rest l3
theorem cnt_bd:∀(l:Il) (left:Int),0<=left→-1<=cnt l left/\cnt l left<=left
 |.nil,left,h=>by unfold cnt;omega
 |.cons _ _ _ _ _ body els rest,left,h=>by
   unfold cnt
   have hb: -1<=(if 0<=left-1 then cnt body (left-1)else left-1)/\(if 0<=left-1 then cnt body (left-1)else left-1)<=left-1:=by
    split
    . rename_i h1;exact cnt_bd body _ h1
    . omega
   generalize (if 0<=left-1 then cnt body (left-1)else left-1)=l2 at*
   have he: -1<=(if 0<=l2 then cnt els l2 else l2)/\(if 0<=l2 then cnt els l2 else l2)<=l2:=by
    split
    . rename_i h1;exact cnt_bd els _ h1
    . omega
   show -1<=(if(if 0<=l2 then cnt els l2 else l2)<0 then -1 else cnt rest (if 0<=l2 then cnt els l2 else l2))/\(if(if 0<=l2 then cnt els l2 else l2)<0 then -1 else cnt rest (if 0<=l2 then cnt els l2 else l2))<=left
   generalize (if 0<=l2 then cnt els l2 else l2)=l3 at*
   split
   . omega
   . have:=cnt_bd rest l3 (by omega);omega
def CountedC (l:Il):Prop:=∀(ao:Option Addr) (c:Nat) (w:World) (left:Int),l.len<=9223372036854775807->IlIn w ao 0 l->0<=left->left<=65536->
 Calls Tryz.prog 90 #[.slice ao l.len c,.int .i64 left] w λe w'=>e=.returned (.int .i64 (cnt l left))/\Below w.heap.size w w'
theorem counted_step(l:Il)(hs:Sub CountedC l):CountedC l:=by
 intro ao c w left hl hw h0 h1;obtain⟨N,hN⟩:∃N,l.len=N:=⟨_,rfl⟩
 rw[hN]at hl ⊢;go_enter Tryz.func90,Tryz.ntmps90;go_wp2_with fail;go_loopw [1,9] (λvL vi wr=>∃(i:Nat) (r:Il) (L:Int),vi=.int .i64 i/\vL=.int .i64 L/\0<=L/\L<=65536/\i+r.len=N/\Hid (IlIn wr ao i r)/\Hid (Sub CountedC r)/\Hid (cnt l left=cnt r L)/\Hid (Below w.heap.size w wr)) (λ_ vi _=>N-(intOf vi).toNat)
 case atStart=>exact⟨0,l,left,rfl,rfl,h0,h1,by omega,zh hw,zh hs,zh rfl,zh (Below.refl _ _)⟩
 case round=>
  obtain⟨i,r,L,rfl,rfl,hL0,hL1,hi,hr,hsub,hc,hb⟩:=hrel;cases r with
  |nil=>
    have hiN:i=N:=(by simpa[Il.len]using hi)
    subst hiN;go_wp2;go_ret;exact⟨by rw[hc.out];rfl,hb.out⟩
  |cons op x y n ls body els rest=>
    have hlen:i+(rest.len+1)=N:=hi;have hlt:i<N:=(by omega)
    obtain⟨b,o,a4,k4,a5,k5,a6,k6,rfl,hh,hrest⟩:=hr.out.head;obtain⟨c0,c1,c2,c3,c4,c5,c6,i4,l5,i5,l6,i6⟩:=hh;have hr2:=zh hrest;have hi5:=zh i5;have hi6:=zh i6;have hal:∀o,Below wr.heap.size wr (wr.alloc o):=λo=>(Below.refl _ _).alloc (Nat.le_refl _) o;have hcb:=λw left h0 h1 h2=>zh (hsub.out.1 a5 k5 w left l5 h0 h1 h2);have hce:=λw left h0 h1 h2=>zh (hsub.out.2.1 a6 k6 w left l6 h0 h1 h2);have hsr:=zh hsub.out.2.2;clear hr hrest i4 i5 i6 hi hsub
    by_cases hL:0<=L-1
    . have hb1:=cnt_bd body (L-1) hL;have hc2:Hid (cnt l left=(if(if 0<=cnt body (L-1)then cnt els (cnt body (L-1))else cnt body (L-1))<0 then -1 else cnt rest (if 0<=cnt body (L-1)then cnt els (cnt body (L-1))else cnt body (L-1)))):=zh (by rw[hc.out];show(if(if 0<=(if 0<=L-1 then cnt body (L-1)else L-1)then _ else _)<0 then _ else _)=_;rw[if_pos hL]);clear hc
      generalize hX:cnt body (L-1)=X at*
      go_wp2_with fail;refine(hcb _ _ (hi5.out.below (hal _)) hL (by omega)).out.mono ?_;rw[hX];clear hX;rintro e w2 ⟨rfl,b2⟩;have hb2:=zh ((hal _).trans (b2.mono (by simp)));have g6:w2.cell? ⟨wr.heap.size,6,none⟩=some (.slice a6 els.len k6):=zA b2 _ _ (World.cell?_alloc_at _ _ _ 6 (by simp));clear b2
      by_cases hX0:0<=X
      . have hb3:=cnt_bd els X hX0;rw[if_pos hX0]at hc2
        generalize hY:cnt els X=Y at*
        go_wp2_with fail;refine(hce _ _ (hi6.out.below hb2.out) hX0 (by omega)).out.mono ?_;rw[hY];clear hY;rintro e w3 ⟨rfl,b3⟩;have hb4:=zh (hb2.out.trans (b3.mono hb2.out.size));clear b3 hb2
        by_cases hY0:Y<0
        . rw[if_pos hY0]at hc2;go_wp2;go_ret;exact⟨by rw[hc2.out];rfl,hb.out.trans (hb4.out.mono hb.out.size)⟩
        . rw[if_neg hY0]at hc2;go_wp2
          go_roundw
          case rel=>exact⟨i+1,rest,Y,by simp,rfl,by omega,by omega,by omega,zh (hr2.out.below hb4.out),hsr,hc2,zh (hb.out.trans (hb4.out.mono hb.out.size))⟩
          case measure=>simp[intOf];omega
      . rw[if_neg hX0,if_pos (by omega)]at hc2;go_wp2;go_ret;exact⟨by rw[hc2.out];rfl,hb.out.trans (hb2.out.mono hb.out.size)⟩
    . have hc2:Hid (cnt l left= -1):=zh (by
       rw[hc.out]
       show(if(if 0<=(if 0<=L-1 then cnt body (L-1)else L-1)then _ else _)<0 then _ else _)=_
       rw[if_neg hL,if_neg hL,if_pos (by omega)])
      clear hc;go_wp2;go_ret;exact⟨by rw[hc2.out];rfl,hb.out.trans ((hal _).mono hb.out.size)⟩
theorem counted_any(l:Il):CountedC l:=Il.each counted_step l
theorem zV(n:Int):endE true n=.returned (.tuple #[]):=rfl
theorem qC(n:Int):endE false n=.panicked (fault n):=rfl
theorem IntsIn.cell{w:World}{ao:Option Addr}{l:List Int}{i:Nat}{x:Int}(h:IntsIn w ao l)(hx:l[i]? =some x):∃b o,ao=some ⟨b,o,none⟩/\w.cell? ⟨b,o+i,none⟩=some (.int .i64 x):=by
 rcases h with⟨_,rfl |⟨b,o,e,h⟩⟩
 . simp at hx
 . exact⟨b,o,e,h i x hx⟩
def zM (n:Int):Bool:=decide (0<=n)&&decide (n<4294967296)
def xG (n:Int):Bool:=n==127||n==126
theorem all_drop{f:Int->Bool}{l:List Int}{i:Nat}{x:Int}(hx:l[i]? =some x)(h:(l.take i).all f=true):(f x=true->(l.take (i+1)).all f=true)/\(f x=false->l.all f=false):=by
 have hi:=(List.getElem?_eq_some_iff.1 hx).1;have he:=(List.getElem?_eq_some_iff.1 hx).2;constructor
 . intro hf;rw[List.take_add_one,hx];simp[h,hf]
 . intro hf;rw[List.all_eq_false];exact⟨x,by rw[<-he];exact List.getElem_mem hi,by simp[hf]⟩
theorem index_any(l:List Int)(ao:Option Addr)(c:Nat)(w:World)(h:IntsIn w ao l):Calls Tryz.prog 75 #[.slice ao l.length c] w λe w'=>e=endE (l.all zM) 30/\w=w':=by
 obtain⟨N,hN⟩:∃N,l.length=N:=⟨_,rfl⟩
 have hl:=h.1;have HI:=zh h;clear h;rw[hN]at hl ⊢;go_enter Tryz.func75,Tryz.ntmps75;go_wp2_with fail
 go_loop [6] (λvi=>∃i:Nat,i<=N/\vi=.int .i64 i/\Hid ((l.take i).all zM=true)) (λvi=>N-(intOf vi).toNat)
 case atStart=>exact⟨0,Nat.zero_le _,rfl,zh rfl⟩
 case round=>
  obtain⟨i,hi,rfl,ha⟩:=hrel
  by_cases hlt:i<N
  . obtain⟨x,hx⟩:∃x,l[i]? =some x:=⟨_,List.getElem?_eq_getElem (by omega)⟩
    obtain⟨b,o,rfl,hcell⟩:=HI.out.cell hx;have hn:=zh (all_drop hx ha.out);clear hx
    by_cases h1:0<=x
    . by_cases h2:x<4294967296
      . have hf:zM x=true:=(by simp[zM,h1,h2])
        have hn2:=zh (hn.out.1 hf);clear hn hf;go_wp2_with fail;refine(qF 30 _).mono ?_;rintro e w' ⟨rfl,rfl⟩;go_wp2
        go_round
        case rel=>exact⟨i+1,by omega,by simp,hn2⟩
        case measure=>simp[intOf];omega
      . have hf:zM x=false:=(by simp[zM];omega)
        have hn2:=zh (hn.out.2 hf);clear hn hf;go_wp2_with fail;refine(jV 30 _).mono ?_;rintro e w' ⟨rfl,rfl⟩;go_wp2;exact⟨rfl,by rw[hn2.out];rfl,rfl⟩
    . have hf:zM x=false:=(by simp[zM];omega)
      have hn2:=zh (hn.out.2 hf);clear hn hf;go_wp2_with fail;refine(jV 30 _).mono ?_;rintro e w' ⟨rfl,rfl⟩;go_wp2;exact⟨rfl,by rw[hn2.out];rfl,rfl⟩
  . obtain rfl:i=N:=by omega
    have ht:l.take i=l:=(by rw[<-hN];exact List.take_length)
    have ha2:=zh (ht▸ha.out);clear ht;go_wp2;go_end0;exact⟨by rw[ha2.out];rfl,rfl⟩
theorem typed_any(l:List Int)(ao:Option Addr)(c:Nat)(w:World)(h:IntsIn w ao l):Calls Tryz.prog 74 #[.slice ao l.length c] w λe w'=>e=endE (l.all xG) 30/\w=w':=by
 obtain⟨N,hN⟩:∃N,l.length=N:=⟨_,rfl⟩
 have hl:=h.1;have HI:=zh h;clear h;rw[hN]at hl ⊢;go_enter Tryz.func74,Tryz.ntmps74;go_wp2_with fail
 go_loop [6] (λvi=>∃i:Nat,i<=N/\vi=.int .i64 i/\Hid ((l.take i).all xG=true)) (λvi=>N-(intOf vi).toNat)
 case atStart=>exact⟨0,Nat.zero_le _,rfl,zh rfl⟩
 case round=>
  obtain⟨i,hi,rfl,ha⟩:=hrel
  by_cases hlt:i<N
  . obtain⟨x,hx⟩:∃x,l[i]? =some x:=⟨_,List.getElem?_eq_getElem (by omega)⟩
    obtain⟨b,o,rfl,hcell⟩:=HI.out.cell hx;have hn:=zh (all_drop hx ha.out);clear hx
    by_cases h1:x=127
    . subst h1;have hn2:=zh (hn.out.1 rfl);clear hn;go_wp2_with fail;refine(qF 30 _).mono ?_;rintro e w' ⟨rfl,rfl⟩;go_wp2
      go_round
      case rel=>exact⟨i+1,by omega,by simp,hn2⟩
      case measure=>simp[intOf];omega
    . by_cases h2:x=126
      . subst h2;have hn2:=zh (hn.out.1 rfl);clear hn;go_wp2_with fail;refine(qF 30 _).mono ?_;rintro e w' ⟨rfl,rfl⟩;go_wp2
        go_round
        case rel=>exact⟨i+1,by omega,by simp,hn2⟩
        case measure=>simp[intOf];omega
      . have q1:(x==127)=false:=(by simp[h1])
        have q2:(x==126)=false:=(by simp[h2])
        have hf:xG x=false:=(by simp[xG,h1,h2])
        have hn2:=zh (hn.out.2 hf);clear hn hf;go_wp2_with fail;refine(jV 30 _).mono ?_;rintro e w' ⟨rfl,rfl⟩;go_wp2;exact⟨rfl,by rw[hn2.out];rfl,rfl⟩
  . obtain rfl:i=N:=by omega
    have ht:l.take i=l:=(by rw[<-hN];exact List.take_length)
    have ha2:=zh (ht▸ha.out);clear ht;go_wp2;go_end0;exact⟨by rw[ha2.out];rfl,rfl⟩
end Go.Proofs.YtacohbllbjgdgaaGreatDoor
