/- The contracts of labelled and flat. -/
import Derived.Test.YtacohbllbjgdgaaGreatDoorMa
set_option linter.all false
set_option maxRecDepth 100000
set_option maxHeartbeats 4000000
namespace Go.Proofs.YtacohbllbjgdgaaGreatDoor
open Go.RowKit
def lab:Il->Bool
 |.nil=>true
 |.cons _ _ _ _ ls body els rest=>decide (ls.length<=4096)&&(lab body&&(lab els&&lab rest))
def LabC (l:Il):Prop:=∀(ao:Option Addr) (c:Nat) (w:World),l.len<=9223372036854775807->IlIn w ao 0 l->
 Calls Tryz.prog 71 #[.slice ao l.len c] w λe w'=>e=endE (lab l) 3/\Below w.heap.size w w'
theorem lab_step(l:Il)(hs:Sub LabC l):LabC l:=by
 intro ao c w hl hw;obtain⟨N,hN⟩:∃N,l.len=N:=⟨_,rfl⟩
 rw[hN]at hl ⊢;go_enter Tryz.func71,Tryz.ntmps71;go_wp2_with fail;go_loopw [6] (λvi wr=>∃(i:Nat) (r:Il),vi=.int .i64 i/\i+r.len=N/\Hid (IlIn wr ao i r)/\Hid (Sub LabC r)/\Hid (lab l=lab r)/\Hid (Below w.heap.size w wr)) (λvi _=>N-(intOf vi).toNat)
 case atStart=>exact⟨0,l,rfl,by omega,zh hw,zh hs,zh rfl,zh (Below.refl _ _)⟩
 case round=>
  obtain⟨i,r,rfl,hi,hr,hsub,hc,hb⟩:=hrel;cases r with
  |nil=>
    have hiN:i=N:=(by simpa[Il.len]using hi)
    subst hiN;go_wp2;go_end0;exact⟨by rw[hc.out];rfl,hb.out⟩
  |cons op x y n ls body els rest=>
    have hlen:i+(rest.len+1)=N:=hi;have hlt:i<N:=(by omega)
    obtain⟨b,o,a4,k4,a5,k5,a6,k6,rfl,hh,hrest⟩:=hr.out.head;obtain⟨c0,c1,c2,c3,c4,c5,c6,i4,l5,i5,l6,i6⟩:=hh;have hr2:=zh hrest;have hi5:=zh i5;have hi6:=zh i6;have hl4:=i4.1;have hal:∀o,Below wr.heap.size wr (wr.alloc o):=λo=>(Below.refl _ _).alloc (Nat.le_refl _) o;have hcb:=λw h0=>zh (hsub.out.1 a5 k5 w l5 h0);have hce:=λw h0=>zh (hsub.out.2.1 a6 k6 w l6 h0);have hsr:=zh hsub.out.2.2;have hc1:Hid (lab l=(decide (ls.length<=4096)&&(lab body&&(lab els&&lab rest)))):=hc;clear hr hrest i4 i5 i6 hi hsub hc
    generalize ls.length=n4 at*
    by_cases hn4:n4<=4096
    . have hd:decide (n4<=4096)=true:=(by simp[hn4])
      have hz4:decide ((n4:Int)<=4096)=true:=(by simp;omega)
      rw[hd,Bool.true_and]at hc1;clear hd
      generalize hX:lab body=X at*
      go_wp2_with fail;refine(qF 3 _).mono ?_;rintro e w' ⟨rfl,rfl⟩;go_wp2_with fail;refine(hcb _ (hi5.out.below (hal _))).out.mono ?_;clear hX;rintro e w2 ⟨rfl,b2⟩;have hb2:=zh ((hal _).trans (b2.mono (by simp)));have g6:w2.cell? ⟨wr.heap.size,6,none⟩=some (.slice a6 els.len k6):=zA b2 _ _ (World.cell?_alloc_at _ _ _ 6 (by simp));clear b2;cases X
      . rw[Bool.false_and]at hc1;rw[qC];go_wp2;exact⟨rfl,by rw[hc1.out];rfl,hb.out.trans (hb2.out.mono hb.out.size)⟩
      . rw[Bool.true_and]at hc1;rw[zV]
        generalize hY:lab els=Y at*
        go_wp2_with fail;refine(hce _ (hi6.out.below hb2.out)).out.mono ?_;clear hY;rintro e w3 ⟨rfl,b3⟩;have hb4:=zh (hb2.out.trans (b3.mono hb2.out.size));clear b3 hb2;cases Y
        . rw[Bool.false_and]at hc1;rw[qC];go_wp2;exact⟨rfl,by rw[hc1.out];rfl,hb.out.trans (hb4.out.mono hb.out.size)⟩
        . rw[Bool.true_and]at hc1;rw[zV];go_wp2
          go_roundw
          case rel=>exact⟨i+1,rest,by simp,by omega,zh (hr2.out.below hb4.out),hsr,hc1,zh (hb.out.trans (hb4.out.mono hb.out.size))⟩
          case measure=>simp[intOf];omega
    . have hd:decide (n4<=4096)=false:=(by simp[hn4])
      have hz4:decide ((n4:Int)<=4096)=false:=(by simp;omega)
      rw[hd,Bool.false_and]at hc1;clear hd;go_wp2_with fail;refine(jV 3 _).mono ?_;rintro e w' ⟨rfl,rfl⟩;go_wp2;exact⟨rfl,by rw[hc1.out];rfl,hb.out.trans ((hal _).mono hb.out.size)⟩
theorem labelled_any(l:Il):LabC l:=Il.each lab_step l
def flatR:Il->Int->Bool
 |.nil,_=>true
 |.cons _ _ _ _ _ body els rest,d=>((body.len==0||decide (d+1<=64))&&flatR body (d+1))&&(((els.len==0||decide (d+1<=64))&&flatR els (d+1))&&flatR rest d)
def xN (l:Il) (d:Int):Bool:=(l.len==0||decide (d<=64))&&flatR l d
def FlatC (l:Il):Prop:=∀(ao:Option Addr) (c:Nat) (w:World) (d:Int),l.len<=9223372036854775807->IlIn w ao 0 l->0<=d->d<=65->
 Calls Tryz.prog 47 #[.slice ao l.len c,.int .i64 d] w λe w'=>e=endE (xN l d) 4/\Below w.heap.size w w'
theorem flat_step(l:Il)(hs:Sub FlatC l):FlatC l:=by
 intro ao c w d hl hw hd0 hd1;obtain⟨N,hN⟩:∃N,l.len=N:=⟨_,rfl⟩
 by_cases hd:d<=64
 . have hf:xN l d=flatR l d:=(by unfold xN;simp[hd])
   rw[hf];clear hf;rw[hN]at hl ⊢;have HW:∀w,Calls Tryz.prog 69 #[.bool true,.int .i64 4] w λe w'=>e=.returned (.tuple #[])/\w=w':=qF 4
   by_cases hz:N=0
   . subst hz;cases l with
     |nil=>
       go_enter Tryz.func47,Tryz.ntmps47;go_wp2_with fail;refine(qF 4 _).mono ?_;rintro e w' ⟨rfl,rfl⟩;go_wp2_with fail;go_loopw [16] (λvi wr=>vi=.int .i64 0/\wr=w) (λ_ _=>0)
       case atStart=>exact⟨rfl,rfl⟩
       case round=>obtain⟨rfl,rfl⟩:=hrel;go_wp2;go_end0;exact⟨rfl,Below.refl _ _⟩
     |cons=>exact absurd hN (by simp[Il.len])
   . have hzb:((N:Int)==0)=false:=(by simp[hz])
     go_enter Tryz.func47,Tryz.ntmps47;go_wp2_with fail;refine(qF 4 _).mono ?_;rintro e w' ⟨rfl,rfl⟩;go_wp2_with fail;go_loopw [16] (λvi wr=>∃(i:Nat) (r:Il),vi=.int .i64 i/\i+r.len=N/\Hid (IlIn wr ao i r)/\Hid (Sub FlatC r)/\Hid (flatR l d=flatR r d)/\Hid (Below w.heap.size w wr)) (λvi _=>N-(intOf vi).toNat)
     case atStart=>exact⟨0,l,rfl,by omega,zh hw,zh hs,zh rfl,zh (Below.refl _ _)⟩
     case round=>
      obtain⟨i,r,rfl,hi,hr,hsub,hc,hb⟩:=hrel;cases r with
      |nil=>
        have hiN:i=N:=(by simpa[Il.len]using hi)
        subst hiN;go_wp2;go_end0;exact⟨by rw[hc.out];rfl,hb.out⟩
      |cons op x y n ls body els rest=>
        have hlen:i+(rest.len+1)=N:=hi;have hlt:i<N:=(by omega)
        obtain⟨b,o,a4,k4,a5,k5,a6,k6,rfl,hh,hrest⟩:=hr.out.head;obtain⟨c0,c1,c2,c3,c4,c5,c6,i4,l5,i5,l6,i6⟩:=hh;have hr2:=zh hrest;have hi5:=zh i5;have hi6:=zh i6;have hal:∀o,Below wr.heap.size wr (wr.alloc o):=λo=>(Below.refl _ _).alloc (Nat.le_refl _) o;have hcb:=λw h0=>zh (hsub.out.1 a5 k5 w (d+1) l5 h0 (by omega) (by omega));have hce:=λw h0=>zh (hsub.out.2.1 a6 k6 w (d+1) l6 h0 (by omega) (by omega));have hsr:=zh hsub.out.2.2;have hc1:Hid (flatR l d=(xN body (d+1)&&(xN els (d+1)&&flatR rest d))):=hc;clear hr hrest i4 i5 i6 hi hsub hc
        generalize hX:xN body (d+1)=X at*
        go_wp2_with fail;refine(hcb _ (hi5.out.below (hal _))).out.mono ?_;clear hX;rintro e w2 ⟨rfl,b2⟩;have hb2:=zh ((hal _).trans (b2.mono (by simp)));have g6:w2.cell? ⟨wr.heap.size,6,none⟩=some (.slice a6 els.len k6):=zA b2 _ _ (World.cell?_alloc_at _ _ _ 6 (by simp));clear b2;cases X
        . rw[Bool.false_and]at hc1;rw[qC];go_wp2;exact⟨rfl,by rw[hc1.out];rfl,hb.out.trans (hb2.out.mono hb.out.size)⟩
        . rw[Bool.true_and]at hc1;rw[zV]
          generalize hY:xN els (d+1)=Y at*
          go_wp2_with fail;refine(hce _ (hi6.out.below hb2.out)).out.mono ?_;clear hY;rintro e w3 ⟨rfl,b3⟩;have hb4:=zh (hb2.out.trans (b3.mono hb2.out.size));clear b3 hb2;cases Y
          . rw[Bool.false_and]at hc1;rw[qC];go_wp2;exact⟨rfl,by rw[hc1.out];rfl,hb.out.trans (hb4.out.mono hb.out.size)⟩
          . rw[Bool.true_and]at hc1;rw[zV];go_wp2
            go_roundw
            case rel=>exact⟨i+1,rest,by simp,by omega,zh (hr2.out.below hb4.out),hsr,hc1,zh (hb.out.trans (hb4.out.mono hb.out.size))⟩
            case measure=>simp[intOf];omega
 . cases l with
   |nil=>
     have hf:xN .nil d=true:=rfl;rw[hf];have hz:Il.nil.len=0:=rfl;rw[hz];go_enter Tryz.func47,Tryz.ntmps47;go_wp2_with fail;refine(qF 4 _).mono ?_;rintro e w' ⟨rfl,rfl⟩;go_wp2_with fail;go_loopw [16] (λvi wr=>vi=.int .i64 0/\wr=w) (λ_ _=>0)
     case atStart=>exact⟨rfl,rfl⟩
     case round=>obtain⟨rfl,rfl⟩:=hrel;go_wp2;go_end0;exact⟨rfl,Below.refl _ _⟩
   |cons op x y n ls body els rest=>
     have hNz:N≠0:=(by rw[<-hN];simp[Il.len])
     have hzb:((N:Int)==0)=false:=(by simp[hNz])
     have hf:xN (.cons op x y n ls body els rest) d=false:=by unfold xN;rw[hN];simp[hNz,hd]
     rw[hf];clear hf;rw[hN]at hl ⊢;go_enter Tryz.func47,Tryz.ntmps47;go_wp2_with fail;refine(jV 4 _).mono ?_;rintro e w' ⟨rfl,rfl⟩;go_wp2;exact⟨rfl,rfl,Below.refl _ _⟩
theorem flat_any(l:Il):FlatC l:=Il.each flat_step l
structure One where
 op:Int
 x:Int
 y:Int
 n:Int
 ls:List Int
 body:Il
 els:Il
def One.il (q:One):Il:=.cons q.op q.x q.y q.n q.ls q.body q.els .nil
structure Md where
 types:List (List Int×List Int)
 imports:List (ByteArray×ByteArray×Int)
 funcs:List (Int×List Int×Il)
 tables:List (Int×Int×Bool)
 mems:List (Int×Int×Bool)
 globals:List (Int×Bool×One)
 exports:List (ByteArray×Int×Int)
 start:List Int
 elems:List (One×List Int)
 datas:List (One×ByteArray)
def RowsIn {α:Type} (F:World->Nat->Nat->α->Prop) (k:Nat) (w:World) (ao:Option Addr) (xs:List α):Prop:=
 xs.length<=9223372036854775807/\(xs=[]\/∃b o,ao=some ⟨b,o,none⟩/\∀i x,xs[i]? =some x->F w b (o+i*k) x)
def IntsCell (w:World) (b o:Nat) (l:List Int):Prop:=∃a c,w.cell? ⟨b,o,none⟩=some (.slice a l.length c)/\IntsIn w a l
def IlCell (w:World) (b o:Nat) (l:Il):Prop:=∃a c,w.cell? ⟨b,o,none⟩=some (.slice a l.len c)/\l.len<=9223372036854775807/\IlIn w a 0 l
def StrCell (w:World) (b o:Nat) (s:ByteArray):Prop:=w.cell? ⟨b,o,none⟩=some (.string s)/\s.size<=9223372036854775807
def j9 (w:World) (b o:Nat) (n:Int):Prop:=w.cell? ⟨b,o,none⟩=some (.int .i64 n)
def BoolCell (w:World) (b o:Nat) (c:Bool):Prop:=w.cell? ⟨b,o,none⟩=some (.bool c)
def TypeAt (w:World) (b o:Nat) (t:List Int×List Int):Prop:=IntsCell w b o t.1/\IntsCell w b (o+1) t.2
def ImportAt (w:World) (b o:Nat) (t:ByteArray×ByteArray×Int):Prop:=StrCell w b o t.1/\StrCell w b (o+1) t.2.1/\j9 w b (o+2) t.2.2
def FuncAt (w:World) (b o:Nat) (t:Int×List Int×Il):Prop:=j9 w b o t.1/\IntsCell w b (o+1) t.2.1/\IlCell w b (o+2) t.2.2
def LimitsAt (w:World) (b o:Nat) (t:Int×Int×Bool):Prop:=j9 w b o t.1/\j9 w b (o+1) t.2.1/\BoolCell w b (o+2) t.2.2
def GlobalAt (w:World) (b o:Nat) (t:Int×Bool×One):Prop:=j9 w b o t.1/\BoolCell w b (o+1) t.2.1/\IlAt w b (o+2) t.2.2.il
def ExportAt (w:World) (b o:Nat) (t:ByteArray×Int×Int):Prop:=StrCell w b o t.1/\j9 w b (o+1) t.2.1/\j9 w b (o+2) t.2.2
def ElemAt (w:World) (b o:Nat) (t:One×List Int):Prop:=IlAt w b o t.1.il/\IntsCell w b (o+7) t.2
def DataAt (w:World) (b o:Nat) (t:One×ByteArray):Prop:=IlAt w b o t.1.il/\StrCell w b (o+7) t.2
def Keeps (w w':World):Prop:=∀a v,w.cell? a=some v->w'.cell? a=some v
theorem IntsCell.keep{w w':World}(f:Keeps w w'){b o:Nat}{l:List Int}(h:IntsCell w b o l):IntsCell w' b o l:=by obtain⟨a,c,h,hi⟩:=h;exact⟨a,c,f _ _ h,hi.keep f⟩
theorem IlIn.keep{w w':World}(f:Keeps w w'){ao:Option Addr}{i:Nat}{l:Il}(h:IlIn w ao i l):IlIn w' ao i l:=by
 rcases h with h |⟨b,o,e,h⟩
 . exact .inl h
 . exact .inr ⟨b,o,e,IlAt.keep f _ _ _ h⟩
theorem IlCell.keep{w w':World}(f:Keeps w w'){b o:Nat}{l:Il}(h:IlCell w b o l):IlCell w' b o l:=by obtain⟨a,c,h,hl,hi⟩:=h;exact⟨a,c,f _ _ h,hl,hi.keep f⟩
theorem StrCell.keep{w w':World}(f:Keeps w w'){b o:Nat}{s:ByteArray}(h:StrCell w b o s):StrCell w' b o s:=⟨f _ _ h.1,h.2⟩
theorem TypeAt.keep{w w':World}(f:Keeps w w'){b o:Nat}{t:List Int×List Int}(h:TypeAt w b o t):TypeAt w' b o t:=⟨h.1.keep f,h.2.keep f⟩
theorem ImportAt.keep{w w':World}(f:Keeps w w'){b o:Nat}{t:ByteArray×ByteArray×Int}(h:ImportAt w b o t):ImportAt w' b o t:=⟨h.1.keep f,h.2.1.keep f,f _ _ h.2.2⟩
theorem FuncAt.keep{w w':World}(f:Keeps w w'){b o:Nat}{t:Int×List Int×Il}(h:FuncAt w b o t):FuncAt w' b o t:=⟨f _ _ h.1,h.2.1.keep f,h.2.2.keep f⟩
theorem LimitsAt.keep{w w':World}(f:Keeps w w'){b o:Nat}{t:Int×Int×Bool}(h:LimitsAt w b o t):LimitsAt w' b o t:=⟨f _ _ h.1,f _ _ h.2.1,f _ _ h.2.2⟩
theorem GlobalAt.keep{w w':World}(f:Keeps w w'){b o:Nat}{t:Int×Bool×One}(h:GlobalAt w b o t):GlobalAt w' b o t:=⟨f _ _ h.1,f _ _ h.2.1,IlAt.keep f _ _ _ h.2.2⟩
theorem ExportAt.keep{w w':World}(f:Keeps w w'){b o:Nat}{t:ByteArray×Int×Int}(h:ExportAt w b o t):ExportAt w' b o t:=⟨h.1.keep f,f _ _ h.2.1,f _ _ h.2.2⟩
theorem ElemAt.keep{w w':World}(f:Keeps w w'){b o:Nat}{t:One×List Int}(h:ElemAt w b o t):ElemAt w' b o t:=⟨IlAt.keep f _ _ _ h.1,h.2.keep f⟩
theorem DataAt.keep{w w':World}(f:Keeps w w'){b o:Nat}{t:One×ByteArray}(h:DataAt w b o t):DataAt w' b o t:=⟨IlAt.keep f _ _ _ h.1,h.2.keep f⟩
theorem RowsIn.keep{α:Type}{F:World->Nat->Nat->α->Prop}{k:Nat}{w w':World}{ao:Option Addr}{xs:List α}(hF:∀b o x,F w b o x->F w' b o x)(h:RowsIn F k w ao xs):RowsIn F k w' ao xs:=by
 rcases h with⟨hl,h |⟨b,o,e,h⟩⟩
 . exact⟨hl,.inl h⟩
 . exact⟨hl,.inr ⟨b,o,e,λi x hx=>hF _ _ _ (h i x hx)⟩⟩
theorem RowsIn.row{α:Type}{F:World->Nat->Nat->α->Prop}{k:Nat}{w:World}{ao:Option Addr}{xs:List α}{i:Nat}{x:α}(h:RowsIn F k w ao xs)(hx:xs[i]? =some x):∃b o,ao=some ⟨b,o,none⟩/\F w b (o+i*k) x:=by
 rcases h with⟨_,rfl |⟨b,o,e,h⟩⟩
 . simp at hx
 . exact⟨b,o,e,h i x hx⟩
theorem jB{α:Type}{f:α->Bool}{l:List α}{i:Nat}{x:α}(hx:l[i]? =some x)(h:(l.take i).all f=true):(f x=true->(l.take (i+1)).all f=true)/\(f x=false->l.all f=false):=by
 have hi:=(List.getElem?_eq_some_iff.1 hx).1;have he:=(List.getElem?_eq_some_iff.1 hx).2;constructor
 . intro hf;rw[List.take_add_one,hx];simp[h,hf]
 . intro hf;rw[List.all_eq_false];exact⟨x,by rw[<-he];exact List.getElem_mem hi,by simp[hf]⟩
structure MdAt (w:World) (m:Md) (a0:Option Addr) (k0:Nat) (a1:Option Addr) (k1:Nat) (a2:Option Addr) (k2:Nat) (a3:Option Addr) (k3:Nat) (a4:Option Addr) (k4:Nat) (a5:Option Addr) (k5:Nat)
 (a6:Option Addr) (k6:Nat) (a7:Option Addr) (k7:Nat) (a8:Option Addr) (k8:Nat) (a9:Option Addr) (k9:Nat):Prop where
 types:RowsIn TypeAt 2 w a0 m.types
 imports:RowsIn ImportAt 3 w a1 m.imports
 funcs:RowsIn FuncAt 3 w a2 m.funcs
 tables:RowsIn LimitsAt 3 w a3 m.tables
 mems:RowsIn LimitsAt 3 w a4 m.mems
 globals:RowsIn GlobalAt 9 w a5 m.globals
 exports:RowsIn ExportAt 3 w a6 m.exports
 start:IntsIn w a7 m.start
 elems:RowsIn ElemAt 8 w a8 m.elems
 datas:RowsIn DataAt 8 w a9 m.datas
theorem MdAt.keep{w w':World}(f:Keeps w w'){m:Md}{a0:Option Addr}{k0:Nat}{a1:Option Addr}{k1:Nat}{a2:Option Addr}{k2:Nat}{a3:Option Addr}{k3:Nat}{a4:Option Addr}{k4:Nat}{a5:Option Addr}{k5:Nat}{a6:Option Addr}{k6:Nat}{a7:Option Addr}{k7:Nat}{a8:Option Addr}{k8:Nat}{a9:Option Addr}{k9:Nat}(h:MdAt w m a0 k0 a1 k1 a2 k2 a3 k3 a4 k4 a5 k5 a6 k6 a7 k7 a8 k8 a9 k9):MdAt w' m a0 k0 a1 k1 a2 k2 a3 k3 a4 k4 a5 k5 a6 k6 a7 k7 a8 k8 a9 k9:=
 ⟨h.types.keep λ_ _ _=>.keep f,h.imports.keep λ_ _ _=>.keep f,h.funcs.keep λ_ _ _=>.keep f,h.tables.keep λ_ _ _=>.keep f,h.mems.keep λ_ _ _=>.keep f,h.globals.keep λ_ _ _=>.keep f,h.exports.keep λ_ _ _=>.keep f,
  h.start.keep f,h.elems.keep λ_ _ _=>.keep f,h.datas.keep λ_ _ _=>.keep f⟩
def mdV (m:Md) (a0:Option Addr) (k0:Nat) (a1:Option Addr) (k1:Nat) (a2:Option Addr) (k2:Nat) (a3:Option Addr) (k3:Nat) (a4:Option Addr) (k4:Nat) (a5:Option Addr) (k5:Nat)
 (a6:Option Addr) (k6:Nat) (a7:Option Addr) (k7:Nat) (a8:Option Addr) (k8:Nat) (a9:Option Addr) (k9:Nat):Value:=
 .agg #[.slice a0 m.types.length k0,.slice a1 m.imports.length k1,.slice a2 m.funcs.length k2,.slice a3 m.tables.length k3,.slice a4 m.mems.length k4,.slice a5 m.globals.length k5,.slice a6 m.exports.length k6,.slice a7 m.start.length k7,.slice a8 m.elems.length k8,.slice a9 m.datas.length k9]
end Go.Proofs.YtacohbllbjgdgaaGreatDoor
