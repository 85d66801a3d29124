/- The checker: tables, memories and globals. -/
import Derived.Test.YtacohbllbjgdgaaGreatDoorXr
import Derived.Test.YtacohbllbjgdgaaGreatDoorOa
import Derived.Test.YtacohbllbjgdgaaGreatDoorZa
import Derived.Laws.ResultCell
set_option linter.all false
set_option maxRecDepth 100000
set_option maxHeartbeats 16000000
namespace Go.Proofs.YtacohbllbjgdgaaGreatDoor
open Go.RowKit
def zD {α:Type} (f:α->Int):List α->Int
 | []=>0
 |x::r=>if f x=0 then zD f r else f x
def zX (a b:Int):Int:=if a=0 then b else a
def eTab (t:Int×Int×Bool):Int:=if t.2.2=true/\t.2.1<t.1 then 60 else 0
def eMem (t:Int×Int×Bool):Int:=if(t.2.2=true/\t.2.1<t.1)\/65536<t.1\/65536<t.2.1 then 60 else 0
def eGlo (g:Int×Bool×One):Int:=if g.2.2.op=35 then 62 else if(g.2.2.op=65/\g.1=127)\/(g.2.2.op=66/\g.1=126)then 0 else 60
def yL (n:Nat):Int:=if n<=1 then 0 else 3
def vX (m:Md):Int:=zX (yL m.tables.length) (zX (zD eTab m.tables) (zX (yL m.mems.length) (zX (zD eMem m.mems) (zD eGlo m.globals))))
def endN (w:World) (x:Int) (e:Ending) (w':World):Prop:=(x=0/\e=.returned (.tuple #[])\/x≠0/\e=.panicked (jS x))/\Below w.heap.size w w'
theorem qE{α:Type}{f:α->Int}{l:List α}{i:Nat}{x:α}(hx:l[i]? =some x):zD f (l.drop i)=if f x=0 then zD f (l.drop (i+1))else f x:=by have hl:=List.getElem?_eq_some_iff.1 hx;rw[List.drop_eq_getElem_cons hl.1,hl.2];rfl
section
variable {w w':World} {c:Nat} {m:Md} {fs:List (List Int×List Int)} {a0:Option Addr} {k0:Nat} {a1:Option Addr} {k1:Nat} {a2:Option Addr} {k2:Nat} {a3:Option Addr} {k3:Nat} {a4:Option Addr} {k4:Nat} {a5:Option Addr} {k5:Nat}
 {a6:Option Addr} {k6:Nat} {a7:Option Addr} {k7:Nat} {a8:Option Addr} {k8:Nat} {a9:Option Addr} {k9:Nat} {fa:Option Addr} {fk:Nat}
theorem parts_any(h:ChkAt w c m fs a0 k0 a1 k1 a2 k2 a3 k3 a4 k4 a5 k5 a6 k6 a7 k7 a8 k8 a9 k9 fa fk):Calls Tryz.prog 27 #[.pointer (some ⟨c,0,none⟩)] w (endN w (vX m)):=by
 generalize hX:vX m=X;replace hX:=zh hX;have hb0:Hid (Below w.heap.size w w):=zh (Below.refl _ _);obtain⟨y0,y1,y2,y3,y4,y5,y6,y7,y8,y9,y10,_⟩:=h.cc;have l3:=h.md.tables.1;have l4:=h.md.mems.1;have l5:=h.md.globals.1;replace h:=zh h;have hX1:X=zX (yL m.tables.length) (zX (zD eTab m.tables) (zX (yL m.mems.length) (zX (zD eMem m.mems) (zD eGlo m.globals)))):=hX.out.symm;replace hX1:=zh hX1;clear hX
 by_cases ht:m.tables.length<=1
 . have e1:Hid (X=zX (zD eTab m.tables) (zX (yL m.mems.length) (zX (zD eMem m.mems) (zD eGlo m.globals)))):=zh (by rw[hX1.out,show yL m.tables.length=0 by unfold yL;rw[if_pos ht]];rfl);have i1:(m.tables.length:Int)<=1:=(by omega)
   have i2:decide ((m.tables.length:Int)<=1)=true:=decide_eq_true i1;clear ht;go_enter Tryz.func27,Tryz.ntmps27;go_wp2_with fail;refine(zJ 3 _).mono ?_;rintro e w' ⟨rfl,rfl⟩;clear i1 i2;go_wp2_with fail;go_loopw [22] (λvi wr=>∃i:Nat,vi=.int .i64 i/\i<=m.tables.length/\Hid (zD eTab m.tables=zD eTab (m.tables.drop i))/\Hid (Below w.heap.size w wr)) (λvi _=>m.tables.length-(intOf vi).toNat)
   case atStart=>exact⟨0,rfl,Nat.zero_le _,zh rfl,hb0⟩
   case round=>
    clear hb0;obtain⟨i,rfl,hi,hf,hb0⟩:=hrel;have hc:=h.out.step hb0.out
    by_cases hlt:i<m.tables.length
    . obtain⟨x,hx⟩:∃x,m.tables[i]? =some x:=⟨_,List.getElem?_eq_getElem hlt⟩
      obtain⟨b,o,rfl,r1,r2,r3⟩:=hc.md.tables.row hx;replace r1:wr.cell? ⟨b,o+i*3,none⟩=some (.int .i64 x.1):=r1;replace r2:wr.cell? ⟨b,o+i*3+1,none⟩=some (.int .i64 x.2.1):=r2;replace r3:wr.cell? ⟨b,o+i*3+2,none⟩=some (.bool x.2.2):=r3;have hf1:=hf.out.trans (qE hx);clear hf hc;have hal:∀o,Below w.heap.size w (wr.alloc o):=λo=>hb0.out.trans ((Below.of_alloc wr o).mono hb0.out.size);replace hx:=zh hx
      by_cases he:eTab x=0
      . rw[if_pos he]at hf1;replace hf1:=zh hf1
        have hcase:x.2.2=false\/(x.2.2=true/\x.1<=x.2.1):=by
         unfold eTab at he;cases hq:x.2.2 with
         |false=>exact .inl rfl
         |true=>
           refine .inr ⟨rfl,?_⟩
           by_cases hh:x.2.1<x.1
           . rw[if_pos ⟨hq,hh⟩]at he;omega
           . omega
        clear he
        rcases hcase with hq |⟨hq,hle⟩
        all_goals(
         rw[hq]at r3;go_wp2_with fail;refine(zJ 60 _).mono ?_;rintro e w' ⟨rfl,rfl⟩;go_wp2
         go_roundw
         case rel=>exact⟨i+1,by simp,by omega,hf1,zh (hal _)⟩
         case measure=>simp[intOf];omega)
      . rw[if_neg he]at hf1
        have hcase:x.2.2=true/\x.2.1<x.1/\eTab x=60:=by
         unfold eTab at he ⊢
         by_cases hh:x.2.2=true/\x.2.1<x.1
         . exact⟨hh.1,hh.2,if_pos hh⟩
         . rw[if_neg hh]at he;exact absurd rfl he
        obtain⟨hq,hle,h60⟩:=hcase;rw[h60]at hf1;have e2:X=60:=(by rw[e1.out,hf1];rfl)
        replace e2:=zh e2;have hnl:¬x.1<=x.2.1:=(by omega)
        clear he hf1 e1 h60;rw[hq]at r3;go_wp2_with fail;refine(qG 60 _).mono ?_;rintro e w' ⟨rfl,rfl⟩;go_wp2;exact⟨rfl,.inr (by rw[e2.out];exact⟨by decide,rfl⟩),hal _⟩
    . obtain rfl:i=m.tables.length:=by omega
      rw[List.drop_length]at hf;have e1':X=zX (yL m.mems.length) (zX (zD eMem m.mems) (zD eGlo m.globals)):=(by rw[e1.out,hf.out];rfl)
      clear e1 hf;obtain⟨y0,y1,y2,y3,y4,y5,y6,y7,y8,y9,y10,_⟩:=hc.cc;replace e1':=zh e1'
      by_cases ht:m.mems.length<=1
      . have e1:Hid (X=zX (zD eMem m.mems) (zD eGlo m.globals)):=zh (by rw[e1'.out,show yL m.mems.length=0 by unfold yL;rw[if_pos ht]];rfl);have i1:(m.mems.length:Int)<=1:=(by omega)
        have i2:decide ((m.mems.length:Int)<=1)=true:=decide_eq_true i1;clear ht;go_wp2_with fail;refine(zJ 3 _).mono ?_;rintro e w' ⟨rfl,rfl⟩;clear i1 i2;go_wp2_with fail;go_loopw [52] (λvi wr=>∃i:Nat,vi=.int .i64 i/\i<=m.mems.length/\Hid (zD eMem m.mems=zD eMem (m.mems.drop i))/\Hid (Below w.heap.size w wr)) (λvi _=>m.mems.length-(intOf vi).toNat)
        case atStart=>exact⟨0,rfl,Nat.zero_le _,zh rfl,hb0⟩
        case round=>
         clear hb0;obtain⟨i,rfl,hi,hf,hb0⟩:=hrel;have hc:=h.out.step hb0.out
         by_cases hlt:i<m.mems.length
         . obtain⟨x,hx⟩:∃x,m.mems[i]? =some x:=⟨_,List.getElem?_eq_getElem hlt⟩
           obtain⟨b,o,rfl,r1,r2,r3⟩:=hc.md.mems.row hx;replace r1:wr.cell? ⟨b,o+i*3,none⟩=some (.int .i64 x.1):=r1;replace r2:wr.cell? ⟨b,o+i*3+1,none⟩=some (.int .i64 x.2.1):=r2;replace r3:wr.cell? ⟨b,o+i*3+2,none⟩=some (.bool x.2.2):=r3;have hf1:=hf.out.trans (qE hx);clear hf hc;have hal:∀o,Below w.heap.size w (wr.alloc o):=λo=>hb0.out.trans ((Below.of_alloc wr o).mono hb0.out.size);replace hx:=zh hx
           by_cases he:eMem x=0
           . rw[if_pos he]at hf1;replace hf1:=zh hf1
             have hcase:(x.2.2=false\/(x.2.2=true/\x.1<=x.2.1))/\x.1<=65536/\x.2.1<=65536:=by
              unfold eMem at he
              by_cases hh:(x.2.2=true/\x.2.1<x.1)\/65536<x.1\/65536<x.2.1
              . rw[if_pos hh]at he;omega
              . refine⟨?_,by omega,by omega⟩;cases hq:x.2.2 with
                |false=>exact .inl rfl
                |true=>
                  refine .inr ⟨rfl,?_⟩
                  by_cases hle:x.2.1<x.1
                  . exact absurd (.inl ⟨hq,hle⟩) hh
                  . omega
             clear he;obtain⟨hcase,m1,m2⟩:=hcase
             rcases hcase with hq |⟨hq,hle⟩
             all_goals(
              rw[hq]at r3;go_wp2_with fail;refine(zJ 60 _).mono ?_;rintro e w' ⟨rfl,rfl⟩;go_wp2
              go_roundw
              case rel=>exact⟨i+1,by simp,by omega,hf1,zh (hal _)⟩
              case measure=>simp[intOf];omega)
           . rw[if_neg he]at hf1
             have hcase:eMem x=60/\((x.2.2=true/\x.2.1<x.1)\/((x.2.2=false\/(x.2.2=true/\x.1<=x.2.1))/\65536<x.1)\/((x.2.2=false\/(x.2.2=true/\x.1<=x.2.1))/\x.1<=65536/\65536<x.2.1)):=by
              unfold eMem at he ⊢
              by_cases hh:(x.2.2=true/\x.2.1<x.1)\/65536<x.1\/65536<x.2.1
              . refine⟨if_pos hh,?_⟩;cases hq:x.2.2 with
                |false=>rw[hq]at hh;simp at hh ⊢;omega
                |true=>rw[hq]at hh;simp at hh ⊢;omega
              . rw[if_neg hh]at he;exact absurd rfl he
             obtain⟨h60,hcase⟩:=hcase;rw[h60]at hf1;have e2:X=60:=(by rw[e1.out,hf1];rfl)
             replace e2:=zh e2;clear he hf1 e1 h60
             rcases hcase with⟨hq,hle⟩ |⟨hq |⟨hq,hle⟩,m1⟩ |⟨hq |⟨hq,hle⟩,m1,m2⟩
             . have hnl:¬x.1<=x.2.1:=(by omega)
               rw[hq]at r3;go_wp2_with fail;refine(qG 60 _).mono ?_;rintro e w' ⟨rfl,rfl⟩;go_wp2;exact⟨rfl,.inr (by rw[e2.out];exact⟨by decide,rfl⟩),hal _⟩
             . have hnl:¬x.1<=65536:=(by omega)
               rw[hq]at r3;go_wp2_with fail;refine(qG 60 _).mono ?_;rintro e w' ⟨rfl,rfl⟩;go_wp2;exact⟨rfl,.inr (by rw[e2.out];exact⟨by decide,rfl⟩),hal _⟩
             . have hnl:¬x.1<=65536:=(by omega)
               rw[hq]at r3;go_wp2_with fail;refine(qG 60 _).mono ?_;rintro e w' ⟨rfl,rfl⟩;go_wp2;exact⟨rfl,.inr (by rw[e2.out];exact⟨by decide,rfl⟩),hal _⟩
             . have hnl:¬x.2.1<=65536:=(by omega)
               rw[hq]at r3;go_wp2_with fail;refine(qG 60 _).mono ?_;rintro e w' ⟨rfl,rfl⟩;go_wp2;exact⟨rfl,.inr (by rw[e2.out];exact⟨by decide,rfl⟩),hal _⟩
             . have hnl:¬x.2.1<=65536:=(by omega)
               rw[hq]at r3;go_wp2_with fail;refine(qG 60 _).mono ?_;rintro e w' ⟨rfl,rfl⟩;go_wp2;exact⟨rfl,.inr (by rw[e2.out];exact⟨by decide,rfl⟩),hal _⟩
         . obtain rfl:i=m.mems.length:=by omega
           rw[List.drop_length]at hf;have e1':X=zD eGlo m.globals:=(by rw[e1.out,hf.out];rfl)
           clear e1 hf;obtain⟨y0,y1,y2,y3,y4,y5,y6,y7,y8,y9,y10,_⟩:=hc.cc;have e1:=zh e1';clear e1' hc;go_wp2_with fail;go_loopw [84] (λvi wr=>∃i:Nat,vi=.int .i64 i/\i<=m.globals.length/\Hid (zD eGlo m.globals=zD eGlo (m.globals.drop i))/\Hid (Below w.heap.size w wr)) (λvi _=>m.globals.length-(intOf vi).toNat)
           case atStart=>exact⟨0,rfl,Nat.zero_le _,zh rfl,hb0⟩
           case round=>
            clear hb0;obtain⟨i,rfl,hi,hf,hb0⟩:=hrel;have hc:=h.out.step hb0.out
            by_cases hlt:i<m.globals.length
            . obtain⟨x,hx⟩:∃x,m.globals[i]? =some x:=⟨_,List.getElem?_eq_getElem hlt⟩
              obtain⟨b,o,rfl,r1,r2,r3⟩:=hc.md.globals.row hx;replace r1:wr.cell? ⟨b,o+i*9,none⟩=some (.int .i64 x.1):=r1;replace r2:wr.cell? ⟨b,o+i*9+1,none⟩=some (.bool x.2.1):=r2;obtain⟨⟨g0,g1,g2,g3⟩,⟨ga4,gk4,g4,_⟩,⟨ga5,gk5,g5,_⟩,⟨ga6,gk6,g6,_⟩,_⟩:=r3;have hf1:=hf.out.trans (qE hx);clear hf hc;have hal:∀o,Below w.heap.size w (wr.alloc o):=λo=>hb0.out.trans ((Below.of_alloc wr o).mono hb0.out.size);replace hx:=zh hx
              by_cases he:eGlo x=0
              . rw[if_pos he]at hf1;replace hf1:=zh hf1
                have hcase:¬x.2.2.op=35/\((x.2.2.op=65/\x.1=127)\/(x.2.2.op=66/\x.1=126)):=by
                 unfold eGlo at he
                 by_cases h35:x.2.2.op=35
                 . rw[if_pos h35]at he;omega
                 . rw[if_neg h35]at he
                   by_cases hh:(x.2.2.op=65/\x.1=127)\/(x.2.2.op=66/\x.1=126)
                   . exact⟨h35,hh⟩
                   . rw[if_neg hh]at he;omega
                clear he;obtain⟨h35,hcase⟩:=hcase
                rcases hcase with⟨hq,hq2⟩ |⟨hq,hq2⟩
                all_goals(
                 rw[hq]at g0;rw[hq2]at r1;clear h35 hq hq2;go_wp2_with fail;refine(zJ 62 _).mono ?_;rintro e w' ⟨rfl,rfl⟩;go_wp2_with fail;refine(zJ 60 _).mono ?_;rintro e w' ⟨rfl,rfl⟩;go_wp2
                 go_roundw
                 case rel=>exact⟨i+1,by simp,by omega,hf1,zh (hal _)⟩
                 case measure=>simp[intOf];omega)
              . rw[if_neg he]at hf1
                by_cases h35:x.2.2.op=35
                . have h62:eGlo x=62:=(by unfold eGlo;rw[if_pos h35])
                  rw[h62]at hf1;have e2:X=62:=(by rw[e1.out,hf1])
                  replace e2:=zh e2;rw[h35]at g0;clear he hf1 e1 h62 h35;go_wp2_with fail;refine(qG 62 _).mono ?_;rintro e w' ⟨rfl,rfl⟩;go_wp2;exact⟨rfl,.inr (by rw[e2.out];exact⟨by decide,rfl⟩),hal _⟩
                . have hcase:eGlo x=60/\¬((x.2.2.op=65/\x.1=127)\/(x.2.2.op=66/\x.1=126)):=by
                   unfold eGlo at he ⊢;rw[if_neg h35]at he ⊢
                   by_cases hh:(x.2.2.op=65/\x.1=127)\/(x.2.2.op=66/\x.1=126)
                   . rw[if_pos hh]at he;exact absurd rfl he
                   . exact⟨if_neg hh,hh⟩
                  obtain⟨h60,hh⟩:=hcase;rw[h60]at hf1;have e2:X=60:=(by rw[e1.out,hf1])
                  replace e2:=zh e2;have b35:(x.2.2.op !=35)=true:=(by simp[h35])
                  clear he hf1 e1 h60
                  have hc4:((x.2.2.op==65)=true/\(x.1==127)=false/\(x.2.2.op==66)=false)\/((x.2.2.op==65)=false/\(x.2.2.op==66)=true/\(x.1==126)=false)\/((x.2.2.op==65)=false/\(x.2.2.op==66)=false):=by simp;omega
                  clear hh h35
                  rcases hc4 with⟨q1,q2,q3⟩ |⟨q1,q2,q3⟩ |⟨q1,q2⟩
                  all_goals(
                   go_wp2_with fail;refine(zJ 62 _).mono ?_;rintro e w' ⟨rfl,rfl⟩;go_wp2_with fail;refine(qG 60 _).mono ?_;rintro e w' ⟨rfl,rfl⟩;go_wp2;exact⟨rfl,.inr (by rw[e2.out];exact⟨by decide,rfl⟩),hal _⟩)
            . obtain rfl:i=m.globals.length:=by omega
              rw[List.drop_length]at hf;have e2:X=0:=(by rw[e1.out,hf.out];rfl)
              replace e2:=zh e2;go_wp2;go_end0;exact⟨.inl ⟨e2.out,rfl⟩,hb0.out⟩
      . have e1:X=3:=(by rw[e1'.out,show yL m.mems.length=3 by unfold yL;rw[if_neg ht]];rfl)
        replace e1:=zh e1;have i1:¬(m.mems.length:Int)<=1:=(by omega)
        clear ht;go_wp2_with fail;refine(qG 3 _).mono ?_;rintro e w' ⟨rfl,rfl⟩;go_wp2;exact⟨rfl,.inr (by rw[e1.out];exact⟨by decide,rfl⟩),hb0.out⟩
 . have e1:X=3:=(by rw[hX1.out,show yL m.tables.length=3 by unfold yL;rw[if_neg ht]];rfl)
   replace e1:=zh e1;have i1:¬(m.tables.length:Int)<=1:=(by omega)
   clear ht;go_enter Tryz.func27,Tryz.ntmps27;go_wp2_with fail;refine(qG 3 _).mono ?_;rintro e w' ⟨rfl,rfl⟩;go_wp2;exact⟨rfl,.inr (by rw[e1.out];exact⟨by decide,rfl⟩),hb0.out⟩
end
end Go.Proofs.YtacohbllbjgdgaaGreatDoor
namespace Go.Proofs.YtacohbllbjgdgaaGreatDoor
open Go.RowKit
def eOff (op:Int):Int:=if op=35 then 62 else if op=65 then 0 else 60
def xT (n many:Int):Int:=if n<many then 0 else 61
theorem offset_any(op a y n:Int)(v4 v5 v6:Value)(w:World):Calls Tryz.prog 52 #[zO op a y n v4 v5 v6] w (endN w (eOff op)):=by
 have hal:=Below.of_alloc w (.cells #[.int .i64 op,.int .i64 a,.int .i64 y,.int .i64 n,v4,v5,v6] 49);unfold zO
 by_cases h35:op=35
 . subst h35;go_enter Tryz.func52,Tryz.ntmps52;go_wp2_with fail;refine(qG 62 _).mono ?_;rintro e w' ⟨rfl,rfl⟩;go_wp2;exact⟨rfl,.inr ⟨by decide,rfl⟩,hal⟩
 . by_cases h65:op=65
   . subst h65;go_enter Tryz.func52,Tryz.ntmps52;go_wp2_with fail;refine(zJ 62 _).mono ?_;rintro e w' ⟨rfl,rfl⟩;go_wp2_with fail;refine(zJ 60 _).mono ?_;rintro e w' ⟨rfl,rfl⟩;go_wp2;go_end0;exact⟨.inl ⟨by decide,rfl⟩,hal⟩
   . have e60:Hid (eOff op=60):=zh (by unfold eOff;rw[if_neg h35,if_neg h65]);have b35:(op !=35)=true:=(by simp[h35])
     have b65:(op==65)=false:=(by simp[h65])
     clear h35 h65;go_enter Tryz.func52,Tryz.ntmps52;go_wp2_with fail;refine(zJ 62 _).mono ?_;rintro e w' ⟨rfl,rfl⟩;go_wp2_with fail;refine(qG 60 _).mono ?_;rintro e w' ⟨rfl,rfl⟩;go_wp2;exact⟨rfl,.inr (by rw[e60.out];exact⟨by decide,rfl⟩),hal⟩
def eEl (tables:Nat) (funcs:Nat) (t:One×List Int):Int:=zX (xT 0 tables) (zX (eOff t.1.op) (zD (λn=>xT n funcs) t.2))
def eDa (mems:Nat) (t:One×ByteArray):Int:=zX (xT 0 mems) (eOff t.1.op)
def vH (m:Md) (funcs:Nat):Int:=zX (zD (eEl m.tables.length funcs) m.elems) (zD (eDa m.mems.length) m.datas)
end Go.Proofs.YtacohbllbjgdgaaGreatDoor
namespace Go.Proofs.YtacohbllbjgdgaaGreatDoor
open Go.RowKit
section
variable {w w':World} {c:Nat} {m:Md} {fs:List (List Int×List Int)} {a0:Option Addr} {k0:Nat} {a1:Option Addr} {k1:Nat} {a2:Option Addr} {k2:Nat} {a3:Option Addr} {k3:Nat} {a4:Option Addr} {k4:Nat} {a5:Option Addr} {k5:Nat}
 {a6:Option Addr} {k6:Nat} {a7:Option Addr} {k7:Nat} {a8:Option Addr} {k8:Nat} {a9:Option Addr} {k9:Nat} {fa:Option Addr} {fk:Nat}
theorem offset_ok{op:Int}(h:eOff op=0)(a y n:Int)(v4 v5 v6:Value)(w:World):Calls Tryz.prog 52 #[zO op a y n v4 v5 v6] w λe w'=>e=.returned (.tuple #[])/\Below w.heap.size w w':=
 (offset_any op a y n v4 v5 v6 w).mono λe w' q=>⟨by rcases q.1 with⟨_,e⟩ |⟨e,_⟩;exact e;exact absurd h e,q.2⟩
theorem offset_er{op:Int}(h:eOff op≠0)(a y n:Int)(v4 v5 v6:Value)(w:World):Calls Tryz.prog 52 #[zO op a y n v4 v5 v6] w λe w'=>e=.panicked (jS (eOff op))/\Below w.heap.size w w':=
 (offset_any op a y n v4 v5 v6 w).mono λe w' q=>⟨by rcases q.1 with⟨e,_⟩ |⟨_,e⟩;exact absurd e h;exact e,q.2⟩
theorem fills_any(h:ChkAt w c m fs a0 k0 a1 k1 a2 k2 a3 k3 a4 k4 a5 k5 a6 k6 a7 k7 a8 k8 a9 k9 fa fk):Calls Tryz.prog 29 #[.pointer (some ⟨c,0,none⟩)] w (endN w (vH m fs.length)):=by
 have hX0:vH m fs.length=zX (zD (eEl m.tables.length fs.length) m.elems) (zD (eDa m.mems.length) m.datas):=rfl;generalize vH m fs.length=X at hX0 ⊢;replace hX0:=zh hX0;have hb0:Hid (Below w.heap.size w w):=zh (Below.refl _ _);obtain⟨y0,y1,y2,y3,y4,y5,y6,y7,y8,y9,y10,_⟩:=h.cc;have l8:=h.md.elems.1;have l9:=h.md.datas.1;replace h:=zh h;go_enter Tryz.func29,Tryz.ntmps29;go_wp2_with fail;go_loopw [15] (λvi wr=>∃i:Nat,vi=.int .i64 i/\i<=m.elems.length/\Hid (zD (eEl m.tables.length fs.length) m.elems=zD (eEl m.tables.length fs.length) (m.elems.drop i))/\Hid (Below w.heap.size w wr)) (λvi _=>m.elems.length-(intOf vi).toNat)
 case atStart=>exact⟨0,rfl,Nat.zero_le _,zh rfl,hb0⟩
 case round=>
  clear hb0 y0 y1 y2 y3 y4 y5 y6 y7 y8 y9 y10;obtain⟨i,rfl,hi,hf,hb0⟩:=hrel;have hc:=h.out.step hb0.out;obtain⟨y0,y1,y2,y3,y4,y5,y6,y7,y8,y9,y10,_⟩:=hc.cc
  by_cases hlt:i<m.elems.length
  . obtain⟨x,hx⟩:∃x,m.elems[i]? =some x:=⟨_,List.getElem?_eq_getElem hlt⟩
    obtain⟨b,o,rfl,⟨⟨g0,g1,g2,g3⟩,⟨ga4,gk4,g4,_⟩,⟨ga5,gk5,g5,_⟩,⟨ga6,gk6,g6,_⟩,_⟩,⟨ga7,gk7,g7,hxi⟩⟩:=hc.md.elems.row hx;have hf1:=hf.out.trans (qE hx);clear hf hc;have hal:∀o,Below w.heap.size w (wr.alloc o):=λo=>hb0.out.trans ((Below.of_alloc wr o).mono hb0.out.size);have hal1:∀o,Below wr.heap.size wr (wr.alloc o):=λo=>Below.of_alloc wr o;have yz3:∀o,(wr.alloc o).cell? ⟨c,3,none⟩=some (.slice a3 m.tables.length k3):=λo=>zA (hal1 o) _ _ y3;have hlx:=hxi.1;replace hx:=zh hx;replace hxi:=zh hxi
    by_cases ht:0<m.tables.length
    . have hHT:=λw=>zh (qB (show(0:Int)<(m.tables.length:Int) by omega) w);have eh:xT 0 m.tables.length=0:=if_pos (show(0:Int)<(m.tables.length:Int) by omega)
      by_cases ho:eOff x.1.op=0
      . have hoc:=λa y n v4 v5 v6 w=>zh (offset_ok ho a y n v4 v5 v6 w);have ex:eEl m.tables.length fs.length x=zD (λn=>xT n fs.length) x.2:=(by unfold eEl;rw[eh,ho];rfl)
        rw[ex]at hf1;replace hf1:=zh hf1;clear ht eh ho ex;go_wp2_with fail;refine(hHT _).out.mono ?_;rintro e w' ⟨rfl,rfl⟩;go_wp2_with fail;refine(hoc _ _ _ _ _ _ _).out.mono ?_;rintro e w2 ⟨rfl,bb2⟩;have z7:w2.cell? ⟨wr.heap.size,7,none⟩=some (.slice ga7 x.2.length gk7):=zA bb2 _ _ (World.cell?_alloc_at _ _ _ 7 (by simp));have hb2:=zh ((hal _).trans (bb2.mono (hal _).size));have hxi2:=zh ((hxi.out.below (hal1 _)).below bb2);clear bb2 y0 y1 y2 y3 y4 y5 y6 y7 y8 y9 y10 g0 g1 g2 g3 g4 g5 g6 g7;clear yz3;go_wp2_with fail;go_loopw [33] (λvj wj=>∃j:Nat,vj=.int .i64 j/\j<=x.2.length/\Hid (zD (λn=>xT n fs.length) x.2=zD (λn=>xT n fs.length) (x.2.drop j))/\Hid (Below w.heap.size w wj)/\Hid (IntsIn wj ga7 x.2)) (λvj _=>x.2.length-(intOf vj).toNat)
        case atStart=>exact⟨0,rfl,Nat.zero_le _,zh rfl,hb2,hxi2⟩
        case round=>
         clear hb2 hxi2 z7;obtain⟨j,rfl,hj,hg,hb2,hxi2⟩:=hrel;have hc2:=h.out.step hb2.out;obtain⟨y0,y1,y2,y3,y4,y5,y6,y7,y8,y9,y10,_⟩:=hc2.cc
         by_cases hjt:j<x.2.length
         . obtain⟨v,hv⟩:∃v,x.2[j]? =some v:=⟨_,List.getElem?_eq_getElem hjt⟩
           obtain⟨b9,o9,rfl,c9⟩:=hxi2.out.at hv;have hg1:=hg.out.trans (qE hv);replace hv:=zh hv;clear hg hc2
           by_cases hlt2:v<(fs.length:Int)
           . rw[show xT v fs.length=0 from if_pos hlt2,if_pos rfl]at hg1;replace hg1:=zh hg1;have hHY:=λw=>zh (qB hlt2 w);go_wp2_with fail;refine(hHY _).out.mono ?_;rintro e w' ⟨rfl,rfl⟩;go_wp2
             go_roundw
             case rel=>exact⟨j+1,by simp,by omega,hg1,hb2,hxi2⟩
             case measure=>simp[intOf];omega
           . rw[show xT v fs.length=61 from if_neg hlt2,if_neg (by decide)]at hg1;have e3:X=61:=(by rw[hX0.out,hf1.out,hg1];rfl)
             replace e3:=zh e3;have hHN:=λw=>zh (vA hlt2 w);clear hg1;go_wp2_with fail;refine(hHN _).out.mono ?_;rintro e w' ⟨rfl,rfl⟩;go_wp2;exact⟨rfl,.inr (by rw[e3.out];exact⟨by decide,rfl⟩),hb2.out⟩
         . obtain rfl:j=x.2.length:=by omega
           rw[List.drop_length]at hg
           have hf2:zD (eEl m.tables.length fs.length) m.elems=zD (eEl m.tables.length fs.length) (m.elems.drop (i+1)):=by rw[hf1.out,hg.out];exact if_pos rfl
           replace hf2:=zh hf2;clear hf1 hg hc2;go_wp2
           go_roundw
           case rel=>exact⟨i+1,by simp,by omega,hf2,hb2⟩
           case measure=>simp[intOf];omega
      . have ex:eEl m.tables.length fs.length x=eOff x.1.op:=by
         show zX (xT 0 m.tables.length) (zX (eOff x.1.op) _)=_
         rw[eh];exact if_neg ho
        rw[ex,if_neg ho]at hf1;have e2:X=eOff x.1.op:=(by rw[hX0.out,hf1];exact if_neg ho)
        have hoe:=λa y n v4 v5 v6 w=>zh (offset_er ho a y n v4 v5 v6 w);replace e2:=zh e2;replace ho:=zh ho;clear hf1 ex eh ht;go_wp2_with fail;refine(hHT _).out.mono ?_;rintro e w' ⟨rfl,rfl⟩;go_wp2_with fail;refine(hoe _ _ _ _ _ _ _).out.mono ?_;rintro e w2 ⟨rfl,bb2⟩;go_wp2;exact⟨rfl,.inr (by rw[e2.out];exact⟨ho.out,rfl⟩),(hal _).trans (bb2.mono (hal _).size)⟩
    . have eh:xT 0 m.tables.length=61:=if_neg (show¬(0:Int)<(m.tables.length:Int) by omega);have hHN:=λw=>zh (vA (show¬(0:Int)<(m.tables.length:Int) by omega) w)
      have ex:eEl m.tables.length fs.length x=61:=by
       show zX (xT 0 m.tables.length) _=61
       rw[eh];rfl
      rw[ex,if_neg (by decide)]at hf1;have e2:X=61:=(by rw[hX0.out,hf1];rfl)
      replace e2:=zh e2;clear hf1 ex eh ht;go_wp2_with fail;refine(hHN _).out.mono ?_;rintro e w' ⟨rfl,rfl⟩;go_wp2;exact⟨rfl,.inr (by rw[e2.out];exact⟨by decide,rfl⟩),hal _⟩
  . obtain rfl:i=m.elems.length:=by omega
    rw[List.drop_length]at hf;have hX1:X=zD (eDa m.mems.length) m.datas:=(by rw[hX0.out,hf.out];rfl)
    replace hX1:=zh hX1;clear hf hX0 hc;go_wp2_with fail;go_loopw [52] (λvi wr=>∃i:Nat,vi=.int .i64 i/\i<=m.datas.length/\Hid (zD (eDa m.mems.length) m.datas=zD (eDa m.mems.length) (m.datas.drop i))/\Hid (Below w.heap.size w wr)) (λvi _=>m.datas.length-(intOf vi).toNat)
    case atStart=>exact⟨0,rfl,Nat.zero_le _,zh rfl,hb0⟩
    case round=>
     clear hb0 y0 y1 y2 y3 y4 y5 y6 y7 y8 y9 y10;obtain⟨i,rfl,hi,hf,hb0⟩:=hrel;have hc:=h.out.step hb0.out;obtain⟨y0,y1,y2,y3,y4,y5,y6,y7,y8,y9,y10,_⟩:=hc.cc
     by_cases hlt:i<m.datas.length
     . obtain⟨x,hx⟩:∃x,m.datas[i]? =some x:=⟨_,List.getElem?_eq_getElem hlt⟩
       obtain⟨b,o,rfl,⟨⟨g0,g1,g2,g3⟩,⟨ga4,gk4,g4,_⟩,⟨ga5,gk5,g5,_⟩,⟨ga6,gk6,g6,_⟩,_⟩,⟨g7,_⟩⟩:=hc.md.datas.row hx;have hf1:=hf.out.trans (qE hx);clear hf hc;have hal:∀o,Below w.heap.size w (wr.alloc o):=λo=>hb0.out.trans ((Below.of_alloc wr o).mono hb0.out.size);have hal1:∀o,Below wr.heap.size wr (wr.alloc o):=λo=>Below.of_alloc wr o;have yz4:∀o,(wr.alloc o).cell? ⟨c,4,none⟩=some (.slice a4 m.mems.length k4):=λo=>zA (hal1 o) _ _ y4;replace hx:=zh hx
       by_cases ht:0<m.mems.length
       . have hHT:=λw=>zh (qB (show(0:Int)<(m.mems.length:Int) by omega) w);have eh:xT 0 m.mems.length=0:=if_pos (show(0:Int)<(m.mems.length:Int) by omega)
         have ex0:eDa m.mems.length x=eOff x.1.op:=by
          show zX (xT 0 m.mems.length) _=_
          rw[eh];rfl
         by_cases ho:eOff x.1.op=0
         . have hoc:=λa y n v4 v5 v6 w=>zh (offset_ok ho a y n v4 v5 v6 w);rw[ex0,if_pos ho]at hf1;replace hf1:=zh hf1;clear ht eh ho ex0;go_wp2_with fail;refine(hHT _).out.mono ?_;rintro e w' ⟨rfl,rfl⟩;go_wp2_with fail;refine(hoc _ _ _ _ _ _ _).out.mono ?_;rintro e w2 ⟨rfl,bb2⟩;have hb2:=zh ((hal _).trans (bb2.mono (hal _).size));clear bb2 y0 y1 y2 y3 y4 y5 y6 y7 y8 y9 y10 g0 g1 g2 g3 g4 g5 g6 g7 yz4;go_wp2
           go_roundw
           case rel=>exact⟨i+1,by simp,by omega,hf1,hb2⟩
           case measure=>simp[intOf];omega
         . have ex:eDa m.mems.length x=eOff x.1.op:=ex0;rw[ex,if_neg ho]at hf1;have e2:X=eOff x.1.op:=(by rw[hX1.out,hf1])
           have hoe:=λa y n v4 v5 v6 w=>zh (offset_er ho a y n v4 v5 v6 w);replace e2:=zh e2;replace ho:=zh ho;clear hf1 ex eh ht ex0;go_wp2_with fail;refine(hHT _).out.mono ?_;rintro e w' ⟨rfl,rfl⟩;go_wp2_with fail;refine(hoe _ _ _ _ _ _ _).out.mono ?_;rintro e w2 ⟨rfl,bb2⟩;go_wp2;exact⟨rfl,.inr (by rw[e2.out];exact⟨ho.out,rfl⟩),(hal _).trans (bb2.mono (hal _).size)⟩
       . have eh:xT 0 m.mems.length=61:=if_neg (show¬(0:Int)<(m.mems.length:Int) by omega);have hHN:=λw=>zh (vA (show¬(0:Int)<(m.mems.length:Int) by omega) w)
         have ex:eDa m.mems.length x=61:=by
          show zX (xT 0 m.mems.length) _=61
          rw[eh];rfl
         rw[ex,if_neg (by decide)]at hf1;have e2:X=61:=(by rw[hX1.out,hf1])
         replace e2:=zh e2;clear hf1 ex eh ht;go_wp2_with fail;refine(hHN _).out.mono ?_;rintro e w' ⟨rfl,rfl⟩;go_wp2;exact⟨rfl,.inr (by rw[e2.out];exact⟨by decide,rfl⟩),hal _⟩
     . obtain rfl:i=m.datas.length:=by omega
       rw[List.drop_length]at hf;have e2:X=0:=(by rw[hX1.out,hf.out];rfl)
       replace e2:=zh e2;clear hc;go_wp2;go_end0;exact⟨.inl ⟨e2.out,rfl⟩,hb0.out⟩
end
end Go.Proofs.YtacohbllbjgdgaaGreatDoor
namespace Go.Proofs.YtacohbllbjgdgaaGreatDoor
open Go.RowKit
def xQ (m:Md):Int:=zD (λt=>if t.2.length<=1 then 0 else 60) m.types
def vD (m:Md):List Int:=m.imports.map (λt=>t.2.2)++m.funcs.map (λt=>t.1)
def idxV (m:Md):Int:=zD (λn=>xT n m.types.length) (vD m)
def zY (m:Md):List (List Int×List Int):=(vD m).map λn=>m.types.getD n.toNat ([],[])
def manyV (m:Md) (k:Int):Int:=if k=0 then(zY m).length else if k=1 then m.tables.length else if k=2 then m.mems.length else m.globals.length
def xO (m:Md):List (ByteArray×Int×Int)->List ByteArray->Int
 | [],_=>0
 |x::r,seen=>if x.1.data.toList∈seen.map (λs=>s.data.toList)then 63 else if x.2.2<manyV m x.2.1 then xO m r (x.1::seen)else 61
def eStart (m:Md) (n:Int):Int:=if n<((zY m).length:Int)then(if((zY m).getD n.toNat ([],[])).1.length=0/\((zY m).getD n.toNat ([],[])).2.length=0 then 0 else 60)else 61
def jQ (m:Md):Int:=zX (xO m m.exports []) (zD (eStart m) m.start)
def xV (m:Md):List (Int×List Int×Il)->Nat->Int×Int
 | [],_=>(-1,0)
 |fn::r,n=>match bodyT m (zY m) ((zY m).getD n ([],[])) fn with
   |.ok _=>xV m r (n+1)
   |.error e=>(n,e)
def headV (m:Md):Int:=zX (qI m) (zX (xQ m) (zX (idxV m) (zX (vX m) (zX (jQ m) (vH m (zY m).length)))))
def qM (m:Md):Int×Int:=if headV m=0 then xV m m.funcs m.imports.length else(-1,headV m)
theorem funcT_length(m:Md):(zY m).length=m.imports.length+m.funcs.length:=by unfold zY vD;simp
theorem firstL_zero {α:Type} {f:α->Int}:∀{l:List α},zD f l=0->∀x∈l,f x=0
 | [],_,x,hx=>by cases hx
 |y::r,h,x,hx=>by
   unfold zD at h
   by_cases hy:f y=0
   . rw[if_pos hy]at h
     rcases List.mem_cons.1 hx with rfl |hx
     . exact hy
     . exact firstL_zero h x hx
   . rw[if_neg hy]at h;exact absurd h hy
theorem xD{a b:Int}(h:zX a b=0):a=0/\b=0:=by
 unfold zX at h
 by_cases ha:a=0
 . rw[if_pos ha]at h;exact⟨ha,h⟩
 . rw[if_neg ha]at h;exact absurd h ha
end Go.Proofs.YtacohbllbjgdgaaGreatDoor
namespace Go.Proofs.YtacohbllbjgdgaaGreatDoor
open Go.RowKit
structure MA where
 a0:Option Addr
 k0:Nat
 a1:Option Addr
 k1:Nat
 a2:Option Addr
 k2:Nat
 a3:Option Addr
 k3:Nat
 a4:Option Addr
 k4:Nat
 a5:Option Addr
 k5:Nat
 a6:Option Addr
 k6:Nat
 a7:Option Addr
 k7:Nat
 a8:Option Addr
 k8:Nat
 a9:Option Addr
 k9:Nat
def MA.v (A:MA) (m:Md):M10:=⟨.slice A.a0 m.types.length A.k0,.slice A.a1 m.imports.length A.k1,.slice A.a2 m.funcs.length A.k2,.slice A.a3 m.tables.length A.k3,.slice A.a4 m.mems.length A.k4,.slice A.a5 m.globals.length A.k5,.slice A.a6 m.exports.length A.k6,.slice A.a7 m.start.length A.k7,.slice A.a8 m.elems.length A.k8,.slice A.a9 m.datas.length A.k9⟩
def MdA (w:World) (m:Md) (A:MA):Prop:=MdAt w m A.a0 A.k0 A.a1 A.k1 A.a2 A.k2 A.a3 A.k3 A.a4 A.k4 A.a5 A.k5 A.a6 A.k6 A.a7 A.k7 A.a8 A.k8 A.a9 A.k9
structure Rx (wa:World) (N p:Nat) (A:MA) (lv:Value) (m:Md) (E:Ev) (w:World) (sv fv:Value) (s:Rs):Prop where
 t:RcP N p (A.v m) lv w sv fv s
 wf:RWf s
 b:Below wa.heap.size wa w
 p0:wa.heap.size<=p
 md:MdA wa m A
 lc:∃a k,lv=.slice a E.locals.length k/\LiB w p sv fv a E.locals
 e1:E.types=m.types
 e2:E.globals=m.globals.map λg=>(g.1,g.2.1)
 e3:E.tables=m.tables.length
 e4:E.mems=m.mems.length
section
variable {wa:World} {N p:Nat} {A:MA} {lv:Value} {m:Md} {E:Ev} {w w':World} {sv fv sv' fv':Value} {s u:Rs}
theorem Rx.go(h:Rx wa N p A lv m E w sv fv s)(hu:RWf u)(t:RcP N p (A.v m) lv w' sv' fv' u)(tw:Tw p sv fv sv' fv' w w'):Rx wa N p A lv m E w' sv' fv' u:=by obtain⟨a,k,e,l⟩:=h.lc;have hN:=h.t.o.hN;have hp:=h.p0;refine⟨t,hu,h.b.trans (tw.below h.p0 (λg hg=>by have:=h.t.o.low.1 g hg;omega) (λg hg=>by have:=h.t.o.low.2 g hg;omega) h.b.size),h.p0,h.md,⟨a,k,e,l.tw tw⟩,h.e1,h.e2,h.e3,h.e4⟩
theorem Rx.step(h:Rx wa N p A lv m E w sv fv s)(b:Below w.heap.size w w'):Rx wa N p A lv m E w' sv fv s:=h.go h.wf (h.t.step b) (.of_below b)
theorem Rx.mdw(h:Rx wa N p A lv m E w sv fv s):MdA w m A:=MdAt.keep (zA h.b) h.md
theorem Rx.old(h:Rx wa N p A lv m E w sv fv s){l:List Int}{a:Option Addr}(hl:IntsIn wa a l):LiB w p sv fv a l:=by
 have hN:=h.t.o.hN;have hp:=h.p0;refine .old (M:=wa.heap.size) (hl.below h.b) ?_ h.p0 (λg hg=>by have:=h.t.o.low.1 g hg;omega) (λg hg=>by have:=h.t.o.low.2 g hg;omega)
 rcases hl.2 with e |⟨b,o,rfl,hc⟩
 . exact .inl e
 . cases hts:l with
   |nil=>exact .inl rfl
   |cons x r=>refine .inr λad e=> ?_;cases e;exact World.block_lt_of_cell? _ _ (hc 0 x (by rw[hts];rfl))
theorem RcP.off{M:M10}(h:RcP N p M lv w sv fv s)(o:Obj):Off (w.alloc o) p sv fv w.heap.size:=by obtain⟨L,_,h3,_⟩:=h.o.fs;exact⟨by simp,λe=>by have:=lt_of_block h.b;omega,λe=>by have:=(h.o.st.lt _ e).2;omega,λe=>by have:=(h3.lt _ e).2;omega⟩
def Lh (s:Rs):Prop:=s.w=0->s.st.length+1<=1099511627776
theorem Gr.lh{s s':Rs}(g:Gr 0 s s')(h:Lh s):Lh s':=λhw=>by have:=g.ok hw;have:=h this.1;omega
theorem Lh.l(h:Lh s){l:List Int}(hl:l.length<=1):s.w=0->s.st.length+l.length<=1099511627776:=λhw=>by have:=h hw;omega
theorem rcall_any(h:Rx wa N p A lv m E w sv fv s){t:List Int×List Int}{pa ra:Option Addr}{pc rc:Nat}(l1:LiB w p sv fv pa t.1)(l2:LiB w p sv fv ra t.2)(ht:t.2.length<=1)(hb:Lh s):Calls Tryz.prog 110 #[.pointer (some ⟨p,0,none⟩),.agg #[.slice pa t.1.length pc,.slice ra t.2.length rc]] w (endO N p (A.v m) lv w sv fv (rCall t s)):=by
 have ha:=Below.of_alloc w (.cells #[.slice pa t.1.length pc,.slice ra t.2.length rc] 44);have tw1:Tw p sv fv sv fv w (w.alloc (.cells #[.slice pa t.1.length pc,.slice ra t.2.length rc] 44)):=.of_below ha;have h2:=h.step ha;have hoff:=h.t.off (.cells #[.slice pa t.1.length pc,.slice ra t.2.length rc] 44);have hc:=rpops_any (lc:=pc) h2.t h2.wf (l1.tw tw1);have g:=yG h.wf t.1;unfold rCall;go_enter Tryz.func110,Tryz.ntmps110;go_wp2_with fail;refine hc.mono ?_;rintro e w2 ⟨rfl,sv2,h3,tw2⟩
 have c1:w2.cell? ⟨w.heap.size,1,none⟩=some (.slice ra t.2.length rc):=by rw[World.cell?_of_block (hoff.tw tw2).2];exact World.cell?_alloc_at _ _ _ 1 (by simp)
 have hl2:=(l2.tw tw1).tw tw2;go_wp2_with fail;refine(vZ (lc:=rc) h3 hl2.1 ((g.lh hb).l ht)).mono ?_;rintro e w3 ⟨rfl,sv3,h4,tw3⟩;go_wp2;go_end0;exact⟨rfl,sv3,h4,(tw1.trans tw2).trans tw3⟩
theorem tup2{a b a' b':Int}(h:a=a')(k:b=b'):Ending.returned (.tuple #[.int .i64 a,.int .i64 b])=.returned (.tuple #[.int .i64 a',.int .i64 b']):=by rw[h,k]
theorem wide_any(op:Int)(w:World):Calls Tryz.prog 123 #[.int .i64 op] w λe w'=>e=.returned (.tuple #[.int .i64 (wideN op),.int .i64 (wideT op)])/\w'=w:=by
 go_enter Tryz.func123,Tryz.ntmps123;go_wp2;all_goals go_ret2
 all_goals refine⟨?_,rfl⟩
 all_goals refine tup2 ?_ ?_
 all_goals simp only[beq_iff_eq,beq_eq_false_iff_ne,ne_eq]at*
 all_goals first |unfold wideN |unfold wideT
 all_goals repeat' split
 all_goals omega
end
end Go.Proofs.YtacohbllbjgdgaaGreatDoor
