/- The reference's shape. -/
import Derived.Test.YtacohbllbjgdgaaGreatDoorWe
import Derived.Test.YtacohbllbjgdgaaGreatDoorNb
import Derived.Test.YtacohbllbjgdgaaGreatDoorUl
set_option linter.all false
set_option maxRecDepth 100000
set_option maxHeartbeats 2000000
namespace Go.Proofs.YtacohbllbjgdgaaGreatDoor
open Go.RowKit
def impR (t:ByteArray×ByteArray×Int):Bool:=zM t.2.2&&(jD t.1&&jD t.2.1)
def rsE (m:Md):Bool:=m.tables.all vM&&(m.mems.all vM&&m.start.all zM)
def rsD (m:Md):Bool:=m.datas.all datS&&rsE m
def rsC (m:Md):Bool:=m.elems.all elmS&&rsD m
def rsB (m:Md):Bool:=m.exports.all yZ&&rsC m
def rsA (m:Md):Bool:=m.globals.all gloS&&rsB m
def rs9 (m:Md):Bool:=m.funcs.all funS&&rsA m
def rs8 (m:Md):Bool:=m.imports.all impR&&rs9 m
def rshapeB (m:Md):Bool:=m.types.all typS&&rs8 m
theorem rtypes1_any(x:Int)(w:World)(ao:Option Addr)(h:IntsIn w ao [x]):Calls Tryz.prog 60 #[.slice ao 1 1] w λe w'=>e=.returned (.bool (xG x))/\w=w':=by have:=rtypes_any [x] ao 1 w h;rw[all_1]at this;exact this
theorem rname2_any(s:ByteArray)(w:World)(hs:s.size<=9223372036854775807):Calls Tryz.prog 62 #[.string s] w λe w'=>e=.returned (.bool (jD s))/\w=w':=by
 by_cases h:(s.size:Int)<=64
 . exact rname_any s w (by omega)
 . have hd:decide ((s.size:Int)<=64)=false:=decide_eq_false h;have hS2:jD s=false:=(by unfold jD;rw[hd];rfl)
   clear hd;go_enter Tryz.func62,Tryz.ntmps62;go_wp2;go_ret;exact⟨rfl,rfl⟩
theorem shape_any(m:Md)(a0:Option Addr)(k0:Nat)(a1:Option Addr)(k1:Nat)(a2:Option Addr)(k2:Nat)(a3:Option Addr)(k3:Nat)(a4:Option Addr)(k4:Nat)(a5:Option Addr)(k5:Nat)(a6:Option Addr)(k6:Nat)(a7:Option Addr)(k7:Nat)(a8:Option Addr)(k8:Nat)(a9:Option Addr)(k9:Nat)(w:World)(h:MdAt w m a0 k0 a1 k1 a2 k2 a3 k3 a4 k4 a5 k5 a6 k6 a7 k7 a8 k8 a9 k9):Calls Tryz.prog 44 #[mdV m a0 k0 a1 k1 a2 k2 a3 k3 a4 k4 a5 k5 a6 k6 a7 k7 a8 k8 a9 k9] w λe w'=>e=.returned (.bool (rshapeB m))/\Below w.heap.size w w':=by
 have HM:=zh (h.keep (zA ((Below.refl w.heap.size w).alloc (Nat.le_refl _) (.cells #[.slice a0 m.types.length k0,.slice a1 m.imports.length k1,.slice a2 m.funcs.length k2,.slice a3 m.tables.length k3,.slice a4 m.mems.length k4,.slice a5 m.globals.length k5,.slice a6 m.exports.length k6,.slice a7 m.start.length k7,.slice a8 m.elems.length k8,.slice a9 m.datas.length k9] 32))));have n0:=h.types.1;have n1:=h.imports.1;have n2:=h.funcs.1;have n3:=h.tables.1;have n4:=h.mems.1;have n5:=h.globals.1;have n6:=h.exports.1;have n7:=h.start.1;have n8:=h.elems.1;have n9:=h.datas.1;have hB0:Hid (Below w.heap.size w (w.alloc (.cells #[.slice a0 m.types.length k0,.slice a1 m.imports.length k1,.slice a2 m.funcs.length k2,.slice a3 m.tables.length k3,.slice a4 m.mems.length k4,.slice a5 m.globals.length k5,.slice a6 m.exports.length k6,.slice a7 m.start.length k7,.slice a8 m.elems.length k8,.slice a9 m.datas.length k9] 32))):=zh ((Below.refl _ _).alloc (Nat.le_refl _) _);have S0:Hid (rshapeB m=(m.types.all typS&&rs8 m)):=zh rfl;clear h;unfold mdV;go_enter Tryz.func44,Tryz.ntmps44;go_wp2_with fail;obtain⟨w0,hw0⟩:∃w0,w0=(w.alloc (.cells #[.slice a0 m.types.length k0,.slice a1 m.imports.length k1,.slice a2 m.funcs.length k2,.slice a3 m.tables.length k3,.slice a4 m.mems.length k4,.slice a5 m.globals.length k5,.slice a6 m.exports.length k6,.slice a7 m.start.length k7,.slice a8 m.elems.length k8,.slice a9 m.datas.length k9] 32)):=⟨_,rfl⟩
 rw[<-hw0];rw[<-hw0]at HM hB0;have hs0:w.heap.size<=w0.heap.size:=hB0.out.size;have y0:Hid (w0.cell? ⟨w.heap.size,0,none⟩=some (.slice a0 m.types.length k0)):=zh (by rw[hw0];exact World.cell?_alloc_at _ _ _ _ rfl);have y1:Hid (w0.cell? ⟨w.heap.size,1,none⟩=some (.slice a1 m.imports.length k1)):=zh (by rw[hw0];exact World.cell?_alloc_at _ _ _ _ rfl);have y2:Hid (w0.cell? ⟨w.heap.size,2,none⟩=some (.slice a2 m.funcs.length k2)):=zh (by rw[hw0];exact World.cell?_alloc_at _ _ _ _ rfl);have y3:Hid (w0.cell? ⟨w.heap.size,3,none⟩=some (.slice a3 m.tables.length k3)):=zh (by rw[hw0];exact World.cell?_alloc_at _ _ _ _ rfl);have y4:Hid (w0.cell? ⟨w.heap.size,4,none⟩=some (.slice a4 m.mems.length k4)):=zh (by rw[hw0];exact World.cell?_alloc_at _ _ _ _ rfl);have y5:Hid (w0.cell? ⟨w.heap.size,5,none⟩=some (.slice a5 m.globals.length k5)):=zh (by rw[hw0];exact World.cell?_alloc_at _ _ _ _ rfl);have y6:Hid (w0.cell? ⟨w.heap.size,6,none⟩=some (.slice a6 m.exports.length k6)):=zh (by rw[hw0];exact World.cell?_alloc_at _ _ _ _ rfl);have y7:Hid (w0.cell? ⟨w.heap.size,7,none⟩=some (.slice a7 m.start.length k7)):=zh (by rw[hw0];exact World.cell?_alloc_at _ _ _ _ rfl);have y8:Hid (w0.cell? ⟨w.heap.size,8,none⟩=some (.slice a8 m.elems.length k8)):=zh (by rw[hw0];exact World.cell?_alloc_at _ _ _ _ rfl);have y9:Hid (w0.cell? ⟨w.heap.size,9,none⟩=some (.slice a9 m.datas.length k9)):=zh (by rw[hw0];exact World.cell?_alloc_at _ _ _ _ rfl)
 have hb:Hid (Below w0.heap.size w0 w0):=zh (Below.refl _ _);clear hw0;go_loopw [3] (λvi wr=>∃i:Nat,i<=m.types.length/\vi=.int .i64 i/\Hid ((m.types.take i).all typS=true)/\Hid (Below w0.heap.size w0 wr)) (λvi _=>m.types.length-(intOf vi).toNat)
 case atStart=>exact⟨0,Nat.zero_le _,rfl,zh rfl,hb⟩
 case round=>
  clear hb;obtain⟨i,hi,rfl,ha,hb⟩:=hrel
  by_cases hlt:i<m.types.length
  . obtain⟨t,ht⟩:∃t,m.types[i]? =some t:=⟨_,List.getElem?_eq_getElem hlt⟩
    obtain⟨b,o,e,hrow⟩:=(HM.out.types.keep λ_ _ _=>TypeAt.keep (zA hb.out)).row ht;have x0:wr.cell? ⟨w.heap.size,0,none⟩=some (.slice a0 m.types.length k0):=zA hb.out _ _ y0.out;subst e;have hn:=zh (jB ht ha.out);have hk0:=zh (Below.refl wr.heap.size wr);clear ht ha;obtain⟨ps,rs⟩:=t;obtain⟨⟨q0,r0,c0,i0⟩,⟨q1,r1,c1,i1⟩⟩:=hrow;simp only at c0 c1 i0 i1;have l0:=i0.1;have l1:=i1.1;have i0:=zh i0;have i1:=zh i1;have hz:Hid (typS (ps,rs)=(ps.all xG&&rs.all xG)):=zh rfl;go_wp2_with fail;refine(rtypes_any ps q0 r0 _ (i0.out.below hk0.out)).mono ?_;rintro e w' ⟨rfl,rfl⟩;cases hX:ps.all xG
    . have hn2:=zh (hn.out.2 (by rw[hz.out,hX]<;>rfl));have S':=zh ((λ(h:m.types.all typS=false)=>S0.out.trans (show _=false from by rw[h]<;>rfl)) hn2.out);clear hX;go_wp2;go_ret;exact⟨by rw[S'.out];rfl,hB0.out.trans (hb.out.mono hs0)⟩
    . have hz:=zh (hz.out.trans (show _=rs.all xG from by rw[hX]<;>rfl));clear hX;go_wp2_with fail;refine(rtypes_any rs q1 r1 _ (i1.out.below hk0.out)).mono ?_;rintro e w' ⟨rfl,rfl⟩;cases hX:rs.all xG
      . have hn2:=zh (hn.out.2 (by rw[hz.out,hX]));have S':=zh ((λ(h:m.types.all typS=false)=>S0.out.trans (show _=false from by rw[h]<;>rfl)) hn2.out);clear hX;go_wp2;go_ret;exact⟨by rw[S'.out];rfl,hB0.out.trans (hb.out.mono hs0)⟩
      . have hz:=zh (hz.out.trans (show _=true from by rw[hX]));clear hX;have hfb:=zh hb.out;go_wp2
        go_roundw
        case rel=>exact⟨i+1,by omega,by simp,zh (hn.out.1 hz.out),hfb⟩
        case measure=>simp[intOf];omega
  . have hiN:i=m.types.length:=(by omega)
    subst hiN;have ha2:m.types.all typS=true:=(by have:=ha.out;rwa [List.take_length]at this)
    have S1:=zh ((λ(h:m.types.all typS=true)=>S0.out.trans (show _=rs8 m from by rw[h]<;>rfl)) ha2);clear ha ha2 hi hlt;have x0:wr.cell? ⟨w.heap.size,0,none⟩=some (.slice a0 m.types.length k0):=zA hb.out _ _ y0.out;have x1:wr.cell? ⟨w.heap.size,1,none⟩=some (.slice a1 m.imports.length k1):=zA hb.out _ _ y1.out;go_wp2_with fail;go_loopw [4] (λvi wr=>∃i:Nat,i<=m.imports.length/\vi=.int .i64 i/\Hid ((m.imports.take i).all impR=true)/\Hid (Below w0.heap.size w0 wr)) (λvi _=>m.imports.length-(intOf vi).toNat)
    case atStart=>exact⟨0,Nat.zero_le _,rfl,zh rfl,hb⟩
    case round=>
     clear hb;obtain⟨i,hi,rfl,ha,hb⟩:=hrel
     by_cases hlt:i<m.imports.length
     . obtain⟨t,ht⟩:∃t,m.imports[i]? =some t:=⟨_,List.getElem?_eq_getElem hlt⟩
       obtain⟨b,o,e,hrow⟩:=(HM.out.imports.keep λ_ _ _=>ImportAt.keep (zA hb.out)).row ht;have x1:wr.cell? ⟨w.heap.size,1,none⟩=some (.slice a1 m.imports.length k1):=zA hb.out _ _ y1.out;subst e;have hn:=zh (jB ht ha.out);have hk0:=zh (Below.refl wr.heap.size wr);clear ht ha;obtain⟨mo,nm,ty⟩:=t;obtain⟨⟨c0,s0⟩,⟨c1,s1⟩,c2⟩:=hrow;unfold j9 at c2;simp only at c0 s0 c1 s1 c2;have hz:Hid (impR (mo,nm,ty)=(zM ty&&(jD mo&&jD nm))):=zh rfl;go_wp2_with fail;refine(qD ty _).mono ?_;rintro e w' ⟨rfl,rfl⟩;cases hX:zM ty
       . have hn2:=zh (hn.out.2 (by rw[hz.out,hX]<;>rfl));have S':=zh ((λ(h:m.imports.all impR=false)=>S1.out.trans (show rs8 m=false from by unfold rs8;rw[h];rfl)) hn2.out);clear hX;go_wp2;go_ret;exact⟨by rw[S'.out];rfl,hB0.out.trans (hb.out.mono hs0)⟩
       . have hz:=zh (hz.out.trans (show _=(jD mo&&jD nm) from by rw[hX]<;>rfl));clear hX;go_wp2_with fail;refine(rname2_any mo _ s0).mono ?_;rintro e w' ⟨rfl,rfl⟩;cases hX:jD mo
         . have hn2:=zh (hn.out.2 (by rw[hz.out,hX]<;>rfl));have S':=zh ((λ(h:m.imports.all impR=false)=>S1.out.trans (show rs8 m=false from by unfold rs8;rw[h];rfl)) hn2.out);clear hX;go_wp2;go_ret;exact⟨by rw[S'.out];rfl,hB0.out.trans (hb.out.mono hs0)⟩
         . have hz:=zh (hz.out.trans (show _=jD nm from by rw[hX]<;>rfl));clear hX;go_wp2_with fail;refine(rname2_any nm _ s1).mono ?_;rintro e w' ⟨rfl,rfl⟩;cases hX:jD nm
           . have hn2:=zh (hn.out.2 (by rw[hz.out,hX]));have S':=zh ((λ(h:m.imports.all impR=false)=>S1.out.trans (show rs8 m=false from by unfold rs8;rw[h];rfl)) hn2.out);clear hX;go_wp2;go_ret;exact⟨by rw[S'.out];rfl,hB0.out.trans (hb.out.mono hs0)⟩
           . have hz:=zh (hz.out.trans (show _=true from by rw[hX]));clear hX;have hfb:=zh hb.out;go_wp2
             go_roundw
             case rel=>exact⟨i+1,by omega,by simp,zh (hn.out.1 hz.out),hfb⟩
             case measure=>simp[intOf];omega
     . have hiN:i=m.imports.length:=(by omega)
       subst hiN;have ha2:m.imports.all impR=true:=(by have:=ha.out;rwa [List.take_length]at this)
       have S3:=zh ((λ(h:m.imports.all impR=true)=>S1.out.trans (show rs8 m=rs9 m from by unfold rs8;rw[h];rfl)) ha2);clear ha ha2 hi hlt;have x1:wr.cell? ⟨w.heap.size,1,none⟩=some (.slice a1 m.imports.length k1):=zA hb.out _ _ y1.out;have x2:wr.cell? ⟨w.heap.size,2,none⟩=some (.slice a2 m.funcs.length k2):=zA hb.out _ _ y2.out;go_wp2_with fail;go_loopw [5] (λvi wr=>∃i:Nat,i<=m.funcs.length/\vi=.int .i64 i/\Hid ((m.funcs.take i).all funS=true)/\Hid (Below w0.heap.size w0 wr)) (λvi _=>m.funcs.length-(intOf vi).toNat)
       case atStart=>exact⟨0,Nat.zero_le _,rfl,zh rfl,hb⟩
       case round=>
        clear hb;obtain⟨i,hi,rfl,ha,hb⟩:=hrel
        by_cases hlt:i<m.funcs.length
        . obtain⟨t,ht⟩:∃t,m.funcs[i]? =some t:=⟨_,List.getElem?_eq_getElem hlt⟩
          obtain⟨b,o,e,hrow⟩:=(HM.out.funcs.keep λ_ _ _=>FuncAt.keep (zA hb.out)).row ht;have x2:wr.cell? ⟨w.heap.size,2,none⟩=some (.slice a2 m.funcs.length k2):=zA hb.out _ _ y2.out;subst e;have hn:=zh (jB ht ha.out);have hk0:=zh (Below.refl wr.heap.size wr);clear ht ha;obtain⟨ty,lo,bo⟩:=t;obtain⟨c0,⟨q1,r1,c1,i1⟩,⟨q2,r2,c2,l2,i2⟩⟩:=hrow;unfold j9 at c0;simp only at c0 c1 c2 i1 i2 l2;have l1:=i1.1;have i1:=zh i1;have i2:=zh i2;have hz:Hid (funS (ty,lo,bo)=(zM ty&&(lo.all xG&&zZ bo))):=zh rfl;go_wp2_with fail;refine(qD ty _).mono ?_;rintro e w' ⟨rfl,rfl⟩;cases hX:zM ty
          . have hn2:=zh (hn.out.2 (by rw[hz.out,hX]<;>rfl));have S':=zh ((λ(h:m.funcs.all funS=false)=>S3.out.trans (show rs9 m=false from by unfold rs9;rw[h];rfl)) hn2.out);clear hX;go_wp2;go_ret;exact⟨by rw[S'.out];rfl,hB0.out.trans (hb.out.mono hs0)⟩
          . have hz:=zh (hz.out.trans (show _=(lo.all xG&&zZ bo) from by rw[hX]<;>rfl));clear hX;go_wp2_with fail;refine(rtypes_any lo q1 r1 _ (i1.out.below hk0.out)).mono ?_;rintro e w' ⟨rfl,rfl⟩;cases hX:lo.all xG
            . have hn2:=zh (hn.out.2 (by rw[hz.out,hX]<;>rfl));have S':=zh ((λ(h:m.funcs.all funS=false)=>S3.out.trans (show rs9 m=false from by unfold rs9;rw[h];rfl)) hn2.out);clear hX;go_wp2;go_ret;exact⟨by rw[S'.out];rfl,hB0.out.trans (hb.out.mono hs0)⟩
            . have hz:=zh (hz.out.trans (show _=zZ bo from by rw[hX]<;>rfl));clear hX;go_wp2_with fail;refine(all_any bo q2 r2 _ l2 (i2.out.below hk0.out)).mono ?_;rintro e v1 ⟨rfl,bb⟩;have hB1:=zh (hb.out.trans (bb.mono hb.out.size));have hK1:=zh (hk0.out.trans (bb.mono hk0.out.size));have x2':=zA bb _ _ x2;have c0':=zA bb _ _ c0;have c1':=zA bb _ _ c1;have c2':=zA bb _ _ c2;clear bb x2 c0 c1 c2;have x2:=x2';clear x2';have c0:=c0';clear c0';have c1:=c1';clear c1';have c2:=c2';clear c2';cases hX:zZ bo
              . have hn2:=zh (hn.out.2 (by rw[hz.out,hX]));have S':=zh ((λ(h:m.funcs.all funS=false)=>S3.out.trans (show rs9 m=false from by unfold rs9;rw[h];rfl)) hn2.out);clear hX;go_wp2;go_ret;exact⟨by rw[S'.out];rfl,hB0.out.trans (hB1.out.mono hs0)⟩
              . have hz:=zh (hz.out.trans (show _=true from by rw[hX]));clear hX;have hfb:=zh hB1.out;go_wp2
                go_roundw
                case rel=>exact⟨i+1,by omega,by simp,zh (hn.out.1 hz.out),hfb⟩
                case measure=>simp[intOf];omega
        . have hiN:i=m.funcs.length:=(by omega)
          subst hiN;have ha2:m.funcs.all funS=true:=(by have:=ha.out;rwa [List.take_length]at this)
          have S4:=zh ((λ(h:m.funcs.all funS=true)=>S3.out.trans (show rs9 m=rsA m from by unfold rs9;rw[h];rfl)) ha2);clear ha ha2 hi hlt;have x2:wr.cell? ⟨w.heap.size,2,none⟩=some (.slice a2 m.funcs.length k2):=zA hb.out _ _ y2.out;have x5:wr.cell? ⟨w.heap.size,5,none⟩=some (.slice a5 m.globals.length k5):=zA hb.out _ _ y5.out;go_wp2_with fail;go_loopw [6] (λvi wr=>∃i:Nat,i<=m.globals.length/\vi=.int .i64 i/\Hid ((m.globals.take i).all gloS=true)/\Hid (Below w0.heap.size w0 wr)) (λvi _=>m.globals.length-(intOf vi).toNat)
          case atStart=>exact⟨0,Nat.zero_le _,rfl,zh rfl,hb⟩
          case round=>
           clear hb;obtain⟨i,hi,rfl,ha,hb⟩:=hrel
           by_cases hlt:i<m.globals.length
           . obtain⟨t,ht⟩:∃t,m.globals[i]? =some t:=⟨_,List.getElem?_eq_getElem hlt⟩
             obtain⟨b,o,e,hrow⟩:=(HM.out.globals.keep λ_ _ _=>GlobalAt.keep (zA hb.out)).row ht;have x5:wr.cell? ⟨w.heap.size,5,none⟩=some (.slice a5 m.globals.length k5):=zA hb.out _ _ y5.out;subst e;have hn:=zh (jB ht ha.out);have hk0:=zh (Below.refl wr.heap.size wr);clear ht ha;obtain⟨ty,mu,⟨op,ix,iy,iz,ls,body,els⟩⟩:=t;obtain⟨c0,c1,⟨⟨d0,d1,d2,d3⟩,⟨q4,r4,d4,i4⟩,⟨q5,r5,d5,l5,i5⟩,⟨q6,r6,d6,l6,i6⟩,_⟩⟩:=hrow;unfold j9 at c0;simp only at c0;clear c1;simp only at l5 l6 i4;have l4:=i4.1;have i4:=zh i4;clear i5 i6;have hz:Hid (gloS (ty,mu,⟨op,ix,iy,iz,ls,body,els⟩)=(xG ty&&yM ⟨op,ix,iy,iz,ls,body,els⟩)):=zh rfl;go_wp2_with fail;have bb:=(Below.refl wr.heap.size wr).alloc (Nat.le_refl _) (.cells #[.int .i64 ty] 3);have hint:IntsIn (wr.alloc (.cells #[.int .i64 ty] 3)) (some ⟨wr.heap.size,0,none⟩) [ty]:=jI _ [ty] (by simp);generalize wr.alloc (.cells #[.int .i64 ty] 3)=v1 at bb hint ⊢;refine(rtypes1_any ty _ _ hint).mono ?_;rintro e w' ⟨rfl,rfl⟩;have hB1:=zh (hb.out.trans (bb.mono hb.out.size));have hK1:=zh (hk0.out.trans (bb.mono hk0.out.size));have x5':=zA bb _ _ x5;have c0':=zA bb _ _ c0;have d0':=zA bb _ _ d0;have d1':=zA bb _ _ d1;have d2':=zA bb _ _ d2;have d3':=zA bb _ _ d3;have d4':=zA bb _ _ d4;have d5':=zA bb _ _ d5
             have d6':=zA bb _ _ d6;clear bb x5 c0 d0 d1 d2 d3 d4 d5 d6;have x5:=x5';clear x5';have c0:=c0';clear c0';have d0:=d0';clear d0';have d1:=d1';clear d1';have d2:=d2';clear d2';have d3:=d3';clear d3';have d4:=d4';clear d4';have d5:=d5';clear d5';have d6:=d6';clear d6';cases hX:xG ty
             . have hn2:=zh (hn.out.2 (by rw[hz.out,hX]<;>rfl));have S':=zh ((λ(h:m.globals.all gloS=false)=>S4.out.trans (show rsA m=false from by unfold rsA;rw[h];rfl)) hn2.out);clear hX;go_wp2;go_ret;exact⟨by rw[S'.out];rfl,hB0.out.trans (hB1.out.mono hs0)⟩
             . have hz:=zh (hz.out.trans (show _=yM ⟨op,ix,iy,iz,ls,body,els⟩ from by rw[hX]<;>rfl));clear hX;go_wp2_with fail;refine(constant_any op ix iy iz ls body els q4 r4 q5 r5 q6 r6 _ (i4.out.below hK1.out) l5 l6).mono ?_;rintro e v2 ⟨rfl,bb⟩;have hB2:=zh (hB1.out.trans (bb.mono hB1.out.size));have hK2:=zh (hK1.out.trans (bb.mono hK1.out.size));have x5':=zA bb _ _ x5;have c0':=zA bb _ _ c0;have d0':=zA bb _ _ d0;have d1':=zA bb _ _ d1;have d2':=zA bb _ _ d2;have d3':=zA bb _ _ d3;have d4':=zA bb _ _ d4;have d5':=zA bb _ _ d5;have d6':=zA bb _ _ d6;clear bb x5 c0 d0 d1 d2 d3 d4 d5 d6;have x5:=x5';clear x5';have c0:=c0';clear c0';have d0:=d0';clear d0';have d1:=d1';clear d1';have d2:=d2';clear d2';have d3:=d3';clear d3';have d4:=d4';clear d4';have d5:=d5';clear d5';have d6:=d6';clear d6';cases hX:yM ⟨op,ix,iy,iz,ls,body,els⟩
               . have hn2:=zh (hn.out.2 (by rw[hz.out,hX]));have S':=zh ((λ(h:m.globals.all gloS=false)=>S4.out.trans (show rsA m=false from by unfold rsA;rw[h];rfl)) hn2.out);clear hX;go_wp2;go_ret;exact⟨by rw[S'.out];rfl,hB0.out.trans (hB2.out.mono hs0)⟩
               . have hz:=zh (hz.out.trans (show _=true from by rw[hX]));clear hX;have hfb:=zh hB2.out;go_wp2
                 go_roundw
                 case rel=>exact⟨i+1,by omega,by simp,zh (hn.out.1 hz.out),hfb⟩
                 case measure=>simp[intOf];omega
           . have hiN:i=m.globals.length:=(by omega)
             subst hiN;have ha2:m.globals.all gloS=true:=(by have:=ha.out;rwa [List.take_length]at this)
             have S5:=zh ((λ(h:m.globals.all gloS=true)=>S4.out.trans (show rsA m=rsB m from by unfold rsA;rw[h];rfl)) ha2);clear ha ha2 hi hlt;have x5:wr.cell? ⟨w.heap.size,5,none⟩=some (.slice a5 m.globals.length k5):=zA hb.out _ _ y5.out;have x6:wr.cell? ⟨w.heap.size,6,none⟩=some (.slice a6 m.exports.length k6):=zA hb.out _ _ y6.out;go_wp2_with fail;go_loopw [7] (λvi wr=>∃i:Nat,i<=m.exports.length/\vi=.int .i64 i/\Hid ((m.exports.take i).all yZ=true)/\Hid (Below w0.heap.size w0 wr)) (λvi _=>m.exports.length-(intOf vi).toNat)
             case atStart=>exact⟨0,Nat.zero_le _,rfl,zh rfl,hb⟩
             case round=>
              clear hb;obtain⟨i,hi,rfl,ha,hb⟩:=hrel
              by_cases hlt:i<m.exports.length
              . obtain⟨t,ht⟩:∃t,m.exports[i]? =some t:=⟨_,List.getElem?_eq_getElem hlt⟩
                obtain⟨b,o,e,hrow⟩:=(HM.out.exports.keep λ_ _ _=>ExportAt.keep (zA hb.out)).row ht;have x6:wr.cell? ⟨w.heap.size,6,none⟩=some (.slice a6 m.exports.length k6):=zA hb.out _ _ y6.out;subst e;have hn:=zh (jB ht ha.out);have hk0:=zh (Below.refl wr.heap.size wr);clear ht ha;obtain⟨nm,kd,ix⟩:=t;obtain⟨⟨c0,s0⟩,c1,c2⟩:=hrow;unfold j9 at c1 c2;simp only at c0 s0 c1 c2;have hz:Hid (yZ (nm,kd,ix)=(jD nm&&((decide (0<=kd)&&decide (kd<=3))&&zM ix))):=zh rfl;go_wp2_with fail;refine(rname2_any nm _ s0).mono ?_;rintro e w' ⟨rfl,rfl⟩;cases hX:jD nm
                . have hn2:=zh (hn.out.2 (by rw[hz.out,hX]<;>rfl));have S':=zh ((λ(h:m.exports.all yZ=false)=>S5.out.trans (show rsB m=false from by unfold rsB;rw[h];rfl)) hn2.out);clear hX;go_wp2;go_ret;exact⟨by rw[S'.out];rfl,hB0.out.trans (hb.out.mono hs0)⟩
                . have hz:=zh (hz.out.trans (show _=((decide (0<=kd)&&decide (kd<=3))&&zM ix) from by rw[hX]<;>rfl));clear hX;go_wp2_with fail;refine(in_any kd 0 3 _).mono ?_;rintro e w' ⟨rfl,rfl⟩;cases hX:(decide (0<=kd)&&decide (kd<=3))
                  . have hn2:=zh (hn.out.2 (by rw[hz.out,hX]<;>rfl));have S':=zh ((λ(h:m.exports.all yZ=false)=>S5.out.trans (show rsB m=false from by unfold rsB;rw[h];rfl)) hn2.out);clear hX;go_wp2;go_ret;exact⟨by rw[S'.out];rfl,hB0.out.trans (hb.out.mono hs0)⟩
                  . have hz:=zh (hz.out.trans (show _=zM ix from by rw[hX]<;>rfl));clear hX;go_wp2_with fail;refine(qD ix _).mono ?_;rintro e w' ⟨rfl,rfl⟩;cases hX:zM ix
                    . have hn2:=zh (hn.out.2 (by rw[hz.out,hX]));have S':=zh ((λ(h:m.exports.all yZ=false)=>S5.out.trans (show rsB m=false from by unfold rsB;rw[h];rfl)) hn2.out);clear hX;go_wp2;go_ret;exact⟨by rw[S'.out];rfl,hB0.out.trans (hb.out.mono hs0)⟩
                    . have hz:=zh (hz.out.trans (show _=true from by rw[hX]));clear hX;have hfb:=zh hb.out;go_wp2
                      go_roundw
                      case rel=>exact⟨i+1,by omega,by simp,zh (hn.out.1 hz.out),hfb⟩
                      case measure=>simp[intOf];omega
              . have hiN:i=m.exports.length:=(by omega)
                subst hiN;have ha2:m.exports.all yZ=true:=(by have:=ha.out;rwa [List.take_length]at this)
                have S6:=zh ((λ(h:m.exports.all yZ=true)=>S5.out.trans (show rsB m=rsC m from by unfold rsB;rw[h];rfl)) ha2);clear ha ha2 hi hlt;have x6:wr.cell? ⟨w.heap.size,6,none⟩=some (.slice a6 m.exports.length k6):=zA hb.out _ _ y6.out;have x8:wr.cell? ⟨w.heap.size,8,none⟩=some (.slice a8 m.elems.length k8):=zA hb.out _ _ y8.out;go_wp2_with fail;go_loopw [8] (λvi wr=>∃i:Nat,i<=m.elems.length/\vi=.int .i64 i/\Hid ((m.elems.take i).all elmS=true)/\Hid (Below w0.heap.size w0 wr)) (λvi _=>m.elems.length-(intOf vi).toNat)
                case atStart=>exact⟨0,Nat.zero_le _,rfl,zh rfl,hb⟩
                case round=>
                 clear hb;obtain⟨i,hi,rfl,ha,hb⟩:=hrel
                 by_cases hlt:i<m.elems.length
                 . obtain⟨t,ht⟩:∃t,m.elems[i]? =some t:=⟨_,List.getElem?_eq_getElem hlt⟩
                   obtain⟨b,o,e,hrow⟩:=(HM.out.elems.keep λ_ _ _=>ElemAt.keep (zA hb.out)).row ht;have x8:wr.cell? ⟨w.heap.size,8,none⟩=some (.slice a8 m.elems.length k8):=zA hb.out _ _ y8.out;subst e;have hn:=zh (jB ht ha.out);have hk0:=zh (Below.refl wr.heap.size wr);clear ht ha;obtain⟨⟨op,ix,iy,iz,ls,body,els⟩,fl⟩:=t;obtain⟨⟨⟨c0,c1,c2,c3⟩,⟨q4,r4,c4,i4⟩,⟨q5,r5,c5,l5,i5⟩,⟨q6,r6,c6,l6,i6⟩,_⟩,⟨q7,r7,c7,i7⟩⟩:=hrow;simp only at c7 i7;have l7:=i7.1;have i7:=zh i7;simp only at l5 l6 i4;have l4:=i4.1;have i4:=zh i4;clear i5 i6;have hz:Hid (elmS (⟨op,ix,iy,iz,ls,body,els⟩,fl)=(yM ⟨op,ix,iy,iz,ls,body,els⟩&&fl.all zM)):=zh rfl;go_wp2_with fail;refine(constant_any op ix iy iz ls body els q4 r4 q5 r5 q6 r6 _ (i4.out.below hk0.out) l5 l6).mono ?_;rintro e v1 ⟨rfl,bb⟩;have hB1:=zh (hb.out.trans (bb.mono hb.out.size));have hK1:=zh (hk0.out.trans (bb.mono hk0.out.size));have x8':=zA bb _ _ x8;have c0':=zA bb _ _ c0;have c1':=zA bb _ _ c1;have c2':=zA bb _ _ c2;have c3':=zA bb _ _ c3;have c4':=zA bb _ _ c4;have c5':=zA bb _ _ c5;have c6':=zA bb _ _ c6;have c7':=zA bb _ _ c7;clear bb x8 c0 c1 c2 c3 c4 c5 c6 c7;have x8:=x8';clear x8';have c0:=c0';clear c0';have c1:=c1';clear c1';have c2:=c2';clear c2';have c3:=c3'
                   clear c3';have c4:=c4';clear c4';have c5:=c5';clear c5';have c6:=c6';clear c6';have c7:=c7';clear c7';cases hX:yM ⟨op,ix,iy,iz,ls,body,els⟩
                   . have hn2:=zh (hn.out.2 (by rw[hz.out,hX]<;>rfl));have S':=zh ((λ(h:m.elems.all elmS=false)=>S6.out.trans (show rsC m=false from by unfold rsC;rw[h];rfl)) hn2.out);clear hX;go_wp2;go_ret;exact⟨by rw[S'.out];rfl,hB0.out.trans (hB1.out.mono hs0)⟩
                   . have hz:=zh (hz.out.trans (show _=fl.all zM from by rw[hX]<;>rfl));clear hX;go_wp2_with fail;refine(jN fl q7 r7 _ (i7.out.below hK1.out)).mono ?_;rintro e w' ⟨rfl,rfl⟩;cases hX:fl.all zM
                     . have hn2:=zh (hn.out.2 (by rw[hz.out,hX]));have S':=zh ((λ(h:m.elems.all elmS=false)=>S6.out.trans (show rsC m=false from by unfold rsC;rw[h];rfl)) hn2.out);clear hX;go_wp2;go_ret;exact⟨by rw[S'.out];rfl,hB0.out.trans (hB1.out.mono hs0)⟩
                     . have hz:=zh (hz.out.trans (show _=true from by rw[hX]));clear hX;have hfb:=zh hB1.out;go_wp2
                       go_roundw
                       case rel=>exact⟨i+1,by omega,by simp,zh (hn.out.1 hz.out),hfb⟩
                       case measure=>simp[intOf];omega
                 . have hiN:i=m.elems.length:=(by omega)
                   subst hiN;have ha2:m.elems.all elmS=true:=(by have:=ha.out;rwa [List.take_length]at this)
                   have S7:=zh ((λ(h:m.elems.all elmS=true)=>S6.out.trans (show rsC m=rsD m from by unfold rsC;rw[h];rfl)) ha2);clear ha ha2 hi hlt;have x8:wr.cell? ⟨w.heap.size,8,none⟩=some (.slice a8 m.elems.length k8):=zA hb.out _ _ y8.out;have x9:wr.cell? ⟨w.heap.size,9,none⟩=some (.slice a9 m.datas.length k9):=zA hb.out _ _ y9.out;go_wp2_with fail;go_loopw [9] (λvi wr=>∃i:Nat,i<=m.datas.length/\vi=.int .i64 i/\Hid ((m.datas.take i).all datS=true)/\Hid (Below w0.heap.size w0 wr)) (λvi _=>m.datas.length-(intOf vi).toNat)
                   case atStart=>exact⟨0,Nat.zero_le _,rfl,zh rfl,hb⟩
                   case round=>
                    clear hb;obtain⟨i,hi,rfl,ha,hb⟩:=hrel
                    by_cases hlt:i<m.datas.length
                    . obtain⟨t,ht⟩:∃t,m.datas[i]? =some t:=⟨_,List.getElem?_eq_getElem hlt⟩
                      obtain⟨b,o,e,hrow⟩:=(HM.out.datas.keep λ_ _ _=>DataAt.keep (zA hb.out)).row ht;have x9:wr.cell? ⟨w.heap.size,9,none⟩=some (.slice a9 m.datas.length k9):=zA hb.out _ _ y9.out;subst e;have hn:=zh (jB ht ha.out);have hk0:=zh (Below.refl wr.heap.size wr);clear ht ha;obtain⟨⟨op,ix,iy,iz,ls,body,els⟩,sb⟩:=t;obtain⟨⟨⟨c0,c1,c2,c3⟩,⟨q4,r4,c4,i4⟩,⟨q5,r5,c5,l5,i5⟩,⟨q6,r6,c6,l6,i6⟩,_⟩,c7,hsz⟩:=hrow;clear c7;simp only at l5 l6 i4;have l4:=i4.1;have i4:=zh i4;clear i5 i6;have hz:Hid (datS (⟨op,ix,iy,iz,ls,body,els⟩,sb)=yM ⟨op,ix,iy,iz,ls,body,els⟩):=zh rfl;go_wp2_with fail;refine(constant_any op ix iy iz ls body els q4 r4 q5 r5 q6 r6 _ (i4.out.below hk0.out) l5 l6).mono ?_;rintro e v1 ⟨rfl,bb⟩;have hB1:=zh (hb.out.trans (bb.mono hb.out.size));have hK1:=zh (hk0.out.trans (bb.mono hk0.out.size));have x9':=zA bb _ _ x9;have c0':=zA bb _ _ c0;have c1':=zA bb _ _ c1;have c2':=zA bb _ _ c2;have c3':=zA bb _ _ c3;have c4':=zA bb _ _ c4;have c5':=zA bb _ _ c5;have c6':=zA bb _ _ c6;clear bb x9 c0 c1 c2 c3 c4 c5 c6;have x9:=x9';clear x9';have c0:=c0';clear c0';have c1:=c1';clear c1';have c2:=c2';clear c2';have c3:=c3';clear c3';have c4:=c4';clear c4';have c5:=c5';clear c5';have c6:=c6';clear c6';cases hX:yM ⟨op,ix,iy,iz,ls,body,els⟩
                      . have hn2:=zh (hn.out.2 (by rw[hz.out,hX]));have S':=zh ((λ(h:m.datas.all datS=false)=>S7.out.trans (show rsD m=false from by unfold rsD;rw[h];rfl)) hn2.out);clear hX;go_wp2;go_ret;exact⟨by rw[S'.out];rfl,hB0.out.trans (hB1.out.mono hs0)⟩
                      . have hz:=zh (hz.out.trans (show _=true from by rw[hX]));clear hX;have hfb:=zh hB1.out;go_wp2
                        go_roundw
                        case rel=>exact⟨i+1,by omega,by simp,zh (hn.out.1 hz.out),hfb⟩
                        case measure=>simp[intOf];omega
                    . have hiN:i=m.datas.length:=(by omega)
                      subst hiN;have ha2:m.datas.all datS=true:=(by have:=ha.out;rwa [List.take_length]at this)
                      have S8:=zh ((λ(h:m.datas.all datS=true)=>S7.out.trans (show rsD m=rsE m from by unfold rsD;rw[h];rfl)) ha2);clear ha ha2 hi hlt;have x9:wr.cell? ⟨w.heap.size,9,none⟩=some (.slice a9 m.datas.length k9):=zA hb.out _ _ y9.out;have x3:wr.cell? ⟨w.heap.size,3,none⟩=some (.slice a3 m.tables.length k3):=zA hb.out _ _ y3.out;have x4:wr.cell? ⟨w.heap.size,4,none⟩=some (.slice a4 m.mems.length k4):=zA hb.out _ _ y4.out;have x7:wr.cell? ⟨w.heap.size,7,none⟩=some (.slice a7 m.start.length k7):=zA hb.out _ _ y7.out;have st3:=zh (HM.out.tables.keep λ_ _ _=>LimitsAt.keep (zA hb.out));have st4:=zh (HM.out.mems.keep λ_ _ _=>LimitsAt.keep (zA hb.out));have st7:=zh (HM.out.start.keep (zA hb.out));go_wp2_with fail;refine(rlimits_any m.tables a3 k3 _ st3.out).mono ?_;rintro e w' ⟨rfl,rfl⟩;cases hX:m.tables.all vM
                      . have S9:=zh (S8.out.trans (show rsE m=false from by unfold rsE;rw[hX];rfl));go_wp2;go_ret;exact⟨by rw[S9.out];rfl,hB0.out.trans (hb.out.mono hs0)⟩
                      . have S9:=zh (S8.out.trans (show rsE m=(m.mems.all vM&&m.start.all zM) from by unfold rsE;rw[hX];rfl));go_wp2_with fail;refine(rlimits_any m.mems a4 k4 _ st4.out).mono ?_;rintro e w' ⟨rfl,rfl⟩;cases hY:m.mems.all vM
                        . have S':=zh (S9.out.trans (show _=false from by rw[hY];rfl));go_wp2;go_ret;exact⟨by rw[S'.out];rfl,hB0.out.trans (hb.out.mono hs0)⟩
                        . have S':=zh (S9.out.trans (show _=m.start.all zM from by rw[hY];rfl));go_wp2_with fail;refine(jN m.start a7 k7 _ st7.out).mono ?_;rintro e w' ⟨rfl,rfl⟩;go_wp2;go_ret;exact⟨by rw[S'.out];rfl,hB0.out.trans (hb.out.mono hs0)⟩
end Go.Proofs.YtacohbllbjgdgaaGreatDoor
