/- The contract of shaped. -/
import Derived.Test.YtacohbllbjgdgaaGreatDoorMj
import Derived.Test.YtacohbllbjgdgaaGreatDoorMk
set_option linter.all false
set_option maxRecDepth 100000
set_option maxHeartbeats 1500000
namespace Go.Proofs.YtacohbllbjgdgaaGreatDoor
open Go.RowKit
def typS (t:List Int×List Int):Bool:=t.1.all xG&&t.2.all xG
def impS (t:ByteArray×ByteArray×Int):Bool:=jD t.1&&(jD t.2.1&&zM t.2.2)
def gloS (t:Int×Bool×One):Bool:=xG t.1&&yM t.2.2
def yZ (t:ByteArray×Int×Int):Bool:=jD t.1&&((decide (0<=t.2.1)&&decide (t.2.1<=3))&&zM t.2.2)
def elmS (t:One×List Int):Bool:=yM t.1&&t.2.all zM
def datS (t:One×ByteArray):Bool:=yM t.1
def funS (t:Int×List Int×Il):Bool:=zM t.1&&(t.2.1.all xG&&zZ t.2.2)
def sh9 (m:Md):Bool:=m.funcs.all funS
def sh8 (m:Md):Bool:=m.datas.all datS&&sh9 m
def sh7 (m:Md):Bool:=m.elems.all elmS&&sh8 m
def sh6 (m:Md):Bool:=m.start.all zM&&sh7 m
def sh5 (m:Md):Bool:=m.exports.all yZ&&sh6 m
def sh4 (m:Md):Bool:=m.globals.all gloS&&sh5 m
def sh3 (m:Md):Bool:=m.mems.all vM&&sh4 m
def sh2 (m:Md):Bool:=m.tables.all vM&&sh3 m
def sh1 (m:Md):Bool:=m.imports.all impS&&sh2 m
def qX (m:Md):Bool:=m.types.all typS&&sh1 m
theorem ints_new2(w:World)(cs:Array Value)(t:TypeId)(xs:List Int)(hl:xs.length<=9223372036854775807):IntsIn ((w.alloc (.cells cs t)).alloc (.cells (xs.map λx:Int=>Value.int .i64 x).toArray 3)) (some ⟨w.heap.size+1,0,none⟩) xs:=by have:=jI (w.alloc (.cells cs t)) xs hl;simpa using this
theorem all_1(f:Int->Bool)(x:Int):[x].all f=f x:=by simp
theorem index1_any(x:Int)(w:World)(ao:Option Addr)(h:IntsIn w ao [x]):Calls Tryz.prog 75 #[.slice ao 1 1] w λe w'=>e=endE (zM x) 30/\w=w':=by have:=index_any [x] ao 1 w h;rw[all_1]at this;exact this
theorem typed1_any(x:Int)(w:World)(ao:Option Addr)(h:IntsIn w ao [x]):Calls Tryz.prog 74 #[.slice ao 1 1] w λe w'=>e=endE (xG x) 30/\w=w':=by have:=typed_any [x] ao 1 w h;rw[all_1]at this;exact this
theorem shaped_any(m:Md)(a0:Option Addr)(k0:Nat)(a1:Option Addr)(k1:Nat)(a2:Option Addr)(k2:Nat)(a3:Option Addr)(k3:Nat)(a4:Option Addr)(k4:Nat)(a5:Option Addr)(k5:Nat)(a6:Option Addr)(k6:Nat)(a7:Option Addr)(k7:Nat)(a8:Option Addr)(k8:Nat)(a9:Option Addr)(k9:Nat)(w:World)(h:MdAt w m a0 k0 a1 k1 a2 k2 a3 k3 a4 k4 a5 k5 a6 k6 a7 k7 a8 k8 a9 k9)(hT:TabU w):Calls Tryz.prog 48 #[mdV m a0 k0 a1 k1 a2 k2 a3 k3 a4 k4 a5 k5 a6 k6 a7 k7 a8 k8 a9 k9] w λe w'=>e=endE (qX m) 30/\Below w.heap.size w w':=by
 have HM:=zh (h.keep (zA ((Below.refl w.heap.size w).alloc (Nat.le_refl _) (.cells #[.slice a0 m.types.length k0,.slice a1 m.imports.length k1,.slice a2 m.funcs.length k2,.slice a3 m.tables.length k3,.slice a4 m.mems.length k4,.slice a5 m.globals.length k5,.slice a6 m.exports.length k6,.slice a7 m.start.length k7,.slice a8 m.elems.length k8,.slice a9 m.datas.length k9] 32))));have HU:=zh (hT.below ((Below.refl w.heap.size w).alloc (Nat.le_refl _) (.cells #[.slice a0 m.types.length k0,.slice a1 m.imports.length k1,.slice a2 m.funcs.length k2,.slice a3 m.tables.length k3,.slice a4 m.mems.length k4,.slice a5 m.globals.length k5,.slice a6 m.exports.length k6,.slice a7 m.start.length k7,.slice a8 m.elems.length k8,.slice a9 m.datas.length k9] 32)));have n0:=h.types.1;have n1:=h.imports.1;have n2:=h.funcs.1;have n3:=h.tables.1;have n4:=h.mems.1;have n5:=h.globals.1;have n6:=h.exports.1;have n7:=h.start.1;have n8:=h.elems.1;have n9:=h.datas.1;have hB0:Hid (Below w.heap.size w (w.alloc (.cells #[.slice a0 m.types.length k0,.slice a1 m.imports.length k1,.slice a2 m.funcs.length k2,.slice a3 m.tables.length k3,.slice a4 m.mems.length k4,.slice a5 m.globals.length k5,.slice a6 m.exports.length k6,.slice a7 m.start.length k7,.slice a8 m.elems.length k8,.slice a9 m.datas.length k9] 32))):=zh ((Below.refl _ _).alloc (Nat.le_refl _) _);have S0:Hid (qX m=(m.types.all typS&&sh1 m)):=zh rfl
 clear h hT;unfold mdV;go_enter Tryz.func48,Tryz.ntmps48;go_wp2_with fail;obtain⟨w0,hw0⟩:∃w0,w0=(w.alloc (.cells #[.slice a0 m.types.length k0,.slice a1 m.imports.length k1,.slice a2 m.funcs.length k2,.slice a3 m.tables.length k3,.slice a4 m.mems.length k4,.slice a5 m.globals.length k5,.slice a6 m.exports.length k6,.slice a7 m.start.length k7,.slice a8 m.elems.length k8,.slice a9 m.datas.length k9] 32)):=⟨_,rfl⟩
 rw[<-hw0];rw[<-hw0]at HM HU hB0;have hs0:w.heap.size<=w0.heap.size:=hB0.out.size;have y0:Hid (w0.cell? ⟨w.heap.size,0,none⟩=some (.slice a0 m.types.length k0)):=zh (by rw[hw0];exact World.cell?_alloc_at _ _ _ _ rfl);have y1:Hid (w0.cell? ⟨w.heap.size,1,none⟩=some (.slice a1 m.imports.length k1)):=zh (by rw[hw0];exact World.cell?_alloc_at _ _ _ _ rfl);have y2:Hid (w0.cell? ⟨w.heap.size,2,none⟩=some (.slice a2 m.funcs.length k2)):=zh (by rw[hw0];exact World.cell?_alloc_at _ _ _ _ rfl);have y3:Hid (w0.cell? ⟨w.heap.size,3,none⟩=some (.slice a3 m.tables.length k3)):=zh (by rw[hw0];exact World.cell?_alloc_at _ _ _ _ rfl);have y4:Hid (w0.cell? ⟨w.heap.size,4,none⟩=some (.slice a4 m.mems.length k4)):=zh (by rw[hw0];exact World.cell?_alloc_at _ _ _ _ rfl);have y5:Hid (w0.cell? ⟨w.heap.size,5,none⟩=some (.slice a5 m.globals.length k5)):=zh (by rw[hw0];exact World.cell?_alloc_at _ _ _ _ rfl);have y6:Hid (w0.cell? ⟨w.heap.size,6,none⟩=some (.slice a6 m.exports.length k6)):=zh (by rw[hw0];exact World.cell?_alloc_at _ _ _ _ rfl);have y7:Hid (w0.cell? ⟨w.heap.size,7,none⟩=some (.slice a7 m.start.length k7)):=zh (by rw[hw0];exact World.cell?_alloc_at _ _ _ _ rfl);have y8:Hid (w0.cell? ⟨w.heap.size,8,none⟩=some (.slice a8 m.elems.length k8)):=zh (by rw[hw0];exact World.cell?_alloc_at _ _ _ _ rfl);have y9:Hid (w0.cell? ⟨w.heap.size,9,none⟩=some (.slice a9 m.datas.length k9)):=zh (by rw[hw0];exact World.cell?_alloc_at _ _ _ _ rfl)
 have hb:Hid (Below w0.heap.size w0 w0):=zh (Below.refl _ _);clear hw0;go_loopw [20] (λvi wr=>∃i:Nat,i<=m.types.length/\vi=.int .i64 i/\Hid ((m.types.take i).all typS=true)/\Hid (Below w0.heap.size w0 wr)) (λvi _=>m.types.length-(intOf vi).toNat)
 case atStart=>exact⟨0,Nat.zero_le _,rfl,zh rfl,hb⟩
 case round=>
  clear hb;obtain⟨i,hi,rfl,ha,hb⟩:=hrel
  by_cases hlt:i<m.types.length
  . obtain⟨t,ht⟩:∃t,m.types[i]? =some t:=⟨_,List.getElem?_eq_getElem hlt⟩
    obtain⟨b,o,e,hrow⟩:=(HM.out.types.keep λ_ _ _=>TypeAt.keep (zA hb.out)).row ht;cases e;have hn:=zh (jB ht ha.out);have hal:=λo=>(Below.refl wr.heap.size wr).alloc (Nat.le_refl _) o;clear ht ha;obtain⟨ps,rs⟩:=t;obtain⟨⟨q0,r0,c0,i0⟩,⟨q1,r1,c1,i1⟩⟩:=hrow;simp only at c0 c1 i0 i1;have i0:=zh i0;have i1:=zh i1;have hb2:∀o,Below w0.heap.size w0 (wr.alloc o):=λo=>hb.out.trans ((hal o).mono hb.out.size);have hz:Hid (typS (ps,rs)=(ps.all xG&&rs.all xG)):=zh rfl;go_wp2_with fail;refine(typed_any ps q0 r0 _ (i0.out.below (hal _))).mono ?_;rintro e w' ⟨rfl,rfl⟩;cases hX:ps.all xG
    . have hn2:=zh (hn.out.2 (by rw[hz.out,hX];rfl));clear hX;rw[qC];go_wp2;exact⟨rfl,by rw[S0.out,hn2.out];rfl,hB0.out.trans ((hb2 _).mono hs0)⟩
    . have hz:=zh (hz.out.trans (show _=rs.all xG from by rw[hX];rfl));rw[zV];clear hX;go_wp2_with fail;refine(typed_any rs q1 r1 _ (i1.out.below (hal _))).mono ?_;rintro e w' ⟨rfl,rfl⟩;cases hX:rs.all xG
      . have hn2:=zh (hn.out.2 (by rw[hz.out,hX]));clear hX;rw[qC];go_wp2;exact⟨rfl,by rw[S0.out,hn2.out];rfl,hB0.out.trans ((hb2 _).mono hs0)⟩
      . have hz:=zh (hz.out.trans (show _=true from by rw[hX]));rw[zV];clear hX;go_wp2
        go_roundw
        case rel=>exact⟨i+1,by omega,by simp,zh (hn.out.1 hz.out),zh (hb2 _)⟩
        case measure=>simp[intOf];omega
  . have hiN:i=m.types.length:=(by omega)
    subst hiN;have ha2:m.types.all typS=true:=(by have:=ha.out;rwa [List.take_length]at this)
    have S1:Hid (qX m=(m.imports.all impS&&sh2 m)):=zh (by rw[S0.out,ha2];rfl);clear ha ha2 hi hlt;have x1:wr.cell? ⟨w.heap.size,1,none⟩=some (.slice a1 m.imports.length k1):=zA hb.out _ _ y1.out;go_wp2_with fail;go_loopw [34] (λvi wr=>∃i:Nat,i<=m.imports.length/\vi=.int .i64 i/\Hid ((m.imports.take i).all impS=true)/\Hid (Below w0.heap.size w0 wr)) (λvi _=>m.imports.length-(intOf vi).toNat)
    case atStart=>exact⟨0,Nat.zero_le _,rfl,zh rfl,hb⟩
    case round=>
     clear hb;obtain⟨i,hi,rfl,ha,hb⟩:=hrel
     by_cases hlt:i<m.imports.length
     . obtain⟨t,ht⟩:∃t,m.imports[i]? =some t:=⟨_,List.getElem?_eq_getElem hlt⟩
       obtain⟨b,o,e,hrow⟩:=(HM.out.imports.keep λ_ _ _=>ImportAt.keep (zA hb.out)).row ht;cases e;have hn:=zh (jB ht ha.out);have hal:=λo=>(Below.refl wr.heap.size wr).alloc (Nat.le_refl _) o;clear ht ha;obtain⟨mo,nm,ty⟩:=t;obtain⟨⟨c0,s0⟩,⟨c1,s1⟩,c2⟩:=hrow;unfold j9 at c2;simp only at c0 s0 c1 s1 c2;have hb2:∀o,Below w0.heap.size w0 (wr.alloc o):=λo=>hb.out.trans ((hal o).mono hb.out.size);have hz:Hid (impS (mo,nm,ty)=(jD mo&&(jD nm&&zM ty))):=zh rfl;go_wp2_with fail;refine(name1_any mo _ s0 (HU.out.below (hb2 _))).mono ?_;rintro e v1 ⟨rfl,bb⟩;have hB21:=zh ((hb2 _).trans (bb.mono (hb2 _).size));have hK21:=zh ((hal _).trans (bb.mono (hal _).size));have hlt21:wr.heap.size<v1.heap.size:=(by have:=bb.size;first |omega |(simp at this;omega))
       have z1_1:v1.cell? ⟨wr.heap.size,1,none⟩=some (.string nm):=zA bb _ _ (World.cell?_alloc_at _ _ _ 1 rfl);have z1_2:v1.cell? ⟨wr.heap.size,2,none⟩=some (.int .i64 ty):=zA bb _ _ (World.cell?_alloc_at _ _ _ 2 rfl);clear bb;cases hX:jD mo
       . have hn2:=zh (hn.out.2 (by rw[hz.out,hX];rfl));clear hX;rw[qC];go_wp2;exact⟨rfl,by rw[S1.out,hn2.out];rfl,hB0.out.trans (hB21.out.mono hs0)⟩
       . have hz:=zh (hz.out.trans (show _=(jD nm&&zM ty) from by rw[hX];rfl));rw[zV];clear hX;go_wp2_with fail;refine(name1_any nm _ s1 (HU.out.below hB21.out)).mono ?_;rintro e v2 ⟨rfl,bb⟩;have hB22:=zh (hB21.out.trans (bb.mono hB21.out.size));have hK22:=zh (hK21.out.trans (bb.mono hK21.out.size));have hlt22:wr.heap.size<v2.heap.size:=(by have:=bb.size;first |omega |(simp at this;omega))
         have z2_2:v2.cell? ⟨wr.heap.size,2,none⟩=some (.int .i64 ty):=zA bb _ _ (z1_2);clear bb;cases hX:jD nm
         . have hn2:=zh (hn.out.2 (by rw[hz.out,hX];rfl));clear hX;rw[qC];go_wp2;exact⟨rfl,by rw[S1.out,hn2.out];rfl,hB0.out.trans (hB22.out.mono hs0)⟩
         . have hz:=zh (hz.out.trans (show _=zM ty from by rw[hX];rfl));rw[zV];clear hX;go_wp2_with fail;refine(index1_any ty _ _ (jI _ [ty] (by simp))).mono ?_;rintro e w' ⟨rfl,rfl⟩;cases hX:zM ty
           . have hn2:=zh (hn.out.2 (by rw[hz.out,hX]));clear hX;rw[qC];go_wp2;exact⟨rfl,by rw[S1.out,hn2.out];rfl,hB0.out.trans ((hB22.out.alloc hB22.out.size _).mono hs0)⟩
           . have hz:=zh (hz.out.trans (show _=true from by rw[hX]));rw[zV];clear hX;go_wp2
             go_roundw
             case rel=>exact⟨i+1,by omega,by simp,zh (hn.out.1 hz.out),zh (hB22.out.alloc hB22.out.size _)⟩
             case measure=>simp[intOf];omega
     . have hiN:i=m.imports.length:=(by omega)
       subst hiN;have ha2:m.imports.all impS=true:=(by have:=ha.out;rwa [List.take_length]at this)
       have S2:Hid (qX m=(m.tables.all vM&&sh3 m)):=zh (by rw[S1.out,ha2];rfl);clear ha ha2 hi hlt;have x3:wr.cell? ⟨w.heap.size,3,none⟩=some (.slice a3 m.tables.length k3):=zA hb.out _ _ y3.out;have st:=zh (HM.out.tables.keep λ_ _ _=>LimitsAt.keep (zA hb.out));go_wp2_with fail;refine(limits_any m.tables a3 k3 _ st.out).mono ?_;rintro e vt ⟨rfl,bb⟩;have hb':=zh (hb.out.trans (bb.mono hb.out.size));clear bb st hb;have hb:=hb';clear hb';cases hX:m.tables.all vM
       . have S3:Hid (qX m=false):=zh (by rw[S2.out,hX];rfl);clear hX;rw[qC];go_wp2;exact⟨rfl,by rw[S3.out];rfl,hB0.out.trans (hb.out.mono hs0)⟩
       . have S3:Hid (qX m=(m.mems.all vM&&sh4 m)):=zh (by rw[S2.out,hX];rfl);rw[zV];clear hX;have x4:vt.cell? ⟨w.heap.size,4,none⟩=some (.slice a4 m.mems.length k4):=zA hb.out _ _ y4.out;have st:=zh (HM.out.mems.keep λ_ _ _=>LimitsAt.keep (zA hb.out));go_wp2_with fail;refine(limits_any m.mems a4 k4 _ st.out).mono ?_;rintro e vm ⟨rfl,bb⟩;have hb':=zh (hb.out.trans (bb.mono hb.out.size));clear bb st hb;have hb:=hb';clear hb';cases hX:m.mems.all vM
         . have S4:Hid (qX m=false):=zh (by rw[S3.out,hX];rfl);clear hX;rw[qC];go_wp2;exact⟨rfl,by rw[S4.out];rfl,hB0.out.trans (hb.out.mono hs0)⟩
         . have S4:Hid (qX m=(m.globals.all gloS&&sh5 m)):=zh (by rw[S3.out,hX];rfl);rw[zV];clear hX;have x5:vm.cell? ⟨w.heap.size,5,none⟩=some (.slice a5 m.globals.length k5):=zA hb.out _ _ y5.out;go_wp2_with fail;go_loopw [60] (λvi wr=>∃i:Nat,i<=m.globals.length/\vi=.int .i64 i/\Hid ((m.globals.take i).all gloS=true)/\Hid (Below w0.heap.size w0 wr)) (λvi _=>m.globals.length-(intOf vi).toNat)
           case atStart=>exact⟨0,Nat.zero_le _,rfl,zh rfl,hb⟩
           case round=>
            clear hb;obtain⟨i,hi,rfl,ha,hb⟩:=hrel
            by_cases hlt:i<m.globals.length
            . obtain⟨t,ht⟩:∃t,m.globals[i]? =some t:=⟨_,List.getElem?_eq_getElem hlt⟩
              obtain⟨b,o,e,hrow⟩:=(HM.out.globals.keep λ_ _ _=>GlobalAt.keep (zA hb.out)).row ht;cases e;have hn:=zh (jB ht ha.out);have hal:=λo=>(Below.refl wr.heap.size wr).alloc (Nat.le_refl _) o;clear ht ha;obtain⟨ty,mu,⟨op,ix,iy,iz,ls,body,els⟩⟩:=t;obtain⟨c0,c1,⟨⟨d0,d1,d2,d3⟩,⟨q4,r4,d4,i4⟩,⟨q5,r5,d5,l5,i5⟩,⟨q6,r6,d6,l6,i6⟩,_⟩⟩:=hrow;unfold j9 at c0;unfold BoolCell at c1;simp only at c0 c1;have d0:wr.cell? ⟨b,o+i*9+2,none⟩=_:=d0;have d1:wr.cell? ⟨b,o+i*9+3,none⟩=_:=d1;have d2:wr.cell? ⟨b,o+i*9+4,none⟩=_:=d2;have d3:wr.cell? ⟨b,o+i*9+5,none⟩=_:=d3;have d4:wr.cell? ⟨b,o+i*9+6,none⟩=_:=d4;have d5:wr.cell? ⟨b,o+i*9+7,none⟩=_:=d5;have d6:wr.cell? ⟨b,o+i*9+8,none⟩=_:=d6;simp only at l5 i5 l6 i6;have hone:Hid (OneIs wr ⟨op,ix,iy,iz,ls,body,els⟩ q4 r4 q5 r5 q6 r6):=zh ⟨i4,l5,by rcases i5 with e |h;exact .inl e;exact .inr (by simpa using h),l6,by rcases i6 with e |h;exact .inl e;exact .inr (by simpa using h)⟩;clear i4 i5 i6;have hb2:∀o,Below w0.heap.size w0 (wr.alloc o):=λo=>hb.out.trans ((hal o).mono hb.out.size);have hz:Hid (gloS (ty,mu,⟨op,ix,iy,iz,ls,body,els⟩)=(xG ty&&yM ⟨op,ix,iy,iz,ls,body,els⟩)):=zh rfl;go_wp2_with fail;refine(typed1_any ty _ _ (ints_new2 wr _ _ [ty] (by simp))).mono ?_;rintro e w' ⟨rfl,rfl⟩
              cases hX:xG ty
              . have hn2:=zh (hn.out.2 (by rw[hz.out,hX];rfl));clear hX;rw[qC];go_wp2;exact⟨rfl,by rw[S4.out,hn2.out];rfl,hB0.out.trans (((hb2 _).alloc (hb2 _).size _).mono hs0)⟩
              . have hz:=zh (hz.out.trans (show _=yM ⟨op,ix,iy,iz,ls,body,els⟩ from by rw[hX];rfl));rw[zV];clear hX;go_wp2_with fail;refine(begins_any op ix iy iz ls body els q4 r4 q5 r5 q6 r6 _ (hone.out.keep (zA ((hal _).alloc (hal _).size _)))).mono ?_;rintro e v1 ⟨rfl,bb⟩;have hB21:=zh (((hb2 _).alloc (hb2 _).size _).trans (bb.mono ((hb2 _).alloc (hb2 _).size _).size));have hK21:=zh (((hal _).alloc (hal _).size _).trans (bb.mono ((hal _).alloc (hal _).size _).size));have hlt21:wr.heap.size<v1.heap.size:=(by have:=bb.size;first |omega |(simp at this;omega))
                clear bb;cases hX:yM ⟨op,ix,iy,iz,ls,body,els⟩
                . have hn2:=zh (hn.out.2 (by rw[hz.out,hX]));clear hX;rw[qC];go_wp2;exact⟨rfl,by rw[S4.out,hn2.out];rfl,hB0.out.trans (hB21.out.mono hs0)⟩
                . have hz:=zh (hz.out.trans (show _=true from by rw[hX]));rw[zV];clear hX;go_wp2
                  go_roundw
                  case rel=>exact⟨i+1,by omega,by simp,zh (hn.out.1 hz.out),zh hB21.out⟩
                  case measure=>simp[intOf];omega
            . have hiN:i=m.globals.length:=(by omega)
              subst hiN;have ha2:m.globals.all gloS=true:=(by have:=ha.out;rwa [List.take_length]at this)
              have S5:Hid (qX m=(m.exports.all yZ&&sh6 m)):=zh (by rw[S4.out,ha2];rfl);clear ha ha2 hi hlt;have x6:wr.cell? ⟨w.heap.size,6,none⟩=some (.slice a6 m.exports.length k6):=zA hb.out _ _ y6.out;go_wp2_with fail;go_loopw [75] (λvi wr=>∃i:Nat,i<=m.exports.length/\vi=.int .i64 i/\Hid ((m.exports.take i).all yZ=true)/\Hid (Below w0.heap.size w0 wr)) (λvi _=>m.exports.length-(intOf vi).toNat)
              case atStart=>exact⟨0,Nat.zero_le _,rfl,zh rfl,hb⟩
              case round=>
               clear hb;obtain⟨i,hi,rfl,ha,hb⟩:=hrel
               by_cases hlt:i<m.exports.length
               . obtain⟨t,ht⟩:∃t,m.exports[i]? =some t:=⟨_,List.getElem?_eq_getElem hlt⟩
                 obtain⟨b,o,e,hrow⟩:=(HM.out.exports.keep λ_ _ _=>ExportAt.keep (zA hb.out)).row ht;cases e;have hn:=zh (jB ht ha.out);have hal:=λo=>(Below.refl wr.heap.size wr).alloc (Nat.le_refl _) o;clear ht ha;obtain⟨nm,kd,ix⟩:=t;obtain⟨⟨c0,s0⟩,c1,c2⟩:=hrow;unfold j9 at c1 c2;simp only at c0 s0 c1 c2;have hb2:∀o,Below w0.heap.size w0 (wr.alloc o):=λo=>hb.out.trans ((hal o).mono hb.out.size);have hz:Hid (yZ (nm,kd,ix)=(jD nm&&((decide (0<=kd)&&decide (kd<=3))&&zM ix))):=zh rfl;go_wp2_with fail;refine(name1_any nm _ s0 (HU.out.below (hb2 _))).mono ?_;rintro e v1 ⟨rfl,bb⟩;have hB21:=zh ((hb2 _).trans (bb.mono (hb2 _).size));have hK21:=zh ((hal _).trans (bb.mono (hal _).size));have hlt21:wr.heap.size<v1.heap.size:=(by have:=bb.size;first |omega |(simp at this;omega))
                 have z1_1:v1.cell? ⟨wr.heap.size,1,none⟩=some (.int .i64 kd):=zA bb _ _ (World.cell?_alloc_at _ _ _ 1 rfl);have z1_2:v1.cell? ⟨wr.heap.size,2,none⟩=some (.int .i64 ix):=zA bb _ _ (World.cell?_alloc_at _ _ _ 2 rfl);clear bb;cases hX:jD nm
                 . have hn2:=zh (hn.out.2 (by rw[hz.out,hX];rfl));clear hX;rw[qC];go_wp2;exact⟨rfl,by rw[S5.out,hn2.out];rfl,hB0.out.trans (hB21.out.mono hs0)⟩
                 . have hz:=zh (hz.out.trans (show _=((decide (0<=kd)&&decide (kd<=3))&&zM ix) from by rw[hX];rfl));rw[zV];clear hX;go_wp2_with fail;refine(within_any kd 0 3 _).mono ?_;rintro e w' ⟨rfl,rfl⟩;go_wp2_with fail;refine(want_any _ 30 _).mono ?_;rintro e w' ⟨rfl,rfl⟩;cases hX:(decide (0<=kd)&&decide (kd<=3))
                   . have hn2:=zh (hn.out.2 (by rw[hz.out,hX];rfl));clear hX;rw[qC];go_wp2;exact⟨rfl,by rw[S5.out,hn2.out];rfl,hB0.out.trans (hB21.out.mono hs0)⟩
                   . have hz:=zh (hz.out.trans (show _=zM ix from by rw[hX];rfl));rw[zV];clear hX;go_wp2_with fail;refine(index1_any ix _ _ (jI _ [ix] (by simp))).mono ?_;rintro e w' ⟨rfl,rfl⟩;cases hX:zM ix
                     . have hn2:=zh (hn.out.2 (by rw[hz.out,hX]));clear hX;rw[qC];go_wp2;exact⟨rfl,by rw[S5.out,hn2.out];rfl,hB0.out.trans ((hB21.out.alloc hB21.out.size _).mono hs0)⟩
                     . have hz:=zh (hz.out.trans (show _=true from by rw[hX]));rw[zV];clear hX;go_wp2
                       go_roundw
                       case rel=>exact⟨i+1,by omega,by simp,zh (hn.out.1 hz.out),zh (hB21.out.alloc hB21.out.size _)⟩
                       case measure=>simp[intOf];omega
               . have hiN:i=m.exports.length:=(by omega)
                 subst hiN;have ha2:m.exports.all yZ=true:=(by have:=ha.out;rwa [List.take_length]at this)
                 have S6:Hid (qX m=(m.start.all zM&&sh7 m)):=zh (by rw[S5.out,ha2];rfl);clear ha ha2 hi hlt;have x7:wr.cell? ⟨w.heap.size,7,none⟩=some (.slice a7 m.start.length k7):=zA hb.out _ _ y7.out;have st:=zh (HM.out.start.keep (zA hb.out));go_wp2_with fail;refine(index_any m.start a7 k7 _ st.out).mono ?_;rintro e w' ⟨rfl,rfl⟩;cases hX:m.start.all zM
                 . have S7:Hid (qX m=false):=zh (by rw[S6.out,hX];rfl);clear hX;rw[qC];go_wp2;exact⟨rfl,by rw[S7.out];rfl,hB0.out.trans (hb.out.mono hs0)⟩
                 . have S7:Hid (qX m=(m.elems.all elmS&&sh8 m)):=zh (by rw[S6.out,hX];rfl);rw[zV];clear hX;have x8:wr.cell? ⟨w.heap.size,8,none⟩=some (.slice a8 m.elems.length k8):=zA hb.out _ _ y8.out;go_wp2_with fail;go_loopw [98] (λvi wr=>∃i:Nat,i<=m.elems.length/\vi=.int .i64 i/\Hid ((m.elems.take i).all elmS=true)/\Hid (Below w0.heap.size w0 wr)) (λvi _=>m.elems.length-(intOf vi).toNat)
                   case atStart=>exact⟨0,Nat.zero_le _,rfl,zh rfl,hb⟩
                   case round=>
                    clear hb;obtain⟨i,hi,rfl,ha,hb⟩:=hrel
                    by_cases hlt:i<m.elems.length
                    . obtain⟨t,ht⟩:∃t,m.elems[i]? =some t:=⟨_,List.getElem?_eq_getElem hlt⟩
                      obtain⟨b,o,e,hrow⟩:=(HM.out.elems.keep λ_ _ _=>ElemAt.keep (zA hb.out)).row ht;cases e;have hn:=zh (jB ht ha.out);have hal:=λo=>(Below.refl wr.heap.size wr).alloc (Nat.le_refl _) o;clear ht ha;obtain⟨⟨op,ix,iy,iz,ls,body,els⟩,fl⟩:=t;obtain⟨⟨⟨c0,c1,c2,c3⟩,⟨q4,r4,c4,i4⟩,⟨q5,r5,c5,l5,i5⟩,⟨q6,r6,c6,l6,i6⟩,_⟩,⟨q7,r7,c7,i7⟩⟩:=hrow;simp only at c7 i7;have i7:=zh i7;simp only at l5 i5 l6 i6;have hone:Hid (OneIs wr ⟨op,ix,iy,iz,ls,body,els⟩ q4 r4 q5 r5 q6 r6):=zh ⟨i4,l5,by rcases i5 with e |h;exact .inl e;exact .inr (by simpa using h),l6,by rcases i6 with e |h;exact .inl e;exact .inr (by simpa using h)⟩;clear i4 i5 i6;have hb2:∀o,Below w0.heap.size w0 (wr.alloc o):=λo=>hb.out.trans ((hal o).mono hb.out.size);have hz:Hid (elmS (⟨op,ix,iy,iz,ls,body,els⟩,fl)=(yM ⟨op,ix,iy,iz,ls,body,els⟩&&fl.all zM)):=zh rfl;go_wp2_with fail;refine(begins_any op ix iy iz ls body els q4 r4 q5 r5 q6 r6 _ (hone.out.keep (zA (hal _)))).mono ?_;rintro e v1 ⟨rfl,bb⟩;have hB21:=zh ((hb2 _).trans (bb.mono (hb2 _).size));have hK21:=zh ((hal _).trans (bb.mono (hal _).size));have hlt21:wr.heap.size<v1.heap.size:=(by have:=bb.size;first |omega |(simp at this;omega))
                      have z1_7:v1.cell? ⟨wr.heap.size,7,none⟩=some (.slice q7 fl.length r7):=zA bb _ _ (World.cell?_alloc_at _ _ _ 7 rfl);clear bb;cases hX:yM ⟨op,ix,iy,iz,ls,body,els⟩
                      . have hn2:=zh (hn.out.2 (by rw[hz.out,hX];rfl));clear hX;rw[qC];go_wp2;exact⟨rfl,by rw[S7.out,hn2.out];rfl,hB0.out.trans (hB21.out.mono hs0)⟩
                      . have hz:=zh (hz.out.trans (show _=fl.all zM from by rw[hX];rfl));rw[zV];clear hX;go_wp2_with fail;refine(index_any fl q7 r7 _ (i7.out.below hK21.out)).mono ?_;rintro e w' ⟨rfl,rfl⟩;cases hX:fl.all zM
                        . have hn2:=zh (hn.out.2 (by rw[hz.out,hX]));clear hX;rw[qC];go_wp2;exact⟨rfl,by rw[S7.out,hn2.out];rfl,hB0.out.trans (hB21.out.mono hs0)⟩
                        . have hz:=zh (hz.out.trans (show _=true from by rw[hX]));rw[zV];clear hX;go_wp2
                          go_roundw
                          case rel=>exact⟨i+1,by omega,by simp,zh (hn.out.1 hz.out),zh hB21.out⟩
                          case measure=>simp[intOf];omega
                    . have hiN:i=m.elems.length:=(by omega)
                      subst hiN;have ha2:m.elems.all elmS=true:=(by have:=ha.out;rwa [List.take_length]at this)
                      have S8:Hid (qX m=(m.datas.all datS&&sh9 m)):=zh (by rw[S7.out,ha2];rfl);clear ha ha2 hi hlt;have x9:wr.cell? ⟨w.heap.size,9,none⟩=some (.slice a9 m.datas.length k9):=zA hb.out _ _ y9.out;go_wp2_with fail;go_loopw [112] (λvi wr=>∃i:Nat,i<=m.datas.length/\vi=.int .i64 i/\Hid ((m.datas.take i).all datS=true)/\Hid (Below w0.heap.size w0 wr)) (λvi _=>m.datas.length-(intOf vi).toNat)
                      case atStart=>exact⟨0,Nat.zero_le _,rfl,zh rfl,hb⟩
                      case round=>
                       clear hb;obtain⟨i,hi,rfl,ha,hb⟩:=hrel
                       by_cases hlt:i<m.datas.length
                       . obtain⟨t,ht⟩:∃t,m.datas[i]? =some t:=⟨_,List.getElem?_eq_getElem hlt⟩
                         obtain⟨b,o,e,hrow⟩:=(HM.out.datas.keep λ_ _ _=>DataAt.keep (zA hb.out)).row ht;cases e;have hn:=zh (jB ht ha.out);have hal:=λo=>(Below.refl wr.heap.size wr).alloc (Nat.le_refl _) o;clear ht ha;obtain⟨⟨op,ix,iy,iz,ls,body,els⟩,sb⟩:=t;obtain⟨⟨⟨c0,c1,c2,c3⟩,⟨q4,r4,c4,i4⟩,⟨q5,r5,c5,l5,i5⟩,⟨q6,r6,c6,l6,i6⟩,_⟩,c7,hsz⟩:=hrow;simp only at c7 hsz;simp only at l5 i5 l6 i6;have hone:Hid (OneIs wr ⟨op,ix,iy,iz,ls,body,els⟩ q4 r4 q5 r5 q6 r6):=zh ⟨i4,l5,by rcases i5 with e |h;exact .inl e;exact .inr (by simpa using h),l6,by rcases i6 with e |h;exact .inl e;exact .inr (by simpa using h)⟩;clear i4 i5 i6;have hb2:∀o,Below w0.heap.size w0 (wr.alloc o):=λo=>hb.out.trans ((hal o).mono hb.out.size);have hz:Hid (datS (⟨op,ix,iy,iz,ls,body,els⟩,sb)=yM ⟨op,ix,iy,iz,ls,body,els⟩):=zh rfl;go_wp2_with fail;refine(begins_any op ix iy iz ls body els q4 r4 q5 r5 q6 r6 _ (hone.out.keep (zA (hal _)))).mono ?_;rintro e v1 ⟨rfl,bb⟩;have hB21:=zh ((hb2 _).trans (bb.mono (hb2 _).size));have hK21:=zh ((hal _).trans (bb.mono (hal _).size));have hlt21:wr.heap.size<v1.heap.size:=(by have:=bb.size;first |omega |(simp at this;omega))
                         clear bb;cases hX:yM ⟨op,ix,iy,iz,ls,body,els⟩
                         . have hn2:=zh (hn.out.2 (by rw[hz.out,hX]));clear hX;rw[qC];go_wp2;exact⟨rfl,by rw[S8.out,hn2.out];rfl,hB0.out.trans (hB21.out.mono hs0)⟩
                         . have hz:=zh (hz.out.trans (show _=true from by rw[hX]));rw[zV];clear hX;go_wp2
                           go_roundw
                           case rel=>exact⟨i+1,by omega,by simp,zh (hn.out.1 hz.out),zh hB21.out⟩
                           case measure=>simp[intOf];omega
                       . have hiN:i=m.datas.length:=(by omega)
                         subst hiN;have ha2:m.datas.all datS=true:=(by have:=ha.out;rwa [List.take_length]at this)
                         have S9:Hid (qX m=m.funcs.all funS):=zh (by rw[S8.out,ha2];rfl);clear ha ha2 hi hlt;have x2:wr.cell? ⟨w.heap.size,2,none⟩=some (.slice a2 m.funcs.length k2):=zA hb.out _ _ y2.out;go_wp2_with fail;go_loopw [123] (λvi wr=>∃i:Nat,i<=m.funcs.length/\vi=.int .i64 i/\Hid ((m.funcs.take i).all funS=true)/\Hid (Below w0.heap.size w0 wr)) (λvi _=>m.funcs.length-(intOf vi).toNat)
                         case atStart=>exact⟨0,Nat.zero_le _,rfl,zh rfl,hb⟩
                         case round=>
                          clear hb;obtain⟨i,hi,rfl,ha,hb⟩:=hrel
                          by_cases hlt:i<m.funcs.length
                          . obtain⟨t,ht⟩:∃t,m.funcs[i]? =some t:=⟨_,List.getElem?_eq_getElem hlt⟩
                            obtain⟨b,o,e,hrow⟩:=(HM.out.funcs.keep λ_ _ _=>FuncAt.keep (zA hb.out)).row ht;cases e;have hn:=zh (jB ht ha.out);have hal:=λo=>(Below.refl wr.heap.size wr).alloc (Nat.le_refl _) o;clear ht ha;obtain⟨ty,lo,bo⟩:=t;obtain⟨c0,⟨q1,r1,c1,i1⟩,⟨q2,r2,c2,l2,i2⟩⟩:=hrow;unfold j9 at c0;simp only at c0 c1 c2 i1 i2 l2;have i1:=zh i1;have i2:=zh i2;have hb2:∀o,Below w0.heap.size w0 (wr.alloc o):=λo=>hb.out.trans ((hal o).mono hb.out.size);have hz:Hid (funS (ty,lo,bo)=(zM ty&&(lo.all xG&&zZ bo))):=zh rfl;go_wp2_with fail;refine(index1_any ty _ _ (ints_new2 wr _ _ [ty] (by simp))).mono ?_;rintro e w' ⟨rfl,rfl⟩;cases hX:zM ty
                            . have hn2:=zh (hn.out.2 (by rw[hz.out,hX];rfl));clear hX;rw[qC];go_wp2;exact⟨rfl,by rw[S9.out,hn2.out];rfl,hB0.out.trans (((hb2 _).alloc (hb2 _).size _).mono hs0)⟩
                            . have hz:=zh (hz.out.trans (show _=(lo.all xG&&zZ bo) from by rw[hX];rfl));rw[zV];clear hX;go_wp2_with fail;refine(typed_any lo q1 r1 _ (i1.out.below ((hal _).alloc (hal _).size _))).mono ?_;rintro e w' ⟨rfl,rfl⟩;cases hX:lo.all xG
                              . have hn2:=zh (hn.out.2 (by rw[hz.out,hX];rfl));clear hX;rw[qC];go_wp2;exact⟨rfl,by rw[S9.out,hn2.out];rfl,hB0.out.trans (((hb2 _).alloc (hb2 _).size _).mono hs0)⟩
                              . have hz:=zh (hz.out.trans (show _=zZ bo from by rw[hX];rfl));rw[zV];clear hX;go_wp2_with fail;refine(formed_any bo q2 r2 _ l2 (i2.out.below ((hal _).alloc (hal _).size _))).mono ?_;rintro e v1 ⟨rfl,bb⟩;have hB21:=zh (((hb2 _).alloc (hb2 _).size _).trans (bb.mono ((hb2 _).alloc (hb2 _).size _).size));have hK21:=zh (((hal _).alloc (hal _).size _).trans (bb.mono ((hal _).alloc (hal _).size _).size));have hlt21:wr.heap.size<v1.heap.size:=(by have:=bb.size;first |omega |(simp at this;omega))
                                clear bb;cases hX:zZ bo
                                . have hn2:=zh (hn.out.2 (by rw[hz.out,hX]));clear hX;rw[qC];go_wp2;exact⟨rfl,by rw[S9.out,hn2.out];rfl,hB0.out.trans (hB21.out.mono hs0)⟩
                                . have hz:=zh (hz.out.trans (show _=true from by rw[hX]));rw[zV];clear hX;go_wp2
                                  go_roundw
                                  case rel=>exact⟨i+1,by omega,by simp,zh (hn.out.1 hz.out),zh hB21.out⟩
                                  case measure=>simp[intOf];omega
                          . have hiN:i=m.funcs.length:=(by omega)
                            subst hiN;have ha2:m.funcs.all funS=true:=(by have:=ha.out;rwa [List.take_length]at this)
                            have S10:Hid (qX m=true):=zh (by rw[S9.out];exact ha2);clear ha ha2 hi hlt;go_wp2;go_end0;exact⟨by rw[S10.out];rfl,hB0.out.trans (hb.out.mono hs0)⟩
end Go.Proofs.YtacohbllbjgdgaaGreatDoor
