/- The reference's checker: elems and datas. -/
import Derived.Test.YtacohbllbjgdgaaGreatDoorWb
import Derived.Test.YtacohbllbjgdgaaGreatDoorXt
import Derived.Test.YtacohbllbjgdgaaGreatDoorWd
import Derived.Test.YtacohbllbjgdgaaGreatDoorWe
import Derived.Test.YtacohbllbjgdgaaGreatDoorMj
import Derived.Test.YtacohbllbjgdgaaGreatDoorRows
import Derived.ProofKit
import Derived.LaidMore
import Derived.OpenShut
import Derived.MakeChecks
import Derived.LaidLaws
import Derived.Lib.LaidU8T
import Derived.Lay
set_option linter.all false
set_option maxRecDepth 100000
set_option maxHeartbeats 8000000
namespace Go.Proofs.YtacohbllbjgdgaaGreatDoor
open Go.RowKit
section
variable {w:World} {A:MA} {m:Md}
theorem rfills_any(hA:MdA w m A)(hsz:m.imports.length+m.funcs.length<=1099511627776):Calls Tryz.prog 34 #[.agg #[(A.v m).v0,(A.v m).v1,(A.v m).v2,(A.v m).v3,(A.v m).v4,(A.v m).v5,(A.v m).v6,(A.v m).v7,(A.v m).v8,(A.v m).v9]] w λe w'=>e=.returned (.int .i64 (vH m (m.imports.length+m.funcs.length)))/\Below w.heap.size w w':=by
 generalize hX:vH m (m.imports.length+m.funcs.length)=X;have hX1:Hid (X=zX (zD (eEl m.tables.length (m.imports.length+m.funcs.length)) m.elems) (zD (eDa m.mems.length) m.datas)):=zh hX.symm;clear hX;have hbm:=bm_new hA;have l8:=hA.elems.1;have l9:=hA.datas.1;have l1:=hA.imports.1;have l2:=hA.funcs.1;have hwr:IntKind.i64.wrap ((m.imports.length:Int)+(m.funcs.length:Int))=(m.imports.length:Int)+(m.funcs.length:Int):=(by rw[IntKind.wrap_i64];omega)
 obtain⟨w1,hw1⟩:∃w1,w1=w.alloc (yU A m):=⟨_,rfl⟩
 obtain⟨B,hB⟩:∃B,B=w.heap.size:=⟨_,rfl⟩
 rw[<-hw1,<-hB]at hbm;unfold yU at hw1;go_enter Tryz.func34,Tryz.ntmps34
 go_upto_region 1 with(fail)
 rw[<-hw1];rw[<-hB];clear hw1;replace hB:=zh hB;replace hbm:=zh hbm;go_wp2_with fail;go_loopw [3] (λvi wr=>∃i:Nat,vi=.int .i64 i/\i<=m.elems.length/\Hid (zD (eEl m.tables.length (m.imports.length+m.funcs.length)) m.elems=zD (eEl m.tables.length (m.imports.length+m.funcs.length)) (m.elems.drop i))/\Hid (Bm A m B w wr)) (λvi _=>m.elems.length-(intOf vi).toNat)
 case atStart=>exact⟨0,rfl,Nat.zero_le _,zh rfl,hbm⟩
 case round=>
  clear hbm;obtain⟨i,rfl,hi,hf,hbm⟩:=hrel;obtain⟨x0,x1,x2,x3,x4,x5,x6,x7,x8,x9⟩:=xH hbm.out.h
  by_cases hlt:i<m.elems.length
  . obtain⟨x,hx⟩:∃x,m.elems[i]? =some x:=⟨_,List.getElem?_eq_getElem hlt⟩
    have hf1:=hf.out.trans (qE hx);have i0:(0:Int)<=(i:Int):=(by omega)
    have ilt:(i:Int)<(m.elems.length:Int):=(by omega)
    have good:eEl m.tables.length (m.imports.length+m.funcs.length) x=0->Hid (zD (eEl m.tables.length (m.imports.length+m.funcs.length)) m.elems=zD (eEl m.tables.length (m.imports.length+m.funcs.length)) (m.elems.drop (i+1))):=λq=>zh (by rw[q,if_pos rfl]at hf1;exact hf1)
    have bad:∀k,k≠0->eEl m.tables.length (m.imports.length+m.funcs.length) x=k->Hid (X=k):=λk hk q=>zh (by
     rw[q,if_neg hk]at hf1;rw[hX1.out,hf1];unfold zX;rw[if_neg hk])
    clear hf hf1;replace hlt:=zh hlt
    by_cases ht:m.tables.length=0
    . have e4:=bad 61 (by decide) (by unfold eEl xT;rw[ht];rfl);rw[ht]at x3;clear good bad hx ht;go_wp2;go_ret;rw[e4.out];exact⟨rfl,hbm.out.b⟩
    . have bt:((m.tables.length:Int)==0)=false:=(by simp[ht])
      have e0:eEl m.tables.length (m.imports.length+m.funcs.length) x=zX (eOff x.1.op) (zD (λn=>xT n ((m.imports.length+m.funcs.length:Nat):Int)) x.2):=by unfold eEl;rw[show xT 0 (m.tables.length:Int)=0 by unfold xT;rw[if_pos (by omega)]];rfl
      rw[e0]at good bad;clear e0 ht;obtain⟨b,o,hab,r3,⟨fa,fc,g7,gi⟩⟩:=hbm.out.m.elems.row hx;obtain⟨⟨g0,g1,g2,g3⟩,⟨ga4,gk4,g4,_⟩,⟨ga5,gk5,g5,_⟩,⟨ga6,gk6,g6,_⟩,_⟩:=r3;replace g7:wr.cell? ⟨b,o+i*8+7,none⟩=some (.slice fa x.2.length fc):=g7;rw[hab]at x8;replace hab:=zh hab;replace hx:=zh hx;have gi63:=gi.1;replace gi:=zh gi;go_wp2_with fail;refine(roffset_any _ _ _ _ _ _ _ _).mono ?_;rintro e w2 ⟨rfl,b2⟩;have hoe:offV x.1.op=eOff x.1.op:=rfl;rw[hoe];clear hoe;have hbm2:=zh (hbm.out.step b2);have kb:=zA b2;replace g7:=kb _ _ g7;replace gi:=zh (gi.out.below b2);clear g0 g1 g2 g3 g4 g5 g6 x0 x1 x2 x3 x4 x5 x6 x7 x8 x9 kb b2 hbm;generalize eOff x.1.op=L at good bad ⊢
      by_cases hz:L=0
      . have hlb:(L !=0)=false:=(by simp[hz])
        subst hz;have good2:zD (λn=>xT n ((m.imports.length+m.funcs.length:Nat):Int)) x.2=0->Hid (zD (eEl m.tables.length (m.imports.length+m.funcs.length)) m.elems=zD (eEl m.tables.length (m.imports.length+m.funcs.length)) (m.elems.drop (i+1))):=λq=>good (by rw[q];rfl);have bad2:zD (λn=>xT n ((m.imports.length+m.funcs.length:Nat):Int)) x.2=61->Hid (X=61):=λq=>bad 61 (by decide) (by rw[q];rfl);clear good bad;replace good2:=zh good2;replace bad2:=zh bad2;clear g7 gi;go_wp2_with fail;go_loopw [5] (λvj wr=>∃j:Nat,vj=.int .i64 j/\j<=x.2.length/\Hid (zD (λn=>xT n ((m.imports.length+m.funcs.length:Nat):Int)) x.2=zD (λn=>xT n ((m.imports.length+m.funcs.length:Nat):Int)) (x.2.drop j))/\Hid (Bm A m B w wr)) (λvj _=>x.2.length-(intOf vj).toNat)
        case atStart=>exact⟨0,rfl,Nat.zero_le _,zh rfl,hbm2⟩
        case round=>
         clear hbm2;obtain⟨j,rfl,hj,hf,hbm⟩:=hrel;obtain⟨x0,x1,x2,x3,x4,x5,x6,x7,x8,x9⟩:=xH hbm.out.h;obtain⟨b,o,hab,_,⟨fa,fc,g7,gi⟩⟩:=hbm.out.m.elems.row hx.out;replace g7:wr.cell? ⟨b,o+i*8+7,none⟩=some (.slice fa x.2.length fc):=g7;rw[hab]at x8;replace hab:=zh hab
         by_cases hjl:j<x.2.length
         . obtain⟨n,hn⟩:∃n,x.2[j]? =some n:=⟨_,List.getElem?_eq_getElem hjl⟩
           obtain⟨b3,o3,rfl,hcn⟩:=gi.at hn;have hf1:=hf.out.trans (qE hn);have j0:(0:Int)<=(j:Int):=(by omega)
           have jlt:(j:Int)<(x.2.length:Int):=(by omega)
           have hdr:∀n,Hid (Bm A m B w (wr.drewN n)):=λn=>zh (hbm.out.step (zB n));clear hf hn gi;replace hjl:=zh hjl
           by_cases hc:n<(m.imports.length:Int)+(m.funcs.length:Int)
           . have e:xT n ((m.imports.length+m.funcs.length:Nat):Int)=0:=(by unfold xT;rw[if_pos (by omega)])
             rw[e,if_pos rfl]at hf1;have dc:decide ((m.imports.length:Int)+(m.funcs.length:Int)<=n)=false:=decide_eq_false (by omega);clear e hc;replace hf1:=zh hf1;go_wp2_with fail
             go_quiet (fail)
             have hq:=hdr nq;go_wp2
             go_roundw
             case rel=>exact⟨j+1,by simp,by have:=hjl.out;omega,hf1,hq⟩
             case measure=>simp[intOf];have:=hjl.out;omega
           . have e:xT n ((m.imports.length+m.funcs.length:Nat):Int)=61:=(by unfold xT;rw[if_neg (by omega)])
             rw[e,if_neg (by decide)]at hf1;have e4:=bad2.out hf1;have dc:decide ((m.imports.length:Int)+(m.funcs.length:Int)<=n)=true:=decide_eq_true (by omega);clear e hc hf1;go_wp2_with fail
             go_quiet (fail)
             go_wp2;go_ret;rw[e4.out];exact⟨rfl,(hdr _).out.b⟩
         . obtain rfl:j=x.2.length:=by omega
           have e:=hf.out;rw[List.drop_length]at e;have e4:=good2.out e;clear e hf gi;go_wp2
           go_roundw
           case rel=>exact⟨i+1,by simp,by have:=hlt.out;omega,e4,hbm⟩
           case measure=>simp[intOf];have:=hlt.out;omega
      . have hlb:(L !=0)=true:=(by simp[hz])
        have e4:=bad L hz (by unfold zX;rw[if_neg hz]);clear good bad hz;go_wp2;go_ret;rw[e4.out];exact⟨rfl,hbm2.out.b⟩
  . obtain rfl:i=m.elems.length:=by omega
    have e1:Hid (X=zD (eDa m.mems.length) m.datas):=zh (by
     have:=hf.out;rw[List.drop_length]at this;rw[hX1.out,this];rfl)
    clear hf hlt hX1;go_wp2_with fail;go_loopw [6] (λvi wr=>∃i:Nat,vi=.int .i64 i/\i<=m.datas.length/\Hid (X=zD (eDa m.mems.length) (m.datas.drop i))/\Hid (Bm A m B w wr)) (λvi _=>m.datas.length-(intOf vi).toNat)
    case atStart=>exact⟨0,rfl,Nat.zero_le _,e1,hbm⟩
    case round=>
     clear hbm e1 x0 x1 x2 x3 x4 x5 x6 x7 x8 x9;obtain⟨i,rfl,hi,hf,hbm⟩:=hrel;obtain⟨x0,x1,x2,x3,x4,x5,x6,x7,x8,x9⟩:=xH hbm.out.h
     by_cases hlt:i<m.datas.length
     . obtain⟨x,hx⟩:∃x,m.datas[i]? =some x:=⟨_,List.getElem?_eq_getElem hlt⟩
       have hf1:=hf.out.trans (qE hx);have i0:(0:Int)<=(i:Int):=(by omega)
       have ilt:(i:Int)<(m.datas.length:Int):=(by omega)
       have good:eDa m.mems.length x=0->Hid (X=zD (eDa m.mems.length) (m.datas.drop (i+1))):=λq=>zh (by rw[q,if_pos rfl]at hf1;exact hf1);have bad:∀k,k≠0->eDa m.mems.length x=k->Hid (X=k):=λk hk q=>zh (by rw[q,if_neg hk]at hf1;exact hf1);clear hf hf1;replace hlt:=zh hlt
       by_cases ht:m.mems.length=0
       . have e4:=bad 61 (by decide) (by unfold eDa xT;rw[ht];rfl);rw[ht]at x4;clear good bad hx ht;go_wp2;go_ret;rw[e4.out];exact⟨rfl,hbm.out.b⟩
       . have bt:((m.mems.length:Int)==0)=false:=(by simp[ht])
         have e0:eDa m.mems.length x=eOff x.1.op:=by unfold eDa;rw[show xT 0 (m.mems.length:Int)=0 by unfold xT;rw[if_pos (by omega)]];rfl
         rw[e0]at good bad;clear e0 ht;obtain⟨b,o,hab,r3,_⟩:=hbm.out.m.datas.row hx;obtain⟨⟨g0,g1,g2,g3⟩,⟨ga4,gk4,g4,_⟩,⟨ga5,gk5,g5,_⟩,⟨ga6,gk6,g6,_⟩,_⟩:=r3;rw[hab]at x9;replace hab:=zh hab;replace hx:=zh hx;go_wp2_with fail;refine(roffset_any _ _ _ _ _ _ _ _).mono ?_;rintro e w2 ⟨rfl,b2⟩;have hoe:offV x.1.op=eOff x.1.op:=rfl;rw[hoe];clear hoe;have hbm2:=zh (hbm.out.step b2);clear g0 g1 g2 g3 g4 g5 g6 x0 x1 x2 x3 x4 x5 x6 x7 x8 x9 b2 hbm;generalize eOff x.1.op=L at good bad ⊢
         by_cases hz:L=0
         . have hlb:(L !=0)=false:=(by simp[hz])
           have e4:=good hz;clear good bad hz;go_wp2_with fail
           go_roundw
           case rel=>exact⟨i+1,by simp,by have:=hlt.out;omega,e4,hbm2⟩
           case measure=>simp[intOf];have:=hlt.out;omega
         . have hlb:(L !=0)=true:=(by simp[hz])
           have e4:=bad L hz rfl;clear good bad hz;go_wp2;go_ret;rw[e4.out];exact⟨rfl,hbm2.out.b⟩
     . obtain rfl:i=m.datas.length:=by omega
       have e4:X=0:=by have:=hf.out;rw[List.drop_length]at this;exact this
       clear hf hlt;replace e4:=zh e4;go_wp2;go_ret;rw[e4.out];exact⟨rfl,hbm.out.b⟩
end
end Go.Proofs.YtacohbllbjgdgaaGreatDoor
namespace Go.Proofs.YtacohbllbjgdgaaGreatDoor
open Go.RowKit
def Okx (x:Except Int Ts):Prop:=∃s,x=.ok s
structure Vd (m:Md):Prop where
 c:qI m=0
 types:xQ m=0
 idx:idxV m=0
 parts:vX m=0
 exports:jQ m=0
 fills:vH m (zY m).length=0
 bodies:∀fn∈m.funcs,Okx (bodyT m (zY m) (tyF m fn) fn)
theorem getD_fun{m:Md}{i:Nat}{fn:Int×List Int×Il}(h:m.funcs[i]? =some fn):(zY m).getD (m.imports.length+i) ([],[])=tyF m fn:=by rw[List.getD_eq_getElem?_getD,funcT_at h];rfl
theorem bodies_cons{m:Md}{i:Nat}(hl:i<m.funcs.length):∃fn,m.funcs.drop i=fn::m.funcs.drop (i+1)/\fn∈m.funcs/\xV m (m.funcs.drop i) (m.imports.length+i)=(match bodyT m (zY m) (tyF m fn) fn with |.ok _=>xV m (m.funcs.drop (i+1)) (m.imports.length+(i+1)) |.error e=>(((m.imports.length+i:Nat):Int),e)):=by
 obtain⟨fn,hx⟩:∃fn,m.funcs[i]? =some fn:=⟨_,List.getElem?_eq_getElem hl⟩
 have hd:m.funcs.drop i=fn::m.funcs.drop (i+1):=(by rw[List.drop_eq_getElem_cons hl,(List.getElem?_eq_some_iff.1 hx).2])
 refine⟨fn,hd,List.mem_of_getElem? hx,?_⟩;rw[hd]
 show(match bodyT m (zY m) ((zY m).getD (m.imports.length+i) ([],[])) fn with |.ok _=>xV m (m.funcs.drop (i+1)) (m.imports.length+i+1) |.error e=>(((m.imports.length+i:Nat):Int),e))=_
 rw[getD_fun hx];rfl
theorem bodies_ok {m:Md} (c:Cm m):∀(d i:Nat),m.funcs.length-i=d->(xV m (m.funcs.drop i) (m.imports.length+i)).2=0->∀fn∈m.funcs.drop i,Okx (bodyT m (zY m) (tyF m fn) fn)
 |0,i,h,_=>by
   rw[List.drop_of_length_le (by omega)];intro fn hf;cases hf
 |d+1,i,h,hz=>by
   obtain⟨fn,hd,hm,e⟩:=bodies_cons (m:=m) (i:=i) (by omega);rw[e]at hz;rw[hd];have hb:=body_eq c hm;cases hq:bodyT m (zY m) (tyF m fn) fn with
   |ok u=>
     rw[hq]at hz;intro g hg
     rcases List.mem_cons.1 hg with rfl |hg
     . exact⟨u,hq⟩
     . exact bodies_ok c d (i+1) (by omega) hz g hg
   |error n=>rw[hq]at hb hz;exact absurd hz hb.1
theorem vd_of{m:Md}(h:(qM m).2=0):Vd m:=by
 unfold qM at h
 by_cases hh:headV m=0
 . rw[if_pos hh]at h;unfold headV at hh;obtain⟨c,h1⟩:=xD hh;obtain⟨a1,h1⟩:=xD h1;obtain⟨a2,h1⟩:=xD h1;obtain⟨a3,h1⟩:=xD h1;obtain⟨a4,h1⟩:=xD h1;exact⟨c,a1,a2,a3,a4,h1,by simpa using bodies_ok (cm_of c) m.funcs.length 0 (by omega) (by simpa using h)⟩
 . rw[if_neg hh]at h;exact absurd h hh
theorem fst2_0(b:Int):zX 0 b=b:=by unfold zX;rw[if_pos rfl]
theorem expGo_congr {m m':Md} (h:∀k,manyV m' k=manyV m k):∀(l:List (ByteArray×Int×Int)) (seen:List ByteArray),xO m' l seen=xO m l seen
 | [],_=>rfl
 |x::r,seen=>by
   unfold xO;rw[h,expGo_congr h r]
def mExp (m:Md) (d:ByteArray×Int×Int):Md:={m with exports:=m.exports++[d]}
theorem expGo_twice {m:Md} {d:ByteArray×Int×Int}:∀(l:List (ByteArray×Int×Int)) (seen:List ByteArray),((∃x∈l,x.1=d.1)\/d.1.data.toList∈seen.map (λs=>s.data.toList))->xO m (l++[d]) seen≠0/\(xO m l seen=0->xO m (l++[d]) seen=63)
 | [],seen,h=>by
   have hm:d.1.data.toList∈seen.map (λs=>s.data.toList):=by
    rcases h with⟨x,hx,_⟩ |h
    . cases hx
    . exact h
   show xO m [d] seen≠0/\(_->xO m [d] seen=63)
   unfold xO;rw[if_pos hm];exact⟨by decide,λ_=>rfl⟩
 |y::r,seen,h=>by
   show xO m (y::(r++[d])) seen≠0/\(xO m (y::r) seen=0->xO m (y::(r++[d])) seen=63)
   unfold xO
   by_cases h1:y.1.data.toList∈seen.map (λs=>s.data.toList)
   . rw[if_pos h1,if_pos h1];exact⟨by decide,λk=>by cases k⟩
   rw[if_neg h1,if_neg h1]
   by_cases h2:y.2.2<manyV m y.2.1
   . rw[if_pos h2,if_pos h2];refine expGo_twice r (y.1::seen) ?_
     rcases h with⟨x,hx,e⟩ |h
     . rcases List.mem_cons.1 hx with rfl |hx
       . exact .inr (by rw[<-e];simp)
       . exact .inl ⟨x,hx,e⟩
     . exact .inr (by simp only[List.map_cons,List.mem_cons];exact .inr h)
   . rw[if_neg h2,if_neg h2];exact⟨by decide,λk=>by cases k⟩
theorem mExp_go(m:Md)(d:ByteArray×Int×Int)(l:List (ByteArray×Int×Int))(seen:List ByteArray):xO (mExp m d) l seen=xO m l seen:=expGo_congr (m:=m) (m':=mExp m d) (λk=>rfl) l seen
theorem twice_never{m:Md}{d:ByteArray×Int×Int}(h:∃x∈m.exports,x.1=d.1):(qM (mExp m d)).2≠0:=by intro q;have v:=(vd_of q).exports;unfold jQ at v;have:=(xD v).1;rw[mExp_go]at this;exact(expGo_twice m.exports [] (.inl h)).1 this
theorem twice_check{m:Md}{d:ByteArray×Int×Int}(hc:qI m=0)(hd:yZ d=true)(hn:m.exports.length<=1000):qI (mExp m d)=0:=by
 unfold qI at hc;split at hc
 . cases hc
 rename_i hf;split at hc
 . cases hc
 rename_i hm;split at hc
 . cases hc
 rename_i hs
 have a1:fewB (mExp m d)=true:=by
  replace hf:fewB m=true:=by simpa using hf
  unfold fewB vY at hf ⊢;simp only[Bool.and_eq_true,List.all_cons,List.all_nil,le4,decide_eq_true_eq]at hf ⊢;obtain⟨⟨l0,l1,l2,l3,l4,l5,l6,l8,l9,lz⟩,f0⟩:=hf;refine⟨⟨l0,l1,l2,l3,l4,l5,?_,l8,l9,lz⟩,f0⟩
  show((m.exports++[d]).length:Int)<=4096
  simp;omega
 have a2:flatM (mExp m d)=true:=by
  replace hm:flatM m=true:=by simpa using hm
  exact hm
 have a3:qX (mExp m d)=true:=by
  replace hs:qX m=true:=by simpa using hs
  unfold qX sh1 sh2 sh3 sh4 sh5 at hs ⊢
  have e:(mExp m d).exports.all yZ=m.exports.all yZ:=by
   show(m.exports++[d]).all yZ=_
   rw[List.all_append]
   show(_&&(yZ d&&true))=_
   rw[hd];simp
  rw[e];exact hs
 unfold qI;rw[a1,a2,a3];rfl
theorem twice_bad{m:Md}{d:ByteArray×Int×Int}(h:∃x∈m.exports,x.1=d.1)(hv:Vd m)(hd:yZ d=true)(hn:m.exports.length<=1000):(qM (mExp m d)).2=63:=by
 have hc:=twice_check hv.c hd hn
 have he:jQ (mExp m d)=63:=by unfold jQ;rw[mExp_go,show(mExp m d).exports=m.exports++[d] from rfl];have h0:=hv.exports;unfold jQ at h0;rw[(expGo_twice m.exports [] (.inl h)).2 (xD h0).1];rfl
 have hh:headV (mExp m d)=63:=by unfold headV;rw[hc,he,show xQ (mExp m d)=0 from hv.types,show idxV (mExp m d)=0 from hv.idx,show vX (mExp m d)=0 from hv.parts,fst2_0,fst2_0,fst2_0,fst2_0];rfl
 unfold qM;rw[hh];rfl
end Go.Proofs.YtacohbllbjgdgaaGreatDoor
namespace Go.Proofs.YtacohbllbjgdgaaGreatDoor
open Go.ChangeShapes Go.WideShapes Go.ChangeAt Go.RowKit
def laidTwo:List (String×DataW Unit):=[("unicode/utf8.acceptRanges",Rows.laid_unicode_utf8_acceptRanges),("unicode/utf8.first",Rows.laid_unicode_utf8_first)]
theorem first_data:(Rows.laid_unicode_utf8_first:DataW Unit)=Lib.firstData:=by kernel_rfl
theorem accept_data:(Rows.laid_unicode_utf8_acceptRanges:DataW Unit)=Lib.acceptData:=by kernel_rfl
theorem tab_of_laid{W:World}(h:laidMetH Tryz.prog laidTwo W):TabU W:=by rw[MakeChecks.laidMetH_plain _ _ _ (by kernel_rfl)]at h;have h1:=Lib.laidMet.reads h (List.mem_cons_self ..);have h2:=Lib.laidMet.reads h (List.mem_cons_of_mem _ (List.mem_cons_self ..));rw[accept_data]at h1;rw[first_data]at h2;exact utf8Tabs_of_readsT (U8Types.of196 Tryz.laysValid) ⟨by kernel_rfl,by kernel_rfl,by kernel_rfl,by kernel_rfl,by kernel_rfl,by kernel_rfl,by kernel_rfl⟩ h2 h1
theorem door_met(os:Os)(args:Array Value):laidMetH Tryz.prog laidTwo ((World.laidAll Tryz.prog os laidTwo).forCall (λ_ _=>0) ⟨#[],args,[]⟩).memory:=by rw[MakeChecks.laidMetH_plain _ _ _ (by kernel_rfl)];exact laidMet_laidAll _ (by kernel_rfl) (by kernel_rfl)
end Go.Proofs.YtacohbllbjgdgaaGreatDoor
