/- The reference finds of a module what the program finds, plainly: all but exports. -/
import Derived.Test.YtacohbllbjgdgaaGreatDoorWb
import Derived.Test.YtacohbllbjgdgaaGreatDoorZc
import Derived.Test.YtacohbllbjgdgaaGreatDoorZj
import Derived.Test.YtacohbllbjgdgaaGreatDoorZw
import Derived.Test.YtacohbllbjgdgaaGreatDoorSa
import Derived.Test.YtacohbllbjgdgaaGreatDoorMk
import Derived.Test.YtacohbllbjgdgaaGreatDoorMf
set_option linter.all false
set_option maxRecDepth 100000
set_option maxHeartbeats 2000000
namespace Go.Proofs.YtacohbllbjgdgaaGreatDoor
open Go.RowKit
theorem firstL_map {α β:Type} {f:α->Int} {g:β->Int}:∀{l:List α} {k:List β},l.map f=k.map g->zD f l=zD g k
 | [],[],_=>rfl
 | [],y::k,h=>by cases h
 |x::l,[],h=>by cases h
 |x::l,y::k,h=>by
   simp only[List.map_cons,List.cons.injEq]at h;unfold zD;rw[h.1,firstL_map h.2]
theorem firstL_congr{α:Type}{f g:α->Int}{l:List α}(h:∀x∈l,f x=g x):zD f l=zD g l:=firstL_map (List.map_congr_left h)
theorem idx_len(m:Md):(vB m).length=m.imports.length+m.funcs.length:=by unfold vB;simp
theorem idx_ok{m:Md}(c:Cm m):∀n∈vB m,0<=n:=λn hn=>by
 unfold vB at hn
 rcases List.mem_append.1 hn with hn |hn
 . obtain⟨t,ht,rfl⟩:=List.mem_map.1 hn;have:=(c.imports t ht).2.2;unfold zN at this;simp only[Bool.and_eq_true,decide_eq_true_eq]at this;exact this.1
 . obtain⟨t,ht,rfl⟩:=List.mem_map.1 hn;have:=(c.funcs t ht).1;unfold zN at this;simp only[Bool.and_eq_true,decide_eq_true_eq]at this;exact this.1
theorem idxR_eq{m:Md}(c:Cm m):zD (eIdx m) (List.range (m.imports.length+m.funcs.length))=idxV m:=by
 unfold idxV;refine firstL_map ?_;refine List.ext_getElem (by simp[idx_len]) λi h1 h2=> ?_;simp only[List.getElem_map,List.getElem_range];have hl:i<(vB m).length:=(by simpa using h2)
 have hi:(vB m)[i]? =some (vB m)[i]:=List.getElem?_eq_getElem hl;have h0:=idx_ok c _ (List.getElem_mem hl);unfold eIdx vD;rw[typ_at hi,if_pos h0]
 by_cases hlt:(vB m)[i]<(m.types.length:Int)
 . rw[if_pos hlt,List.getElem?_eq_getElem (by omega:(vB m)[i].toNat<m.types.length)];rfl
 . rw[if_neg hlt,List.getElem?_eq_none (by omega)];rfl
theorem fst2_assoc(a b c:Int):qC (qC a b) c=qC a (qC b c):=by
 unfold qC
 by_cases ha:a=0
 . rw[if_pos ha]
   by_cases hb:b=0
   . rw[if_pos hb,ha];rfl
   . rw[if_neg hb,if_pos ha]
 . rw[if_neg ha,if_neg ha,if_neg ha]
theorem parts_eq{m:Md}(c:Cm m):qC (qC (limV 4294967296 m.tables) (limV 65536 m.mems)) (zD eGloR m.globals)=partsV m:=by
 have h1:zD (eLim 4294967296) m.tables=zD eTab m.tables:=firstL_congr λt ht=>by
  have:=c.tables t ht;unfold yN zN at this;simp only[Bool.and_eq_true,decide_eq_true_eq]at this;unfold eLim eTab
  by_cases hq:t.2.2=true/\t.2.1<t.1
  . rw[if_pos (.inl hq),if_pos hq]
  . rw[if_neg (by rintro(q |q |q);exact hq q;omega;omega),if_neg hq]
 have h2:zD (eLim 65536) m.mems=zD eMem m.mems:=rfl
 have h3:zD eGloR m.globals=zD eGlo m.globals:=firstL_congr λg hg=>by
  obtain⟨a1,a2⟩:=c.globals g hg;have ht:=typ1_tyo a1;unfold tyo at ht;unfold beg1 at a2;simp only[Bool.and_eq_true,Bool.or_eq_true,beq_iff_eq]at a2;unfold eGloR eGlo
  by_cases h35:g.2.2.op=35
  . rw[if_pos h35,if_pos h35]
  . rw[if_neg h35,if_neg h35]
    by_cases hq:(g.2.2.op=65/\g.1=127)\/(g.2.2.op=66/\g.1=126)
    . rw[if_pos hq,if_pos (by omega)]
    . rw[if_neg hq,if_neg (by omega)]
 unfold partsV limV;rw[h1,h2,h3,fst2_assoc,fst2_assoc,fst2_assoc]
theorem headsR_eq{m:Md}(c:Cm m):headsR m=qC (vZ m) (qC (idxV m) (partsV m)):=by unfold headsR;rw[idxR_eq c,parts_eq c];rfl
def Ag (x:Except Int Ts) (r:Rs):Prop:=match x with |.ok _=>r.w=0 |.error n=>n≠0/\r.w=n
def endF0 (ends:List Int) (r:Rs):Rs:=
 let s2:=jI ends r
 let s3:=if s2.w=0/\s2.st.length≠(s2.fs.headD fr0).h then zR 60 s2 else s2
 {s3 with fs:=s3.fs.tail}
def endT0 (s1:Ts):Except Int Ts:=match s1.fs with | []=>.error 0 |f::r=>(qP f.ends s1).bind λs2=>if s2.st.length=f.h then .ok ⟨s2.st,r⟩else .error 60
theorem endF0_st{ends:List Int}{r:Rs}(hr:r.w≠0):(endF0 ends r).w=r.w:=by
 have e:=popL_st ends r hr;unfold endF0
 dsimp only
 rw[if_neg (by rw[e];exactλq=>hr q.1)];exact e
theorem block0_sm{B:Ts->Except Int Ts}{C:Rs->Rs}(hB:BOk B C){goes ends:List Int}(hg:∀t∈goes,tyo t)(he:∀t∈ends,tyo t):Ag (qB B goes ends ⟨[],[]⟩) (zV C goes ends ⟨0,[],[]⟩):=by
 have hin:Wf ⟨[],[⟨goes,ends,0,false⟩]⟩:=⟨⟨_,_,rfl,Nat.le_refl _⟩,(by intro t ht;cases ht),λf hf=>by
  obtain rfl:=List.mem_singleton.1 hf;exact⟨hg,he⟩⟩
 have h1:=hB _ hin;change Sm ⟨[],[⟨goes,ends,0,false⟩]⟩ (B ⟨[],[⟨goes,ends,0,false⟩]⟩) (C ⟨0,[],[⟨goes,ends,0,false⟩]⟩)at h1;have eT:qB B goes ends ⟨[],[]⟩=(B ⟨[],[⟨goes,ends,0,false⟩]⟩).bind endT0:=rfl
 have eR:zV C goes ends ⟨0,[],[]⟩=endF0 ends (C ⟨0,[],[⟨goes,ends,0,false⟩]⟩):=by unfold zV;rw[if_pos (show((0:Int)=0) from rfl)];rfl
 rw[eT,eR];cases hb:B ⟨[],[⟨goes,ends,0,false⟩]⟩with
 |error n=>rw[hb]at h1;exact⟨h1.1,(endF0_st (by rw[h1.2];exact h1.1)).trans h1.2⟩
 |ok s1=>
   rw[hb]at h1;obtain⟨w1,k1,e1⟩:=h1;rw[e1];obtain⟨f,f',r,x1,x2,x3,x4,x5⟩:=k1;cases x1
   have e2:(Except.ok s1:Except Int Ts).bind endT0=(qP ends s1).bind λs2=>if s2.st.length=0 then .ok ⟨s2.st,[]⟩else .error 60:=by
    show endT0 s1=_
    unfold endT0;rw[x2]
    dsimp only
    rw[show f'.ends=ends from x4,show f'.h=0 from x5]
   rw[e2];have hp:=popL_sm w1 ends;cases hq:qP ends s1 with
   |error n=>
     rw[hq]at hp;refine⟨hp.1,?_⟩;unfold endF0
     dsimp only
     rw[if_neg (by rw[hp.2];exactλq=>hp.1 q.1)];exact hp.2
   |ok s2=>
     rw[hq]at hp;obtain⟨w2,k2,e3⟩:=hp;obtain⟨g,g',q,y1,y2,y3,y4,y5⟩:=k2;rw[x2]at y1;cases y1
     have hh:((up s2).fs.headD fr0).h=0:=by
      show(s2.fs.headD fr0).h=_
      rw[y2];exact y5.trans x5
     show Ag (if s2.st.length=0 then .ok ⟨s2.st,[]⟩else .error 60) _
     unfold endF0
     dsimp only
     rw[e3]
     by_cases hl:s2.st.length=0
     . rw[if_pos hl,if_neg (by rw[hh];exactλq=>q.2 hl)];rfl
     . rw[if_neg hl,if_pos ⟨rfl,by rw[hh];exact hl⟩];exact⟨by decide,bad_w (by decide) rfl⟩
theorem all_tyo{l:List Int}(h:l.all vA=true):∀x∈l,tyo x:=λx hx=>typ1_tyo (List.all_eq_true.1 h x hx)
theorem types_ok{m:Md}(c:Cm m):∀t∈m.types,(∀x∈t.1,tyo x)/\∀x∈t.2,tyo x:=λt ht=>⟨all_tyo (c.types t ht).2.2.1,all_tyo (c.types t ht).2.2.2⟩
theorem xG{m:Md}{P:List Int×List Int->Prop}(h:∀t∈m.types,P t)(h0:P ([],[]))(n:Nat):P (m.types.getD n ([],[])):=by
 rw[List.getD_eq_getElem?_getD];cases hn:m.types[n]? with
 |none=>exact h0
 |some t=>exact h t (List.mem_of_getElem? hn)
theorem ev_ok{m:Md}(c:Cm m){t:List Int×List Int}(ht:∀x∈t.1,tyo x){ls:List Int}(hl:ls.all vA=true):EvOk (envM m (zP m) t ls):=by
 refine⟨types_ok c,λu hu=> ?_,λg hg=> ?_,λx hx=> ?_⟩
 . obtain⟨n,_,rfl⟩:=List.mem_map.1 hu;exact xG (P:=λt=>(∀x∈t.1,tyo x)/\∀x∈t.2,tyo x) (types_ok c) ⟨(by intro x hx;cases hx),(by intro x hx;cases hx)⟩ _
 . obtain⟨q,hq,rfl⟩:=List.mem_map.1 hg;exact typ1_tyo (c.globals q hq).1
 . rcases List.mem_append.1 hx with hx |hx
   . exact ht x hx
   . exact all_tyo hl x hx
theorem types_r{m:Md}(h:vZ m=0):∀t∈m.types,t.2.length<=1:=λt ht=>by
 have:=yK h t ht
 by_cases q:t.2.length<=1
 . exact q
 . rw[if_neg q]at this;cases this
theorem ev_r{m:Md}(h:vZ m=0)(t:List Int×List Int)(ls:List Int):EvR (envM m (zP m) t ls):=by refine⟨types_r h,λu hu=> ?_⟩;obtain⟨n,_,rfl⟩:=List.mem_map.1 hu;exact xG (P:=λt=>t.2.length<=1) (types_r h) (by simp) _
theorem idx_lt{m:Md}(h:idxV m=0):∀n∈vB m,n<(m.types.length:Int):=λn hn=>by
 have:=yK h n hn;unfold vD at this
 by_cases q:n<(m.types.length:Int)
 . exact q
 . rw[if_neg q]at this;cases this
theorem typ_func{m:Md}(c:Cm m)(h:idxV m=0)(k:Nat):typV m (k:Int)=(zP m)[k]? :=by
 unfold zP;rw[List.getElem?_map];cases hk:(vB m)[k]? with
 |none=>
   have:m.imports.length+m.funcs.length<=k:=by have:=List.getElem?_eq_none_iff.1 hk;rw[idx_len]at this;exact this
   rw[typ_out this];rfl
 |some n=>
   have hm:=List.mem_of_getElem? hk;have h0:=idx_ok c n hm;have h1:=idx_lt h n hm;rw[typ_at hk,if_pos h0,List.getElem?_eq_getElem (by omega:n.toNat<m.types.length)]
   show _=some (m.types.getD n.toNat ([],[]))
   rw[List.getD_eq_getElem?_getD,List.getElem?_eq_getElem (by omega:n.toNat<m.types.length)];rfl
theorem env_m{m:Md}(c:Cm m)(h1:vZ m=0)(h2:idxV m=0)(t:List Int×List Int)(ls:List Int):EnvM m (envM m (zP m) t ls):=
 ⟨ev_r h1 t ls,typ_func c h2,by have:=c.l1;have:=c.l2;omega⟩
def tyF (m:Md) (fn:Int×List Int×Il):List Int×List Int:=m.types.getD fn.1.toNat ([],[])
def bodyR (m:Md) (fn:Int×List Int×Il):Int:=(zV (ryL (envM m (zP m) (tyF m fn) fn.2.1) fn.2.2) (tyF m fn).2 (tyF m fn).2 ⟨0,[],[]⟩).w
def bodiesR (m:Md):List (Int×List Int×Il)->Nat->Int×Int
 | [],_=>(-1,0)
 |fn::r,n=>if bodyR m fn=0 then bodiesR m r (n+1)else(n,bodyR m fn)
theorem funcT_at{m:Md}{i:Nat}{fn:Int×List Int×Il}(h:m.funcs[i]? =some fn):(zP m)[m.imports.length+i]? =some (tyF m fn):=by unfold zP;rw[List.getElem?_map,idx_fun h];rfl
theorem body_eq{m:Md}(c:Cm m){fn:Int×List Int×Il}(hf:fn∈m.funcs):Ag (vQ m (zP m) (tyF m fn) fn) ⟨bodyR m fn,[],[]⟩:=by have ht:(∀x∈(tyF m fn).1,tyo x)/\∀x∈(tyF m fn).2,tyo x:=xG (P:=λt=>(∀x∈t.1,tyo x)/\∀x∈t.2,tyo x) (types_ok c) ⟨(by intro x hx;cases hx),(by intro x hx;cases hx)⟩ _;obtain⟨_,_,f3,_,f5,_⟩:=c.funcs fn hf;exact block0_sm (tyL_ok (ev_ok c ht.1 f3) fn.2.2 f5) ht.2 ht.2
theorem bodies_eq {m:Md} (c:Cm m):∀(d i:Nat),m.funcs.length-i=d->bodiesR m (m.funcs.drop i) (m.imports.length+i)=jB m (m.funcs.drop i) (m.imports.length+i)
 |0,i,h=>by
   rw[List.drop_of_length_le (by omega)];rfl
 |d+1,i,h=>by
   have hl:i<m.funcs.length:=(by omega)
   obtain⟨fn,hx⟩:∃fn,m.funcs[i]? =some fn:=⟨_,List.getElem?_eq_getElem hl⟩
   have hd:m.funcs.drop i=fn::m.funcs.drop (i+1):=(by rw[List.drop_eq_getElem_cons hl,(List.getElem?_eq_some_iff.1 hx).2])
   rw[hd]
   have hft:(zP m).getD (m.imports.length+i) ([],[])=tyF m fn:=by rw[List.getD_eq_getElem?_getD,funcT_at hx];rfl
   have hb:=body_eq c (List.mem_of_getElem? hx)
   show(if bodyR m fn=0 then bodiesR m (m.funcs.drop (i+1)) (m.imports.length+i+1)else(((m.imports.length+i:Nat):Int),bodyR m fn))=(match vQ m (zP m) ((zP m).getD (m.imports.length+i) ([],[])) fn with |.ok _=>jB m (m.funcs.drop (i+1)) (m.imports.length+i+1) |.error e=>(((m.imports.length+i:Nat):Int),e))
   rw[hft];cases hq:vQ m (zP m) (tyF m fn) fn with
   |ok u=>rw[hq]at hb;have hz:bodyR m fn=0:=hb;rw[if_pos hz];exact bodies_eq c d (i+1) (by omega)
   |error e=>rw[hq]at hb;obtain⟨h1,h2⟩:=hb;replace h2:bodyR m fn=e:=h2;rw[h2,if_neg h1]
def headR (m:Md):Int:=qC (zU m) (qC (headsR m) (qC (exportsR m) (yC m (m.imports.length+m.funcs.length))))
def yD (m:Md):Int×Int:=if headR m=0 then bodiesR m m.funcs m.imports.length else(-1,headR m)
theorem eStR_eq{m:Md}(c:Cm m)(h:idxV m=0){n:Int}(hn:n∈m.start):eStR m n=yV m n:=by
 have h0:0<=n:=(by have:=c.start n hn;unfold zN at this;simp at this;exact this.1)
 obtain⟨k,rfl⟩:∃k:Nat,n=k:=⟨n.toNat,by omega⟩
 unfold eStR yV;rw[typ_func c h k];cases hk:(zP m)[k]? with
 |none=>have:=List.getElem?_eq_none_iff.1 hk;rw[if_neg (by omega)]
 |some t=>
   have:=(List.getElem?_eq_some_iff.1 hk).1;rw[if_pos (by omega)]
   have e:(zP m).getD ((k:Int).toNat) ([],[])=t:=by rw[List.getD_eq_getElem?_getD,Int.toNat_natCast,hk];rfl
   rw[e]
theorem exportsR_eq{m:Md}(c:Cm m)(h:idxV m=0):exportsR m=xB m:=by unfold exportsR xB;rw[firstL_congr (λn hn=>eStR_eq c h hn)]
theorem headR_eq(m:Md):headR m=headV m:=by
 unfold headR headV
 by_cases hc:zU m=0
 . have c:=cm_of hc;rw[hc,headsR_eq c,fst2_assoc,fst2_assoc,funcT_length];unfold qC
   by_cases h1:vZ m=0
   . by_cases h2:idxV m=0
     . rw[exportsR_eq c h2]
     . simp[h1,h2]
   . simp[h1]
 . unfold qC;rw[if_neg hc,if_neg hc]
theorem whereR_eq(m:Md):yD m=zW m:=by
 unfold yD zW;rw[headR_eq]
 by_cases h:headV m=0
 . rw[if_pos h,if_pos h]
   have hc:zU m=0:=by unfold headV at h;exact(xE h).1
   have:=bodies_eq (cm_of hc) m.funcs.length 0 (by omega);simpa using this
 . rw[if_neg h,if_neg h]
def locFew (t:Int×List Int×Il):Bool:=decide ((t.2.1.length:Int)<=256)
def mo4 (m:Md):Bool:=m.funcs.all locFew
def mo3 (m:Md):Bool:=xU m.datas 262144&&mo4 m
def mo2 (m:Md):Bool:=m.elems.all elmFew&&mo3 m
def mo1 (m:Md):Bool:=m.types.all yT&&mo2 m
def mo0 (m:Md):Bool:=decide ((m.start.length:Int)<=1)&&mo1 m
def manyOk (m:Md):Bool:=(yZ m).all le4&&mo0 m
theorem mo_len{m:Md}{n:Int}(hm:n∈yZ m)(h:¬n<=4096):manyOk m=false:=by
 have:(yZ m).all le4=false:=by rw[List.all_eq_false];exact⟨n,hm,by simp[le4];omega⟩
 unfold manyOk;rw[this];rfl
theorem mo_start{m:Md}(hl:(yZ m).all le4=true)(h:¬(m.start.length:Int)<=1):manyOk m=false:=by unfold manyOk mo0;rw[hl,decide_eq_false h];rfl
theorem mo_start'{m:Md}(hl:(yZ m).all le4=true)(h:(m.start.length:Int)<=1):manyOk m=mo1 m:=by unfold manyOk mo0;rw[hl,decide_eq_true h];rfl
theorem many_any(m:Md)(a0:Option Addr)(k0:Nat)(a1:Option Addr)(k1:Nat)(a2:Option Addr)(k2:Nat)(a3:Option Addr)(k3:Nat)(a4:Option Addr)(k4:Nat)(a5:Option Addr)(k5:Nat)(a6:Option Addr)(k6:Nat)(a7:Option Addr)(k7:Nat)(a8:Option Addr)(k8:Nat)(a9:Option Addr)(k9:Nat)(w:World)(h:MdAt w m a0 k0 a1 k1 a2 k2 a3 k3 a4 k4 a5 k5 a6 k6 a7 k7 a8 k8 a9 k9)(hds:∀t∈m.datas,t.2.size<=300000):Calls Tryz.prog 40 #[mdV m a0 k0 a1 k1 a2 k2 a3 k3 a4 k4 a5 k5 a6 k6 a7 k7 a8 k8 a9 k9] w λe w'=>e=.returned (.bool (!manyOk m))/\Below w.heap.size w w':=by
 have HM:=zh (h.keep (zA ((Below.refl w.heap.size w).alloc (Nat.le_refl _) (.cells #[.slice a0 m.types.length k0,.slice a1 m.imports.length k1,.slice a2 m.funcs.length k2,.slice a3 m.tables.length k3,.slice a4 m.mems.length k4,.slice a5 m.globals.length k5,.slice a6 m.exports.length k6,.slice a7 m.start.length k7,.slice a8 m.elems.length k8,.slice a9 m.datas.length k9] 32))));have n0:=h.types.1;have n1:=h.imports.1;have n2:=h.funcs.1;have n3:=h.tables.1;have n4:=h.mems.1;have n5:=h.globals.1;have n6:=h.exports.1;have n7:=h.start.1;have n8:=h.elems.1;have n9:=h.datas.1;have hB0:Hid (Below w.heap.size w (w.alloc (.cells #[.slice a0 m.types.length k0,.slice a1 m.imports.length k1,.slice a2 m.funcs.length k2,.slice a3 m.tables.length k3,.slice a4 m.mems.length k4,.slice a5 m.globals.length k5,.slice a6 m.exports.length k6,.slice a7 m.start.length k7,.slice a8 m.elems.length k8,.slice a9 m.datas.length k9] 32))):=zh ((Below.refl _ _).alloc (Nat.le_refl _) _);clear h;unfold mdV;go_enter Tryz.func40,Tryz.ntmps40
 go_upto_region 1 with fail
 obtain⟨w0,hw0⟩:∃w0,w0=(w.alloc (.cells #[.slice a0 m.types.length k0,.slice a1 m.imports.length k1,.slice a2 m.funcs.length k2,.slice a3 m.tables.length k3,.slice a4 m.mems.length k4,.slice a5 m.globals.length k5,.slice a6 m.exports.length k6,.slice a7 m.start.length k7,.slice a8 m.elems.length k8,.slice a9 m.datas.length k9] 32)):=⟨_,rfl⟩
 rw[<-hw0];rw[<-hw0]at HM hB0;have hs0:w.heap.size<=w0.heap.size:=hB0.out.size;have y0:Hid (w0.cell? ⟨w.heap.size,0,none⟩=some (.slice a0 m.types.length k0)):=zh (by rw[hw0];exact World.cell?_alloc_at _ _ _ _ rfl);have y1:Hid (w0.cell? ⟨w.heap.size,1,none⟩=some (.slice a1 m.imports.length k1)):=zh (by rw[hw0];exact World.cell?_alloc_at _ _ _ _ rfl);have y2:Hid (w0.cell? ⟨w.heap.size,2,none⟩=some (.slice a2 m.funcs.length k2)):=zh (by rw[hw0];exact World.cell?_alloc_at _ _ _ _ rfl);have y3:Hid (w0.cell? ⟨w.heap.size,3,none⟩=some (.slice a3 m.tables.length k3)):=zh (by rw[hw0];exact World.cell?_alloc_at _ _ _ _ rfl);have y4:Hid (w0.cell? ⟨w.heap.size,4,none⟩=some (.slice a4 m.mems.length k4)):=zh (by rw[hw0];exact World.cell?_alloc_at _ _ _ _ rfl);have y5:Hid (w0.cell? ⟨w.heap.size,5,none⟩=some (.slice a5 m.globals.length k5)):=zh (by rw[hw0];exact World.cell?_alloc_at _ _ _ _ rfl);have y6:Hid (w0.cell? ⟨w.heap.size,6,none⟩=some (.slice a6 m.exports.length k6)):=zh (by rw[hw0];exact World.cell?_alloc_at _ _ _ _ rfl);have y7:Hid (w0.cell? ⟨w.heap.size,7,none⟩=some (.slice a7 m.start.length k7)):=zh (by rw[hw0];exact World.cell?_alloc_at _ _ _ _ rfl);have y8:Hid (w0.cell? ⟨w.heap.size,8,none⟩=some (.slice a8 m.elems.length k8)):=zh (by rw[hw0];exact World.cell?_alloc_at _ _ _ _ rfl);have y9:Hid (w0.cell? ⟨w.heap.size,9,none⟩=some (.slice a9 m.datas.length k9)):=zh (by rw[hw0];exact World.cell?_alloc_at _ _ _ _ rfl)
 have hb:Hid (Below w0.heap.size w0 w0):=zh (Below.refl _ _);clear hw0;have x0:w0.cell? ⟨w.heap.size,0,none⟩=some (.slice a0 m.types.length k0):=zA hb.out _ _ y0.out;have x1:w0.cell? ⟨w.heap.size,1,none⟩=some (.slice a1 m.imports.length k1):=zA hb.out _ _ y1.out;have x2:w0.cell? ⟨w.heap.size,2,none⟩=some (.slice a2 m.funcs.length k2):=zA hb.out _ _ y2.out;have x3:w0.cell? ⟨w.heap.size,3,none⟩=some (.slice a3 m.tables.length k3):=zA hb.out _ _ y3.out;have x4:w0.cell? ⟨w.heap.size,4,none⟩=some (.slice a4 m.mems.length k4):=zA hb.out _ _ y4.out;have x5:w0.cell? ⟨w.heap.size,5,none⟩=some (.slice a5 m.globals.length k5):=zA hb.out _ _ y5.out;have x6:w0.cell? ⟨w.heap.size,6,none⟩=some (.slice a6 m.exports.length k6):=zA hb.out _ _ y6.out;have x7:w0.cell? ⟨w.heap.size,7,none⟩=some (.slice a7 m.start.length k7):=zA hb.out _ _ y7.out;have x8:w0.cell? ⟨w.heap.size,8,none⟩=some (.slice a8 m.elems.length k8):=zA hb.out _ _ y8.out;have x9:w0.cell? ⟨w.heap.size,9,none⟩=some (.slice a9 m.datas.length k9):=zA hb.out _ _ y9.out
 by_cases g0:(m.types.length:Int)<=4096
 . have d0:decide ((4096:Int)<(m.types.length:Int))=false:=decide_eq_false (by omega)
   by_cases g1:(m.imports.length:Int)<=4096
   . have d1:decide ((4096:Int)<(m.imports.length:Int))=false:=decide_eq_false (by omega)
     by_cases g2:(m.funcs.length:Int)<=4096
     . have d2:decide ((4096:Int)<(m.funcs.length:Int))=false:=decide_eq_false (by omega)
       by_cases g3:(m.tables.length:Int)<=4096
       . have d3:decide ((4096:Int)<(m.tables.length:Int))=false:=decide_eq_false (by omega)
         by_cases g4:(m.mems.length:Int)<=4096
         . have d4:decide ((4096:Int)<(m.mems.length:Int))=false:=decide_eq_false (by omega)
           by_cases g5:(m.globals.length:Int)<=4096
           . have d5:decide ((4096:Int)<(m.globals.length:Int))=false:=decide_eq_false (by omega)
             by_cases g6:(m.exports.length:Int)<=4096
             . have d6:decide ((4096:Int)<(m.exports.length:Int))=false:=decide_eq_false (by omega)
               by_cases g8:(m.elems.length:Int)<=4096
               . have d8:decide ((4096:Int)<(m.elems.length:Int))=false:=decide_eq_false (by omega)
                 by_cases g9:(m.datas.length:Int)<=4096
                 . have d9:decide ((4096:Int)<(m.datas.length:Int))=false:=decide_eq_false (by omega)
                   have hl:(yZ m).all le4=true:=by simp[yZ,le4];omega
                   by_cases h7:(m.start.length:Int)<=1
                   . have S1:=zh (mo_start' hl h7);have d7:decide ((1:Int)<(m.start.length:Int))=false:=decide_eq_false (by omega);clear hl;go_wp2_with fail;clear d0 d1 d2 d3 d4 d5 d6 d7 d8 d9 x0 x1 x2 x3 x4 x5 x6 x7 x8 x9;go_loopw [3] (λvi wr=>∃i:Nat,i<=m.types.length/\vi=.int .i64 i/\Hid ((m.types.take i).all yT=true)/\Hid (Below w0.heap.size w0 wr)) (λvi _=>m.types.length-(intOf vi).toNat)
                     case atStart=>exact⟨0,Nat.zero_le _,rfl,zh rfl,hb⟩
                     case round=>
                      clear hb;obtain⟨i,hi,rfl,ha,hb⟩:=hrel
                      by_cases hlt:i<m.types.length
                      . obtain⟨t,ht⟩:∃t,m.types[i]? =some t:=⟨_,List.getElem?_eq_getElem hlt⟩
                        obtain⟨b,o,e,hrow⟩:=(HM.out.types.keep λ_ _ _=>TypeAt.keep (zA hb.out)).row ht;have x0:wr.cell? ⟨w.heap.size,0,none⟩=some (.slice a0 m.types.length k0):=zA hb.out _ _ y0.out;subst e;have hn:=zh (jH ht ha.out);have hk0:=zh (Below.refl wr.heap.size wr);clear ht ha;obtain⟨ps,rs⟩:=t;obtain⟨⟨q0,r0,c0,i0⟩,⟨q1,r1,c1,i1⟩⟩:=hrow;have l0:=i0.1;have l1:=i1.1;simp only at c0 c1 l0 l1;clear i0 i1;have hz:Hid (yT (ps,rs)=(decide ((ps.length:Int)<=4096)&&decide ((rs.length:Int)<=4096))):=zh rfl
                        by_cases hX:(ps.length:Int)<=4096
                        . have hz:=zh (hz.out.trans (show _=decide ((rs.length:Int)<=4096) from by rw[decide_eq_true hX];rfl))
                          by_cases hX:(rs.length:Int)<=4096
                          . have hz:=zh (hz.out.trans (show _=true from by rw[decide_eq_true hX]));have hfb:=zh hb.out;go_wp2
                            go_roundw
                            case rel=>exact⟨i+1,by omega,by simp,zh (hn.out.1 hz.out),hfb⟩
                            case measure=>simp[intOf];omega
                          . have hn2:=zh (hn.out.2 (by rw[hz.out,decide_eq_false hX]));have S':=zh ((λ(h:m.types.all yT=false)=>S1.out.trans (show mo1 m=false from by unfold mo1;rw[h];rfl)) hn2.out);go_wp2;go_ret;exact⟨by rw[S'.out];rfl,hB0.out.trans (hb.out.mono hs0)⟩
                        . have hn2:=zh (hn.out.2 (by rw[hz.out,decide_eq_false hX];rfl));have S':=zh ((λ(h:m.types.all yT=false)=>S1.out.trans (show mo1 m=false from by unfold mo1;rw[h];rfl)) hn2.out);go_wp2;go_ret;exact⟨by rw[S'.out];rfl,hB0.out.trans (hb.out.mono hs0)⟩
                      . have hiN:i=m.types.length:=(by omega)
                        subst hiN;have ha2:m.types.all yT=true:=(by have:=ha.out;rwa [List.take_length]at this)
                        have S2:=zh ((λ(h:m.types.all yT=true)=>S1.out.trans (show mo1 m=mo2 m from by unfold mo1;rw[h];rfl)) ha2);clear ha ha2 hi hlt;have x0:wr.cell? ⟨w.heap.size,0,none⟩=some (.slice a0 m.types.length k0):=zA hb.out _ _ y0.out;have x8:wr.cell? ⟨w.heap.size,8,none⟩=some (.slice a8 m.elems.length k8):=zA hb.out _ _ y8.out;go_wp2_with fail;go_loopw [4] (λvi wr=>∃i:Nat,i<=m.elems.length/\vi=.int .i64 i/\Hid ((m.elems.take i).all elmFew=true)/\Hid (Below w0.heap.size w0 wr)) (λvi _=>m.elems.length-(intOf vi).toNat)
                        case atStart=>exact⟨0,Nat.zero_le _,rfl,zh rfl,hb⟩
                        case round=>
                         clear hb;obtain⟨i,hi,rfl,ha,hb⟩:=hrel
                         by_cases hlt:i<m.elems.length
                         . obtain⟨t,ht⟩:∃t,m.elems[i]? =some t:=⟨_,List.getElem?_eq_getElem hlt⟩
                           obtain⟨b,o,e,hrow⟩:=(HM.out.elems.keep λ_ _ _=>ElemAt.keep (zA hb.out)).row ht;have x8:wr.cell? ⟨w.heap.size,8,none⟩=some (.slice a8 m.elems.length k8):=zA hb.out _ _ y8.out;subst e;have hn:=zh (jH ht ha.out);have hk0:=zh (Below.refl wr.heap.size wr);clear ht ha;obtain⟨q,fl⟩:=t;obtain⟨_,⟨q7,r7,c7,i7⟩⟩:=hrow;have l7:=i7.1;simp only at c7 l7;clear i7;have hz:Hid (elmFew (q,fl)=decide ((fl.length:Int)<=4096)):=zh rfl
                           by_cases hX:(fl.length:Int)<=4096
                           . have hz:=zh (hz.out.trans (show _=true from by rw[decide_eq_true hX]));have hfb:=zh hb.out;go_wp2
                             go_roundw
                             case rel=>exact⟨i+1,by omega,by simp,zh (hn.out.1 hz.out),hfb⟩
                             case measure=>simp[intOf];omega
                           . have hn2:=zh (hn.out.2 (by rw[hz.out,decide_eq_false hX]));have S':=zh ((λ(h:m.elems.all elmFew=false)=>S2.out.trans (show mo2 m=false from by unfold mo2;rw[h];rfl)) hn2.out);go_wp2;go_ret;exact⟨by rw[S'.out];rfl,hB0.out.trans (hb.out.mono hs0)⟩
                         . have hiN:i=m.elems.length:=(by omega)
                           subst hiN;have ha2:m.elems.all elmFew=true:=(by have:=ha.out;rwa [List.take_length]at this)
                           have S3:=zh ((λ(h:m.elems.all elmFew=true)=>S2.out.trans (show mo2 m=mo3 m from by unfold mo2;rw[h];rfl)) ha2);clear ha ha2 hi hlt;have x8:wr.cell? ⟨w.heap.size,8,none⟩=some (.slice a8 m.elems.length k8):=zA hb.out _ _ y8.out;have x9:wr.cell? ⟨w.heap.size,9,none⟩=some (.slice a9 m.datas.length k9):=zA hb.out _ _ y9.out;go_wp2_with fail;go_loopw [5,6] (λvn vi wr=>∃(i:Nat) (n:Int),i<=m.datas.length/\vi=.int .i64 i/\vn=.int .i64 n/\0<=n/\n<=262144/\Hid (xU m.datas 262144=xU (m.datas.drop i) (262144-n))/\Hid (Below w0.heap.size w0 wr)) (λ_ vi _=>m.datas.length-(intOf vi).toNat)
                           case atStart=>exact⟨0,0,Nat.zero_le _,rfl,rfl,by omega,by omega,zh rfl,hb⟩
                           case round=>
                            clear hb;obtain⟨i,n,hi,rfl,rfl,hn0,hn1,hd,hb⟩:=hrel;have x9:wr.cell? ⟨w.heap.size,9,none⟩=some (.slice a9 m.datas.length k9):=zA hb.out _ _ y9.out
                            by_cases hlt:i<m.datas.length
                            . obtain⟨t,ht⟩:∃t,m.datas[i]? =some t:=⟨_,List.getElem?_eq_getElem hlt⟩
                              obtain⟨b,o,e,hrow⟩:=(HM.out.datas.keep λ_ _ _=>DataAt.keep (zA hb.out)).row ht;subst e;have hdr:=drop_at ht;have hsz3:=hds _ (List.mem_of_getElem? ht);obtain⟨q,sb⟩:=t;obtain⟨_,c7,hsz⟩:=hrow;simp only at c7 hsz hsz3;have hd2:=zh (hd.out.trans (show _=(decide ((sb.size:Int)<=262144-n)&&xU (m.datas.drop (i+1)) (262144-n-sb.size)) from by rw[hdr];rfl));clear hd hdr ht
                              by_cases hX:(sb.size:Int)<=262144-n
                              . have hd3:=zh (hd2.out.trans (show _=xU (m.datas.drop (i+1)) (262144-(n+sb.size)) from by rw[decide_eq_true hX,show 262144-(n+(sb.size:Int))=262144-n-sb.size by omega];rfl));clear hd2;go_wp2;exact⟨⟨i+1,n+sb.size,by omega,by simp,by simp,by omega,by omega,hd3,hb⟩,by simp[intOf];omega⟩
                              . have S':=zh (S3.out.trans (show mo3 m=false from by unfold mo3;rw[hd2.out,decide_eq_false hX];rfl));clear hd2;go_wp2;go_ret;exact⟨by rw[S'.out];rfl,hB0.out.trans (hb.out.mono hs0)⟩
                            . have hiN:i=m.datas.length:=(by omega)
                              subst hiN;have S4:=zh (S3.out.trans (show mo3 m=mo4 m from by unfold mo3;rw[hd.out,List.drop_length];rfl));clear hd hi hlt;have x2:wr.cell? ⟨w.heap.size,2,none⟩=some (.slice a2 m.funcs.length k2):=zA hb.out _ _ y2.out;go_wp2_with fail;go_loopw [7] (λvi wr=>∃i:Nat,i<=m.funcs.length/\vi=.int .i64 i/\Hid ((m.funcs.take i).all locFew=true)/\Hid (Below w0.heap.size w0 wr)) (λvi _=>m.funcs.length-(intOf vi).toNat)
                              case atStart=>exact⟨0,Nat.zero_le _,rfl,zh rfl,hb⟩
                              case round=>
                               clear hb;obtain⟨i,hi,rfl,ha,hb⟩:=hrel
                               by_cases hlt:i<m.funcs.length
                               . obtain⟨t,ht⟩:∃t,m.funcs[i]? =some t:=⟨_,List.getElem?_eq_getElem hlt⟩
                                 obtain⟨b,o,e,hrow⟩:=(HM.out.funcs.keep λ_ _ _=>FuncAt.keep (zA hb.out)).row ht;have x2:wr.cell? ⟨w.heap.size,2,none⟩=some (.slice a2 m.funcs.length k2):=zA hb.out _ _ y2.out;subst e;have hn:=zh (jH ht ha.out);have hk0:=zh (Below.refl wr.heap.size wr);clear ht ha;obtain⟨ty,lo,bo⟩:=t;obtain⟨c0,⟨q1,r1,c1,i1⟩,⟨q2,r2,c2,l2,i2⟩⟩:=hrow;have l1:=i1.1;simp only at c1 l1;clear c0 c2 i1 i2;have hz:Hid (locFew (ty,lo,bo)=decide ((lo.length:Int)<=256)):=zh rfl
                                 by_cases hX:(lo.length:Int)<=256
                                 . have hz:=zh (hz.out.trans (show _=true from by rw[decide_eq_true hX]));have hfb:=zh hb.out;go_wp2
                                   go_roundw
                                   case rel=>exact⟨i+1,by omega,by simp,zh (hn.out.1 hz.out),hfb⟩
                                   case measure=>simp[intOf];omega
                                 . have hn2:=zh (hn.out.2 (by rw[hz.out,decide_eq_false hX]));have S':=zh ((λ(h:m.funcs.all locFew=false)=>S4.out.trans (show mo4 m=false from h)) hn2.out);go_wp2;go_ret;exact⟨by rw[S'.out];rfl,hB0.out.trans (hb.out.mono hs0)⟩
                               . have hiN:i=m.funcs.length:=(by omega)
                                 subst hiN;have ha2:m.funcs.all locFew=true:=(by have:=ha.out;rwa [List.take_length]at this)
                                 have S5:=zh ((λ(h:m.funcs.all locFew=true)=>S4.out.trans (show mo4 m=true from h)) ha2);clear ha ha2 hi hlt;have x2:wr.cell? ⟨w.heap.size,2,none⟩=some (.slice a2 m.funcs.length k2):=zA hb.out _ _ y2.out;go_wp2;go_ret;exact⟨by rw[S5.out];rfl,hB0.out.trans (hb.out.mono hs0)⟩
                   . have S':=zh (mo_start hl h7);have d7:decide ((1:Int)<(m.start.length:Int))=true:=decide_eq_true (by omega);go_wp2;go_ret;exact⟨by rw[S'.out];rfl,hB0.out.trans (hb.out.mono hs0)⟩
                 . have S':=zh (mo_len (m:=m) (n:=(m.datas.length:Int)) (by simp[yZ]) g9);have d9:decide ((4096:Int)<(m.datas.length:Int))=true:=decide_eq_true (by omega);go_wp2;go_ret;exact⟨by rw[S'.out];rfl,hB0.out.trans (hb.out.mono hs0)⟩
               . have S':=zh (mo_len (m:=m) (n:=(m.elems.length:Int)) (by simp[yZ]) g8);have d8:decide ((4096:Int)<(m.elems.length:Int))=true:=decide_eq_true (by omega);go_wp2;go_ret;exact⟨by rw[S'.out];rfl,hB0.out.trans (hb.out.mono hs0)⟩
             . have S':=zh (mo_len (m:=m) (n:=(m.exports.length:Int)) (by simp[yZ]) g6);have d6:decide ((4096:Int)<(m.exports.length:Int))=true:=decide_eq_true (by omega);go_wp2;go_ret;exact⟨by rw[S'.out];rfl,hB0.out.trans (hb.out.mono hs0)⟩
           . have S':=zh (mo_len (m:=m) (n:=(m.globals.length:Int)) (by simp[yZ]) g5);have d5:decide ((4096:Int)<(m.globals.length:Int))=true:=decide_eq_true (by omega);go_wp2;go_ret;exact⟨by rw[S'.out];rfl,hB0.out.trans (hb.out.mono hs0)⟩
         . have S':=zh (mo_len (m:=m) (n:=(m.mems.length:Int)) (by simp[yZ]) g4);have d4:decide ((4096:Int)<(m.mems.length:Int))=true:=decide_eq_true (by omega);go_wp2;go_ret;exact⟨by rw[S'.out];rfl,hB0.out.trans (hb.out.mono hs0)⟩
       . have S':=zh (mo_len (m:=m) (n:=(m.tables.length:Int)) (by simp[yZ]) g3);have d3:decide ((4096:Int)<(m.tables.length:Int))=true:=decide_eq_true (by omega);go_wp2;go_ret;exact⟨by rw[S'.out];rfl,hB0.out.trans (hb.out.mono hs0)⟩
     . have S':=zh (mo_len (m:=m) (n:=(m.funcs.length:Int)) (by simp[yZ]) g2);have d2:decide ((4096:Int)<(m.funcs.length:Int))=true:=decide_eq_true (by omega);go_wp2;go_ret;exact⟨by rw[S'.out];rfl,hB0.out.trans (hb.out.mono hs0)⟩
   . have S':=zh (mo_len (m:=m) (n:=(m.imports.length:Int)) (by simp[yZ]) g1);have d1:decide ((4096:Int)<(m.imports.length:Int))=true:=decide_eq_true (by omega);go_wp2;go_ret;exact⟨by rw[S'.out];rfl,hB0.out.trans (hb.out.mono hs0)⟩
 . have S':=zh (mo_len (m:=m) (n:=(m.types.length:Int)) (by simp[yZ]) g0);have d0:decide ((4096:Int)<(m.types.length:Int))=true:=decide_eq_true (by omega);go_wp2;go_ret;exact⟨by rw[S'.out];rfl,hB0.out.trans (hb.out.mono hs0)⟩
end Go.Proofs.YtacohbllbjgdgaaGreatDoor
