/- Which modules are valid, plainly. -/
import Derived.Test.YtacohbllbjgdgaaGreatDoorWc
import Derived.Test.YtacohbllbjgdgaaGreatDoorWa
set_option linter.all false
namespace Go.Proofs.YtacohbllbjgdgaaGreatDoor
open Go.RowKit
def Okx (x:Except Int Ts):Prop:=∃s,x=.ok s
structure Vd (m:Md):Prop where
 c:zU m=0
 types:vZ m=0
 idx:idxV m=0
 parts:partsV m=0
 exports:xB m=0
 fills:yC m (zP m).length=0
 bodies:∀fn∈m.funcs,Okx (vQ m (zP m) (tyF m fn) fn)
theorem getD_fun{m:Md}{i:Nat}{fn:Int×List Int×Il}(h:m.funcs[i]? =some fn):(zP m).getD (m.imports.length+i) ([],[])=tyF m fn:=by rw[List.getD_eq_getElem?_getD,funcT_at h];rfl
theorem bodies_cons{m:Md}{i:Nat}(hl:i<m.funcs.length):∃fn,m.funcs.drop i=fn::m.funcs.drop (i+1)/\fn∈m.funcs/\jB m (m.funcs.drop i) (m.imports.length+i)=(match vQ m (zP m) (tyF m fn) fn with |.ok _=>jB m (m.funcs.drop (i+1)) (m.imports.length+(i+1)) |.error e=>(((m.imports.length+i:Nat):Int),e)):=by
 obtain⟨fn,hx⟩:∃fn,m.funcs[i]? =some fn:=⟨_,List.getElem?_eq_getElem hl⟩
 have hd:m.funcs.drop i=fn::m.funcs.drop (i+1):=(by rw[List.drop_eq_getElem_cons hl,(List.getElem?_eq_some_iff.1 hx).2])
 refine⟨fn,hd,List.mem_of_getElem? hx,?_⟩;rw[hd]
 show(match vQ m (zP m) ((zP m).getD (m.imports.length+i) ([],[])) fn with |.ok _=>jB m (m.funcs.drop (i+1)) (m.imports.length+i+1) |.error e=>(((m.imports.length+i:Nat):Int),e))=_
 rw[getD_fun hx];rfl
theorem bodies_ok {m:Md} (c:Cm m):∀(d i:Nat),m.funcs.length-i=d->(jB m (m.funcs.drop i) (m.imports.length+i)).2=0->∀fn∈m.funcs.drop i,Okx (vQ m (zP m) (tyF m fn) fn)
 |0,i,h,_=>by
   rw[List.drop_of_length_le (by omega)];intro fn hf;cases hf
 |d+1,i,h,hz=>by
   obtain⟨fn,hd,hm,e⟩:=bodies_cons (m:=m) (i:=i) (by omega);rw[e]at hz;rw[hd];have hb:=body_eq c hm;cases hq:vQ m (zP m) (tyF m fn) fn with
   |ok u=>
     rw[hq]at hz;intro g hg
     rcases List.mem_cons.1 hg with rfl |hg
     . exact⟨u,hq⟩
     . exact bodies_ok c d (i+1) (by omega) hz g hg
   |error n=>rw[hq]at hb hz;exact absurd hz hb.1
theorem bodies_all {m:Md}:∀(d i:Nat),m.funcs.length-i=d->(∀fn∈m.funcs.drop i,Okx (vQ m (zP m) (tyF m fn) fn))->jB m (m.funcs.drop i) (m.imports.length+i)=(-1,0)
 |0,i,h,_=>by
   rw[List.drop_of_length_le (by omega)];rfl
 |d+1,i,h,hz=>by
   obtain⟨fn,hd,hm,e⟩:=bodies_cons (m:=m) (i:=i) (by omega);rw[hd]at hz;obtain⟨u,hq⟩:=hz fn (List.mem_cons_self ..);rw[e,hq];exact bodies_all d (i+1) (by omega) λg hg=>hz g (List.mem_cons_of_mem _ hg)
theorem vd_of{m:Md}(h:(zW m).2=0):Vd m:=by
 unfold zW at h
 by_cases hh:headV m=0
 . rw[if_pos hh]at h;unfold headV at hh;obtain⟨c,h1⟩:=xE hh;obtain⟨a1,h1⟩:=xE h1;obtain⟨a2,h1⟩:=xE h1;obtain⟨a3,h1⟩:=xE h1;obtain⟨a4,h1⟩:=xE h1;exact⟨c,a1,a2,a3,a4,h1,by simpa using bodies_ok (cm_of c) m.funcs.length 0 (by omega) (by simpa using h)⟩
 . rw[if_neg hh]at h;exact absurd h hh
theorem fst2_0(b:Int):qC 0 b=b:=by unfold qC;rw[if_pos rfl]
theorem Vd.where{m:Md}(h:Vd m):zW m=(-1,0):=by unfold zW headV;rw[h.c,h.types,h.idx,h.parts,h.exports,h.fills,fst2_0,fst2_0,fst2_0,fst2_0,fst2_0,if_pos rfl];simpa using bodies_all (m:=m) m.funcs.length 0 (by omega) (by simpa using h.bodies)
theorem firstL_all {α:Type} {f:α->Int}:∀{l:List α},(∀x∈l,f x=0)->zD f l=0
 | [],_=>rfl
 |y::r,h=>by
   unfold zD;rw[if_pos (h y (List.mem_cons_self ..))];exact firstL_all λx hx=>h x (List.mem_cons_of_mem _ hx)
end Go.Proofs.YtacohbllbjgdgaaGreatDoor
namespace Go.Proofs.YtacohbllbjgdgaaGreatDoor
open Go.RowKit
theorem bind_mono{α β:Type}{x x':Except Int α}{f f':α->Except Int β}(hx:∀a,x=.ok a->x'=.ok a)(hf:∀a r,f a=.ok r->f' a=.ok r):∀r,x.bind f=.ok r->x'.bind f'=.ok r:=by
 intro r h;cases hx1:x with
 |error e=>rw[hx1]at h;cases h
 |ok a=>rw[hx1]at h;rw[hx _ hx1];exact hf a r h
structure EvLe (E E':Ev):Prop where
 types:E'.types=E.types
 funcs:∀(i:Nat) (t:List Int×List Int),E.funcs[i]? =some t->E'.funcs[i]? =some t
 globals:E'.globals=E.globals
 tables:E'.tables=E.tables
 mems:E'.mems=E.mems
 locals:E'.locals=E.locals
section
variable {E E':Ev} {B B' C C':Ts->Except Int Ts}
theorem tBlock_mono(hB:∀s r,B s=.ok r->B' s=.ok r){g e:List Int}(s:Ts):∀r,qB B g e s=.ok r->qB B' g e s=.ok r:=
 bind_mono (hB _) λ_ _ h=>h
theorem tBlocks_mono(hB:∀s r,B s=.ok r->B' s=.ok r)(hC:∀s r,C s=.ok r->C' s=.ok r){op a:Int}{n:Nat}{s r:Ts}(h:xT op a n B C s=.ok r):xT op a n B' C' s=.ok r:=by
 unfold xT at h ⊢
 by_cases h2:op=2
 . rw[if_pos h2]at h ⊢;exact bind_mono (tBlock_mono hB _) (λ_ _ h=>h) _ h
 rw[if_neg h2]at h ⊢
 by_cases h3:op=3
 . rw[if_pos h3]at h ⊢;exact bind_mono (tBlock_mono hB _) (λ_ _ h=>h) _ h
 rw[if_neg h3]at h ⊢;refine bind_mono (λ_ h=>h) (λq r h=> ?_) _ h
 by_cases h4:0<n\/a=0
 . rw[if_pos h4]at h ⊢;refine bind_mono (tBlock_mono hB _) (λu r h=> ?_) _ h
   by_cases h5:0<n
   . rw[if_pos h5]at h ⊢;exact bind_mono (tBlock_mono hC _) (λ_ _ h=>h) _ h
   . rw[if_neg h5]at h ⊢;exact h
 . rw[if_neg h4]at h;cases h
theorem tNamed_mono(hE:EvLe E E'){op a:Int}{s r:Ts}(h:jE E op a s=.ok r):jE E' op a s=.ok r:=by
 unfold jE at h ⊢;rw[hE.globals,hE.locals]
 by_cases h16:op=16
 . rw[if_pos h16]at h ⊢;cases hf:E.funcs[a.toNat]? with
   |none=>rw[hf]at h;cases h
   |some t=>rw[hf]at h;rw[hE.funcs _ _ hf];exact h
 . rw[if_neg h16]at h ⊢;exact h
theorem tInstr_mono(hE:EvLe E E')(hB:∀s r,B s=.ok r->B' s=.ok r)(hC:∀s r,C s=.ok r->C' s=.ok r){op a:Int}{ls:List Int}{n:Nat}(s:Ts):∀r,jL E op a ls n B C s=.ok r->jL E' op a ls n B' C' s=.ok r:=by
 intro r h;unfold jL at h ⊢
 by_cases c1:(sgV op).1≠0
 . rw[if_pos c1]at h ⊢;exact h
 rw[if_neg c1]at h ⊢
 by_cases c2:zG op=2\/zG op=3
 . rw[if_pos c2]at h ⊢;exact tBlocks_mono hB hC h
 rw[if_neg c2]at h ⊢
 by_cases c3:zG op=4\/zG op=5
 . rw[if_pos c3]at h ⊢;exact h
 rw[if_neg c3]at h ⊢
 by_cases c4:zG op=6
 . rw[if_pos c4]at h ⊢;exact tNamed_mono hE h
 rw[if_neg c4]at h ⊢;have e1:vI E' a s=vI E a s:=(by unfold vI;rw[hE.tables,hE.types])
 have e2:zF E' op a s=zF E op a s:=(by unfold zF;rw[hE.mems])
 have e3:xK E' op s=xK E op s:=(by unfold xK;rw[hE.mems])
 rw[e1,e2,e3];exact h
theorem tyL_mono (hE:EvLe E E'):∀(l:Il) (s r:Ts),tyL E l s=.ok r->tyL E' l s=.ok r
 |.nil,s,r,h=>h
 |.cons op a y n ls body els rest,s,r,h=>by
   unfold tyL at h ⊢;exact bind_mono (tInstr_mono hE (tyL_mono hE body) (tyL_mono hE els) s) (tyL_mono hE rest) r h
end
theorem body_mono{m m':Md}{fs fs':List (List Int×List Int)}{t:List Int×List Int}{fn:Int×List Int×Il}(h:EvLe (envM m fs t fn.2.1) (envM m' fs' t fn.2.1))(hk:Okx (vQ m fs t fn)):Okx (vQ m' fs' t fn):=by obtain⟨s,hs⟩:=hk;exact⟨s,tBlock_mono (tyL_mono h fn.2.2) _ _ hs⟩
def un1:Il:=.cons 0 0 0 0 [] .nil .nil .nil
def vJ (m:Md) (t:Int):Md:={m with funcs:=m.funcs++[(t,[],un1)]}
theorem cntF_app:∀(l:List (Int×List Int×Il)) (f:Int×List Int×Il) (left:Int),0<=jS l left->jS (l++[f]) left=jS [f] (jS l left)
 | [],f,left,_=>rfl
 |g::r,f,left,h=>by
   show jS (g::(r++[f])) left=_
   unfold jS at h;rw[show jS (g::(r++[f])) left=if cnt g.2.2 left<0 then cnt g.2.2 left else jS (r++[f]) (cnt g.2.2 left) from rfl,show jS (g::r) left=if cnt g.2.2 left<0 then cnt g.2.2 left else jS r (cnt g.2.2 left) from rfl]
   by_cases hc:cnt g.2.2 left<0
   . rw[if_pos hc]at h;omega
   . rw[if_neg hc]at h;rw[if_neg hc,if_neg hc];exact cntF_app r f _ h
theorem more_check{m:Md}{t:Int}(hc:zU m=0)(ht:0<=t/\t<4294967296)(hf:m.funcs.length<=1000)(hn:1<=jS m.funcs 65536):zU (vJ m t)=0:=by
 unfold zU at hc;split at hc
 . cases hc
 rename_i hf;split at hc
 . cases hc
 rename_i hm;split at hc
 . cases hc
 rename_i hs
 have a1:fewB (vJ m t)=true:=by
  replace hf:fewB m=true:=by simpa using hf
  unfold fewB few0 few1 few2 few3 few4 few5 yZ at hf ⊢;simp only[Bool.and_eq_true,decide_eq_true_eq,List.all_cons,List.all_nil,le4]at hf ⊢;obtain⟨⟨l0,l1,l2,l3,l4,l5,l6,l8,l9,lz⟩,f0,f1,f2,f3,f4,f5⟩:=hf;refine⟨⟨l0,l1,?_,l3,l4,l5,l6,l8,l9,lz⟩,f0,f1,f2,f3,?_,?_⟩
  . show((m.funcs++[(t,[],un1)]).length:Int)<=4096
    simp;omega
  . show 65536-jS (m.funcs++[(t,[],un1)]) 65536<=65536
    rw[cntF_app _ _ _ (by omega)];generalize jS m.funcs 65536=k at hn ⊢;unfold jS jS un1 cnt cnt
    dsimp only
    simp;split<;>omega
  . show(m.funcs++[(t,[],un1)]).all funFew=true
    rw[List.all_append,f5];rfl
 have a2:flatM (vJ m t)=true:=by
  replace hm:flatM m=true:=by simpa using hm
  unfold flatM at hm ⊢
  show(m.funcs++[(t,[],un1)]).all (λt=>vK t.2.2 0)=true
  rw[List.all_append,hm];rfl
 have a3:jG (vJ m t)=true:=by
  replace hs:jG m=true:=by simpa using hs
  unfold jG sh1 sh2 sh3 sh4 sh5 sh6 sh7 sh8 sh9 at hs ⊢
  have e:(vJ m t).funcs.all funS=m.funcs.all funS:=by
   show(m.funcs++[(t,[],un1)]).all funS=_
   rw[List.all_append,show[((t,[],un1):Int×List Int×Il)].all funS=true from by
    have:zN t=true:=(by unfold zN;rw[decide_eq_true ht.1,decide_eq_true ht.2];rfl)
    show(funS (t,[],un1)&&true)=true
    unfold funS;rw[this]
    show(true&&(true&&qA un1)&&true)=true
    rw[show qA un1=true by decide+kernel];rfl,Bool.and_true]
  rw[e];exact hs
 unfold zU;rw[a1,a2,a3];rfl
theorem more_idx(m:Md)(t:Int):vB (vJ m t)=vB m++[t]:=by unfold vB vJ;simp
theorem more_funcT(m:Md)(t:Int):zP (vJ m t)=zP m++[m.types.getD t.toNat ([],[])]:=by unfold zP;rw[more_idx];simp[vJ]
theorem expGo_more {m:Md} {t:Int}:∀(l:List (ByteArray×Int×Int)) (seen:List ByteArray),expGo m l seen=0->expGo (vJ m t) l seen=0
 | [],_,_=>rfl
 |x::r,seen,h=>by
   unfold expGo at h ⊢
   by_cases h1:x.1.data.toList∈seen.map (λs=>s.data.toList)
   . rw[if_pos h1]at h;cases h
   rw[if_neg h1]at h ⊢
   by_cases h2:x.2.2<yS m x.2.1
   . rw[if_pos h2]at h
     have:x.2.2<yS (vJ m t) x.2.1:=by
      have e:yS m x.2.1<=yS (vJ m t) x.2.1:=by
       unfold yS;rw[more_funcT,List.length_append]
       show _<=(if x.2.1=0 then _ else if x.2.1=1 then(m.tables.length:Int)else if x.2.1=2 then(m.mems.length:Int)else(m.globals.length:Int))
       split
       . simp;omega
       . exact Int.le_refl _
      omega
     rw[if_pos this];exact expGo_more r _ h
   . rw[if_neg h2]at h;cases h
theorem eHas_mono{n a b:Int}(h:a<=b)(k:vD n a=0):vD n b=0:=by
 unfold vD at k ⊢
 by_cases q:n<a
 . rw[if_pos (by omega)]
 . rw[if_neg q]at k;cases k
theorem more_valid{m:Md}{t:Int}(h:Vd m)(ht:0<=t/\t<(m.types.length:Int))(hf:m.funcs.length<=1000)(hn:1<=jS m.funcs 65536):Vd (vJ m t):=by
 have c:=cm_of h.c;have hck:zU (vJ m t)=0:=more_check h.c ⟨ht.1,by have:=c.l0;omega⟩ hf hn;refine⟨hck,h.types,?_,h.parts,?_,?_,?_⟩
 . unfold idxV;rw[more_idx];refine firstL_all λx hx=> ?_
   rcases List.mem_append.1 hx with hx |hx
   . exact yK h.idx x hx
   . obtain rfl:=List.mem_singleton.1 hx;unfold vD;exact if_pos ht.2
 . have he:=h.exports;unfold xB at he ⊢;obtain⟨e1,e2⟩:=xE he;rw[show(vJ m t).exports=m.exports from rfl,expGo_more _ _ e1,fst2_0];refine firstL_all λx hx=> ?_;have hs:=yK e2 x hx;have hx0:0<=x:=(by have:=c.start x hx;unfold zN at this;simp at this;exact this.1)
   unfold yV at hs ⊢
   by_cases q:x<((zP m).length:Int)
   . rw[if_pos q]at hs;rw[more_funcT,if_pos (by simp;omega)]
     have e:(zP m++[m.types.getD t.toNat ([],[])]).getD x.toNat ([],[])=(zP m).getD x.toNat ([],[]):=by rw[List.getD_eq_getElem?_getD,List.getElem?_append_left (by omega),List.getD_eq_getElem?_getD]
     rw[e];exact hs
   . rw[if_neg q]at hs;cases hs
 . have he:=h.fills;unfold yC at he ⊢;obtain⟨e1,e2⟩:=xE he;rw[show(vJ m t).datas=m.datas from rfl,show(vJ m t).mems=m.mems from rfl,e2];rw[show(vJ m t).elems=m.elems from rfl,show(vJ m t).tables=m.tables from rfl];rw[firstL_all (l:=m.elems) λx hx=> ?_,fst2_0];have hq:=yK e1 x hx;unfold eEl at hq ⊢;obtain⟨q1,q2⟩:=xE hq;obtain⟨q2,q3⟩:=xE q2;rw[q1,q2,fst2_0,fst2_0];exact firstL_all λn hn=>eHas_mono (by rw[more_funcT];simp;omega) (yK q3 n hn)
 . intro fn hfn;have ety:∀g,tyF (vJ m t) g=tyF m g:=λg=>rfl;rw[ety]
   rcases List.mem_append.1 (show fn∈m.funcs++[(t,[],un1)] from hfn)with hm |hm
   . refine body_mono (m:=m) (fs:=zP m) ⟨rfl,λi u hu=> ?_,rfl,rfl,rfl,rfl⟩ (h.bodies fn hm)
     show(zP (vJ m t))[i]? =some u
     have hu2:(zP m)[i]? =some u:=hu;rw[more_funcT,List.getElem?_append_left (List.getElem?_eq_some_iff.1 hu2).1];exact hu2
   . obtain rfl:=List.mem_singleton.1 hm;have hr:=types_r h.types;have ht2:(tyF m (t,[],un1)).2.length<=1:=xG (P:=λt=>t.2.length<=1) hr (by simp) _;unfold vQ;generalize (tyF m (t,[],un1)).2=r at ht2
     rcases r with _ |⟨a,_ |⟨b,r⟩⟩
     . exact⟨_,rfl⟩
     . exact⟨_,rfl⟩
     . simp at ht2
end Go.Proofs.YtacohbllbjgdgaaGreatDoor
namespace Go.Proofs.YtacohbllbjgdgaaGreatDoor
open Go.RowKit
theorem tmod_in(a:Int)(n:Nat)(hn:1<=n): -(n:Int)<Int.tmod a n/\Int.tmod a n<n:=by have h:=Int.natAbs_tmod a n;have h2:a.natAbs % n<n:=Nat.mod_lt _ (by omega);simp only[Int.natAbs_natCast]at h;omega
def modN (a:Int) (n:Nat):Nat:=(Int.tmod a n+n).toNat % n
theorem modN_lt(a:Int){n:Nat}(hn:1<=n):modN a n<n:=Nat.mod_lt _ (by omega)
theorem mod_any(a:Int)(n:Nat)(hn:1<=n)(hn2:n<=262144)(w:World):Calls Tryz.prog 17 #[.int .i64 a,.int .i64 (n:Int)] w λe w'=>e=.returned (.int .i64 (modN a n:Int))/\w'=w:=by
 obtain⟨r,hr⟩:∃r,r=Int.tmod a n:=⟨_,rfl⟩
 have h1:=tmod_in a n hn;rw[<-hr]at h1;obtain⟨m,hm⟩:∃m:Nat,(m:Int)=r+n:=⟨(r+n).toNat,by omega⟩
 have hw1:IntKind.i64.wrap (r+n)=(m:Int):=(by rw[<-hm];exact vU _ (by omega) (by omega))
 have h2:Int.tmod (m:Int) (n:Int)=((m % n:Nat):Int):=by rw[Int.tmod_eq_emod_of_nonneg (by omega)];rfl
 have h3:m % n<n:=Nat.mod_lt _ (by omega);have hw2:IntKind.i64.wrap ((m % n:Nat):Int)=((m % n:Nat):Int):=vU _ (by omega) (by omega);have hz:¬(n:Int)<1:=(by omega)
 have hz2:((n:Int)==0)=false:=beq_eq_false_iff_ne.2 (by omega);have hz3:(n:Int)≠0:=(by omega)
 obtain⟨k,hk⟩:∃k,k=m % n:=⟨_,rfl⟩
 have hkn:modN a n=k:=by unfold modN;rw[<-hr,<-hm,Int.toNat_natCast,hk]
 rw[hkn];rw[<-hk]at h2 h3 hw2
 have hs:IntKind.i64.wrap r=r:=by
  have hh:∀x:Int,-262144<=x->x<=262144->IntKind.i64.wrap x=x:=λx h1 h2=>by
   simp[IntKind.wrap,IntKind.bits,IntKind.signed];omega
  exact hh r (by omega) (by omega)
 replace hk:=zh hk;replace hm:=zh hm;replace hkn:=zh hkn;have hr':Int.tmod a n=r:=hr.symm;replace hr:=zh hr;go_enter Tryz.func17,Tryz.ntmps17;go_wp2_with fail;go_ret;exact⟨rfl,rfl⟩
def nop0 (r:Il):Il:=.cons 1 0 0 0 [] .nil .nil r
def qI:Il->Int->Il×Int
 |.nil,k=>(.nil,k)
 |.cons op a y n ls body els rest,k=>
   (if k=0 then nop0 (.cons op a y n ls (qI body (k-1)).1 (qI els (qI body (k-1)).2).1 (qI rest (qI els (qI body (k-1)).2).2).1)
    else .cons op a y n ls (qI body (k-1)).1 (qI els (qI body (k-1)).2).1 (qI rest (qI els (qI body (k-1)).2).2).1,
    (qI rest (qI els (qI body (k-1)).2).2).2)
def xF:Il->Int->Bool
 |.nil,_=>false
 |.cons op a y n ls body els rest,d=>((op==12||(op==13||op==14))&&decide (d<=a))||(ls.any (λk=>decide (d<=k))||(xF body (d+1)||(xF els (d+1)||xF rest d)))
theorem nops_len:∀(l:Il) (k:Int),0<(qI l k).1.len↔0<l.len
 |.nil,k=>Iff.rfl
 |.cons ..,k=>by
   unfold qI
   dsimp only
   split<;>simp[nop0,Il.len]
theorem nop_ty(E:Ev)(r:Il):tyL E (nop0 r)=tyL E r:=by
 funext s
 show(jL E 1 0 [] 0 (tyL E .nil) (tyL E .nil) s).bind (tyL E r)=_
 have:jL E 1 0 [] 0 (tyL E .nil) (tyL E .nil) s=.ok s:=by unfold jL;rw[if_neg (by decide+kernel),if_neg (by decide+kernel),if_neg (by decide+kernel),if_neg (by decide+kernel),if_neg (by decide+kernel),if_neg (by decide+kernel),if_neg (by decide+kernel)];unfold xK;rw[if_neg (by decide),if_neg (by decide),if_neg (by decide),if_neg (by decide),if_neg (by decide),if_neg (by decide)]
 rw[this];rfl
theorem tInstr_len'{E:Ev}{op a:Int}{ls:List Int}{n n':Nat}{B C:Ts->Except Int Ts}(h:0<n'↔0<n)(s:Ts):jL E op a ls n' B C s=jL E op a ls n B C s:=by unfold jL xT;simp only[h]
theorem nops_ty (E:Ev):∀(l:Il) (k:Int),tyL E (qI l k).1=tyL E l
 |.nil,k=>rfl
 |.cons op a y n ls body els rest,k=>by
   have e:tyL E (.cons op a y n ls (qI body (k-1)).1 (qI els (qI body (k-1)).2).1 (qI rest (qI els (qI body (k-1)).2).2).1)=tyL E (.cons op a y n ls body els rest):=by funext s;unfold tyL;rw[nops_ty E body,nops_ty E els,nops_ty E rest,tInstr_len' (nops_len els _)]
   unfold qI
   dsimp only
   split
   . rw[nop_ty];exact e
   . exact e
def vE (m:Md) (j:Nat) (f:Int×List Int×Il):Md:={m with funcs:=m.funcs.set j f}
theorem set_map_same {α β:Type} {g:α->β}:∀{l:List α} {j:Nat} {x y:α},l[j]? =some x->g y=g x->(l.set j y).map g=l.map g
 | [],j,x,y,h,e=>by cases h
 |z::r,0,x,y,h,e=>by
   cases h
   show g y::_=g z::_
   rw[e]
 |z::r,j+1,x,y,h,e=>by
   show g z::((r.set j y).map g)=g z::_
   rw[set_map_same (l:=r) h e]
theorem mBody_idx{m:Md}{j:Nat}{f f':Int×List Int×Il}(h:m.funcs[j]? =some f)(e:f'.1=f.1):vB (vE m j f')=vB m:=by
 unfold vB
 show _++(m.funcs.set j f').map (λt=>t.1)=_
 rw[set_map_same (g:=λt:Int×List Int×Il=>t.1) h e];rfl
theorem mBody_funcT{m:Md}{j:Nat}{f f':Int×List Int×Il}(h:m.funcs[j]? =some f)(e:f'.1=f.1):zP (vE m j f')=zP m:=by unfold zP;rw[mBody_idx h e];rfl
theorem expGo_congr {m m':Md} (h:∀k,yS m' k=yS m k):∀(l:List (ByteArray×Int×Int)) (seen:List ByteArray),expGo m' l seen=expGo m l seen
 | [],_=>rfl
 |x::r,seen=>by
   unfold expGo;rw[h,expGo_congr h r]
theorem mBody_many{m:Md}{j:Nat}{f f':Int×List Int×Il}(h:m.funcs[j]? =some f)(e:f'.1=f.1)(k:Int):yS (vE m j f') k=yS m k:=by unfold yS;rw[mBody_funcT h e];rfl
theorem mBody_exports{m:Md}{j:Nat}{f f':Int×List Int×Il}(h:m.funcs[j]? =some f)(e:f'.1=f.1):xB (vE m j f')=xB m:=by
 unfold xB;rw[show(vE m j f').exports=m.exports from rfl,show(vE m j f').start=m.start from rfl,expGo_congr (mBody_many h e)]
 have:yV (vE m j f')=yV m:=by funext n;unfold yV;rw[mBody_funcT h e]
 rw[this]
theorem mBody_head{m:Md}{j:Nat}{f f':Int×List Int×Il}(h:m.funcs[j]? =some f)(e:f'.1=f.1)(c:zU (vE m j f')=zU m):headV (vE m j f')=headV m:=by
 unfold headV;rw[c,mBody_exports h e,mBody_funcT h e]
 have:idxV (vE m j f')=idxV m:=by unfold idxV;rw[mBody_idx h e];rfl
 rw[this];rfl
theorem bodiesGo_set {m m':Md} (hf:zP m'=zP m) (he:∀t fn,vQ m' (zP m) t fn=vQ m (zP m) t fn) {f' f:Int×List Int×Il} (hff:∀t,vQ m (zP m) t f'=vQ m (zP m) t f):∀(l:List (Int×List Int×Il)) (j n:Nat),l[j]? =some f->jB m' (l.set j f') n=jB m l n
 | [],j,n,h=>by cases h
 |g::r,0,n,h=>by
   cases h
   show jB m' (f'::r) n=_
   have hr:∀(r:List (Int×List Int×Il)) (n:Nat),jB m' r n=jB m r n:=by
    intro r
    induction r with
    |nil=>intro n;rfl
    |cons g r ih=>
      intro n;unfold jB;rw[hf,he];cases vQ m (zP m) ((zP m).getD n ([],[])) g with
      |ok _=>exact ih _
      |error e=>rfl
   unfold jB;rw[hf,he,hff];cases vQ m (zP m) ((zP m).getD n ([],[])) f with
   |ok _=>exact hr _ _
   |error e=>rfl
 |g::r,j+1,n,h=>by
   show jB m' (g::r.set j f') n=_
   unfold jB;rw[hf,he];cases vQ m (zP m) ((zP m).getD n ([],[])) g with
   |ok _=>exact bodiesGo_set hf he hff r j (n+1) h
   |error e=>rfl
theorem mBody_where{m:Md}{j:Nat}{ty:Int}{lo:List Int}{b b':Il}(h:m.funcs[j]? =some (ty,lo,b))(c:zU m=0)(c':zU (vE m j (ty,lo,b'))=0)(hb:∀E,tyL E b'=tyL E b):zW (vE m j (ty,lo,b'))=zW m:=by unfold zW;rw[mBody_head (f':=(ty,lo,b')) h rfl (c'.trans c.symm)];have hg:=bodiesGo_set (m:=m) (m':=vE m j (ty,lo,b')) (f:=(ty,lo,b)) (f':=(ty,lo,b')) (mBody_funcT h rfl) (λt fn=>rfl) (λt=>by unfold vQ;rw[hb]) m.funcs j m.imports.length h;rw[show(vE m j (ty,lo,b')).funcs=m.funcs.set j (ty,lo,b') from rfl,show(vE m j (ty,lo,b')).imports=m.imports from rfl,hg]
theorem nops_where{m:Md}{j:Nat}{ty:Int}{lo:List Int}{b:Il}{k:Int}(h:m.funcs[j]? =some (ty,lo,b))(c:zU m=0)(c':zU (vE m j (ty,lo,(qI b k).1))=0):zW (vE m j (ty,lo,(qI b k).1))=zW m:=
 mBody_where h c c' λE=>nops_ty E b k
end Go.Proofs.YtacohbllbjgdgaaGreatDoor
