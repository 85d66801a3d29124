/- What a body's types are, plainly: as the program finds them. -/
import Derived.Test.YtacohbllbjgdgaaGreatDoorFa
import Derived.Test.YtacohbllbjgdgaaGreatDoorMe
set_option linter.all false
namespace Go.Proofs.YtacohbllbjgdgaaGreatDoor
open Go.RowKit
def sgV (op:Int):Int×Int×Int:=
 if op=69 then(2,0,127)else if op=80 then(2,0,126)else if 70<=op/\op<=79 then(4,op-70,127)else if 81<=op/\op<=90 then(4,op-81,126)
 else if 103<=op/\op<=105 then(1,op-103,127)else if 121<=op/\op<=123 then(1,op-121,126)else if 106<=op/\op<=120 then(3,op-106,127)else if 124<=op/\op<=138 then(3,op-124,126)
 else if op=167 then(5,0,126)else if op=172 then(5,1,127)else if op=173 then(5,2,127)else(0,0,0)
def sgN (k:Int):Nat:=if k=0 then 0 else if k=3\/k=4 then 2 else 1
def sgR (k t:Int):Int:=if k=0 then 0 else if k=1\/k=3 then t else if k=5 then(if t=126 then 127 else 126)else 127
structure Fr where
 goes:List Int
 ends:List Int
 h:Nat
 dead:Bool
structure Ts where
 st:List Int
 fs:List Fr
structure Ev where
 types:List (List Int×List Int)
 funcs:List (List Int×List Int)
 globals:List (Int×Bool)
 tables:Nat
 mems:Nat
 locals:List Int
def zK (t:Int) (s:Ts):Except Int (Int×Ts):=
 match s.fs with
 | []=>.error 0
 |f::_=>
   if s.st.length=f.h then(if f.dead=true then .ok (0,s)else .error 60)
   else match s.st with
    | []=>.error 0
    |x::r=>if t≠0/\x≠0/\x≠t then .error 60 else .ok (x,⟨r,s.fs⟩)
def yX:List Int->Ts->Except Int Ts
 | [],s=>.ok s
 |t::r,s=>(zK t s).bind λq=>yX r q.2
def qZ (l:List Int) (s:Ts):Except Int Ts:=yX l.reverse s
def zN (l:List Int) (s:Ts):Ts:=⟨l.reverse++s.st,s.fs⟩
def vC (s:Ts):Ts:=
 match s.fs with
 | []=>s
 |f::r=>⟨s.st.drop (s.st.length-f.h),{f with dead:=true}::r⟩
def fr0:Fr:=⟨[],[],0,false⟩
def xB (n:Int) (s:Ts):Except Int (List Int):=if n<(s.fs.length:Int)then .ok (s.fs.getD n.toNat fr0).goes else .error 61
def vW (t:List Int×List Int) (s:Ts):Except Int Ts:=(qZ t.1 s).bind λs=>.ok (zN t.2 s)
def zL (n:Int):List Int:=if n=0 then[]else[n]
def qW (B:Ts->Except Int Ts) (goes ends:List Int) (s:Ts):Except Int Ts:=
 (B ⟨s.st,⟨goes,ends,s.st.length,false⟩::s.fs⟩).bind λs1=>
  match s1.fs with
  | []=>.error 0
  |f::r=>(qZ f.ends s1).bind λs2=>if s2.st.length=f.h then .ok ⟨s2.st,r⟩else .error 60
def yE (op a:Int) (n:Nat) (B C:Ts->Except Int Ts) (s:Ts):Except Int Ts:=
 if op=2 then(qW B (zL a) (zL a) s).bind λs=>.ok (zN (zL a) s)
 else if op=3 then(qW B [] (zL a) s).bind λs=>.ok (zN (zL a) s)
 else(zK 127 s).bind λq=>if 0<n\/a=0 then(qW B (zL a) (zL a) q.2).bind λs=>(if 0<n then qW C (zL a) (zL a) s else .ok s).bind λs=>.ok (zN (zL a) s)else .error 60
def tAll:List Int->Ts->Except Int Unit
 | [],_=>.ok ()
 |n::r,s=>(xB n s).bind λ_=>tAll r s
def jW (g:List Int):List Int->Ts->Except Int Unit
 | [],_=>.ok ()
 |n::r,s=>(xB n s).bind λk=>if k=g then jW g r s else .error 60
def xE (op a:Int) (ls:List Int) (s:Ts):Except Int Ts:=
 (tAll ls s).bind λ_=>(xB a s).bind λg=>(if op≠12 then(zK 127 s).bind λq=>.ok q.2 else .ok s).bind λs=>
  (jW g ls s).bind λ_=>(qZ g s).bind λs=>.ok (if op=13 then zN g s else vC s)
def jJ (E:Ev) (op a:Int) (s:Ts):Except Int Ts:=
 if op=16 then(match E.funcs[a.toNat]? with |some t=>vW t s |none=>.error 61)
 else if op=35 then(match E.globals[a.toNat]? with |some g=>.ok (zN [g.1] s) |none=>.error 61)
 else if op=36 then(match E.globals[a.toNat]? with |some g=>if g.2=true then(zK g.1 s).bind λq=>.ok q.2 else .error 62 |none=>.error 61)
 else match E.locals[a.toNat]? with
  |some t=>(if op≠32 then(zK t s).bind λq=>.ok q.2 else .ok s).bind λs=>.ok (if op≠33 then zN [t] s else s)
  |none=>.error 61
def qA (op:Int):Int:=if op=41\/op=55 then 3 else if op=40\/op=52\/op=53\/op=54\/op=62 then 2 else if op=44\/op=45\/op=48\/op=49\/op=58\/op=60 then 0 else 1
def memT (op:Int):Int:=if op=40\/op=44\/op=45\/op=46\/op=47\/op=54\/op=58\/op=59 then 127 else 126
def zF (E:Ev) (op a:Int) (s:Ts):Except Int Ts:=
 if 0<E.mems then(if a<=qA op then
  (if 54<=op then(zK (memT op) s).bind λq=>.ok q.2 else .ok s).bind λs=>(zK 127 s).bind λq=>.ok (if op<54 then zN [memT op] q.2 else q.2)else .error 60)else .error 61
def tRet (s:Ts):List Int:=match s.fs.getLast? with |some f=>f.ends |none=>[]
def xZ (E:Ev) (op:Int) (s:Ts):Except Int Ts:=
 if op=0 then .ok (vC s)
 else if op=15 then(qZ (tRet s) s).bind λs=>.ok (vC s)
 else if op=26 then(zK 0 s).bind λq=>.ok q.2
 else if op=27 then(zK 127 s).bind λq=>(zK 0 q.2).bind λa=>(zK 0 a.2).bind λb=>if a.1=b.1\/a.1=0\/b.1=0 then .ok (zN [if a.1=0 then b.1 else a.1] b.2)else .error 60
 else if op=63 then(if 0<E.mems then .ok (zN [127] s)else .error 61)
 else if op=64 then(if 0<E.mems then(zK 127 s).bind λq=>.ok (zN [127] q.2)else .error 61)
 else .ok s
def yP (E:Ev) (a:Int) (s:Ts):Except Int Ts:=
 if 0<E.tables then(match E.types[a.toNat]? with |some t=>(zK 127 s).bind λq=>vW t q.2 |none=>.error 61)else .error 61
def vV (E:Ev) (op a:Int) (ls:List Int) (n:Nat) (B C:Ts->Except Int Ts) (s:Ts):Except Int Ts:=
 if(sgV op).1≠0 then(qZ (List.replicate (sgN (sgV op).1) (sgV op).2.2) s).bind λs=>.ok (zN [sgR (sgV op).1 (sgV op).2.2] s)
 else if zG op=2\/zG op=3 then yE op a n B C s
 else if zG op=4\/zG op=5 then xE op a ls s
 else if zG op=6 then jJ E op a s
 else if zG op=7 then yP E a s
 else if zG op=8 then zF E op a s
 else if zG op=9 then .ok (zN [if op=65 then 127 else 126] s)
 else xZ E op s
def tyL (E:Ev):Il->Ts->Except Int Ts
 |.nil,s=>.ok s
 |.cons op a _ _ ls body els rest,s=>(vV E op a ls els.len (tyL E body) (tyL E els) s).bind (tyL E rest)
structure Rs where
 w:Int
 st:List Int
 fs:List Fr
def zQ (e:Int) (s:Rs):Rs:=if s.w=0 then{s with w:=e}else s
def zW (l:List Int) (s:Rs):Rs:=if s.w=0 then{s with st:=l.reverse++s.st}else s
def zP (t:Int) (s:Rs):Int×Rs:=
 if s.w=0 then
  match s.fs with
  | []=>(0,s)
  |f::_=>
    if s.st.length=f.h then(0,if f.dead=true then s else zQ 60 s)
    else match s.st with
     | []=>(0,s)
     |x::r=>(x,if t≠0/\x≠0/\x≠t then zQ 60 {s with st:=r}else{s with st:=r})
 else(0,s)
def rPops:List Int->Rs->Rs
 | [],s=>s
 |t::r,s=>rPops r (zP t s).2
def jC (l:List Int) (s:Rs):Rs:=rPops l.reverse s
def jP (s:Rs):Rs:=
 if s.w=0 then match s.fs with
  | []=>s
  |f::r=>{s with st:=s.st.drop (s.st.length-f.h),fs:={f with dead:=true}::r}
 else s
def qT (n:Int) (s:Rs):Prop:=0<=n/\n<(s.fs.length:Int)
instance (n:Int) (s:Rs):Decidable (qT n s):=by unfold qT;infer_instance
def qP (n:Int) (s:Rs):List Int:=(s.fs.getD n.toNat fr0).goes
def zT (B:Rs->Rs) (goes ends:List Int) (s:Rs):Rs:=
 if s.w=0 then
  let s2:=jC ends (B {s with fs:=⟨goes,ends,s.st.length,false⟩::s.fs})
  let s3:=if s2.w=0/\s2.st.length≠(s2.fs.headD fr0).h then zQ 60 s2 else s2
  {s3 with fs:=s3.fs.tail}
 else s
def qQ (E:Ev) (op a:Int) (s:Rs):Rs:=
 if 35<=op then match E.globals[a.toNat]? with
  |none=>zQ 61 s
  |some g=>if op=35 then zW [g.1] s else(zP g.1 (if g.2=true then s else zQ 62 s)).2
 else match E.locals[a.toNat]? with
  |none=>zQ 61 s
  |some t=>
    let s:=if op≠32 then(zP t s).2 else s
    if op≠33 then zW [t] s else s
def wideN (op:Int):Int:=if op=40\/op=54 then 4 else if op=41\/op=55 then 8 else if op=44\/op=45\/op=58 then 1 else if op=46\/op=47\/op=59 then 2 else if op=48\/op=49\/op=60 then 1 else if op=50\/op=51\/op=61 then 2 else 4
def wideT (op:Int):Int:=if op=40\/op=54 then 127 else if op=41\/op=55 then 126 else if op=44\/op=45\/op=58 then 127 else if op=46\/op=47\/op=59 then 127 else 126
def tooWide (op a:Int):Prop:=3<a\/wideN op<2^a.toNat
instance (op a:Int):Decidable (tooWide op a):=by unfold tooWide;infer_instance
def jE (E:Ev) (op a:Int) (s:Rs):Rs:=
 if E.mems=0 then zQ 61 s
 else if op=63 then zW [127] s
 else if op=64 then zW [127] (zP 127 s).2
 else
  let s:=if tooWide op a then zQ 60 s else s
  if 54<=op then(zP 127 (zP (wideT op) s).2).2 else zW [wideT op] (zP 127 s).2
def yC:List Int->Rs->Bool×Rs
 | [],s=>(true,s)
 |n::r,s=>let q:=yC r (if qT n s then s else zQ 61 s);(decide (qT n s)&&q.1,q.2)
def yO (g:List Int):List Int->Rs->Rs
 | [],s=>s
 |n::r,s=>yO g r (if qP n s=g then s else zQ 60 s)
def rTable (a:Int) (ls:List Int) (s:Rs):Rs:=
 let q:=yC (a::ls) s
 if q.1=true then jP (jC (qP a q.2) (yO (qP a q.2) ls (zP 127 q.2).2))else q.2
def rCall (t:List Int×List Int) (s:Rs):Rs:=zW t.2 (jC t.1 s)
def rRet (s:Rs):List Int:=match s.fs.getLast? with |some f=>f.ends |none=>[]
def vQ (E:Ev) (op a:Int) (ls:List Int) (n:Nat) (B C:Rs->Rs) (s:Rs):Rs:=
 if op=0 then jP s
 else if op=1 then s
 else if op=2\/op=3 then zW (zL a) (zT B (if op=3 then[]else zL a) (zL a) s)
 else if op=4 then
  let s:=(zP 127 s).2
  let s:=if n=0/\0<(zL a).length then zQ 60 s else s
  let s:=zT B (zL a) (zL a) s
  let s:=if 0<n then zT C (zL a) (zL a) s else s
  zW (zL a) s
 else if op=12\/op=13 then
  if qT a s then(if op=13 then let g:=qP a s;zW g (jC g (zP 127 s).2)else jP (jC (qP a s) s))else zQ 61 s
 else if op=14 then rTable a ls s
 else if op=15 then jP (jC (rRet s) s)
 else if op=16 then match E.funcs[a.toNat]? with |some t=>rCall t s |none=>zQ 61 s
 else if op=17 then(if E.tables=0 then zQ 61 s else match E.types[a.toNat]? with |some t=>rCall t (zP 127 s).2 |none=>zQ 61 s)
 else if op=26 then(zP 0 s).2
 else if op=27 then
  let s:=(zP 127 s).2
  let x:=zP 0 s
  let y:=zP 0 x.2
  let s:=if x.1≠0/\y.1≠0/\x.1≠y.1 then zQ 60 y.2 else y.2
  zW [max x.1 y.1] s
 else if op=65 then zW [127] s
 else if op=66 then zW [126] s
 else if zG op=6 then qQ E op a s
 else if zG op=8\/op=63\/op=64 then jE E op a s
 else zW [sgR (sgV op).1 (sgV op).2.2] (rPops (List.replicate (sgN (sgV op).1) (sgV op).2.2) s)
def ryL (E:Ev):Il->Rs->Rs
 |.nil,s=>s
 |.cons op a _ _ ls body els rest,s=>if s.w=0 then ryL E rest (vQ E op a ls els.len (ryL E body) (ryL E els) s)else s
def ok01 (t:Int):Prop:=t=0\/t=126\/t=127
def tyo (t:Int):Prop:=t=126\/t=127
theorem tyo.ok{t:Int}(h:tyo t):ok01 t:=by unfold tyo at h;unfold ok01;omega
structure Wf (s:Ts):Prop where
 fs:∃f r,s.fs=f::r/\f.h<=s.st.length
 st:∀t∈s.st,ok01 t
 ty:∀f∈s.fs,(∀t∈f.goes,tyo t)/\(∀t∈f.ends,tyo t)
def Kf (s s':Ts):Prop:=∃f f' r,s.fs=f::r/\s'.fs=f'::r/\f'.goes=f.goes/\f'.ends=f.ends/\f'.h=f.h
theorem Kf.refl{s:Ts}(h:Wf s):Kf s s:=by obtain⟨f,r,e,_⟩:=h.fs;exact⟨f,f,r,e,e,rfl,rfl,rfl⟩
theorem Kf.trans{a b c:Ts}(h:Kf a b)(k:Kf b c):Kf a c:=by obtain⟨f,f',r,e1,e2,h1,h2,h3⟩:=h;obtain⟨g,g',q,e3,e4,k1,k2,k3⟩:=k;rw[e2]at e3;cases e3;exact⟨f,g',r,e1,e4,k1.trans h1,k2.trans h2,k3.trans h3⟩
def up (s:Ts):Rs:=⟨0,s.st,s.fs⟩
def Sm (s:Ts) (e:Except Int Ts) (r:Rs):Prop:=
 match e with
 |.ok t=>Wf t/\Kf s t/\r=up t
 |.error n=>n≠0/\r.w=n
def Stay (g:Rs->Rs):Prop:=∀s,s.w≠0->(g s).w=s.w
theorem Sm.ok{s t:Ts}(h:Wf t)(k:Kf s t):Sm s (.ok t) (up t):=⟨h,k,rfl⟩
theorem Sm.bind{s:Ts}{e:Except Int Ts}{r:Rs}{k:Ts->Except Int Ts}{g:Rs->Rs}(h:Sm s e r)(hk:∀t,Wf t->Kf s t->Sm t (k t) (g (up t)))(hg:Stay g):Sm s (e.bind k) (g r):=by
 cases e with
 |error n=>obtain⟨h1,h2⟩:=h;exact⟨h1,(hg r (by rw[h2];exact h1)).trans h2⟩
 |ok t=>
   obtain⟨h1,h2,rfl⟩:=h;have:=hk t h1 h2
   show Sm s (k t) (g (up t))
   cases hkt:k t with
   |error n=>rw[hkt]at this;exact this
   |ok u=>rw[hkt]at this;exact⟨this.1,h2.trans this.2.1,this.2.2⟩
theorem bad_w{e:Int}(he:e≠0){s:Rs}(h:s.w=0):(zQ e s).w=e:=by unfold zQ;rw[if_pos h]
theorem bad_st(e:Int):Stay (zQ e):=λs h=>by unfold zQ;rw[if_neg h]
theorem jR(l:List Int):Stay (zW l):=λs h=>by unfold zW;rw[if_neg h]
theorem pop_st(t:Int):Stay (λs=>(zP t s).2):=λs h=>by
 show(zP t s).2.w=s.w
 unfold zP;rw[if_neg h]
theorem pop_0{t:Int}{s:Rs}(h:s.w≠0):zP t s=(0,s):=by unfold zP;rw[if_neg h]
theorem Stay.comp{f g:Rs->Rs}(hf:Stay f)(hg:Stay g):Stay (λs=>g (f s)):=λs h=>by
 have h1:=hf s h;exact(hg (f s) (by rw[h1];exact h)).trans h1
theorem pops_st:∀l:List Int,Stay (rPops l)
 | []=>λs h=>rfl
 |t::r=>(pop_st t).comp (pops_st r)
theorem popL_st(l:List Int):Stay (jC l):=pops_st _
theorem dead_st:Stay jP:=λs h=>by unfold jP;rw[if_neg h]
theorem block_st(B:Rs->Rs)(g e:List Int):Stay (zT B g e):=λs h=>by unfold zT;rw[if_neg h]
theorem xR{s:Ts}(h:Wf s){l:List Int}(hl:∀t∈l,ok01 t):Sm s (.ok (zN l s)) (zW l (up s)):=by
 have e:zW l (up s)=up (zN l s):=(by unfold zW up zN;rfl)
 rw[e];obtain⟨f,r,e1,e2⟩:=h.fs;refine .ok ⟨⟨f,r,e1,by unfold zN;rw[List.length_append];omega⟩,λt ht=> ?_,h.ty⟩ ⟨f,f,r,e1,e1,rfl,rfl,rfl⟩;unfold zN at ht
 rcases List.mem_append.1 ht with ht |ht
 . exact hl t (List.mem_reverse.1 ht)
 . exact h.st t ht
theorem pop_sm {s:Ts} (h:Wf s) (t:Int):match zK t s with |.ok q=>Wf q.2/\Kf s q.2/\ok01 q.1/\zP t (up s)=(q.1,up q.2) |.error n=>n≠0/\(zP t (up s)).2.w=n:=by
 obtain⟨f,r,e1,e2⟩:=h.fs;have hk:=Kf.refl h
 have ha:zP t (up s)=(if s.st.length=f.h then(0,if f.dead=true then up s else zQ 60 (up s))else match s.st with | []=>(0,up s) |x::q=>(x,if t≠0/\x≠0/\x≠t then zQ 60 ⟨0,q,f::r⟩else⟨0,q,f::r⟩)):=by unfold zP;rw[if_pos (show(up s).w=0 from rfl),show(up s).fs=f::r from e1];rfl
 have hb:zK t s=(if s.st.length=f.h then(if f.dead=true then .ok (0,s)else .error 60)else match s.st with | []=>.error 0 |x::q=>if t≠0/\x≠0/\x≠t then .error 60 else .ok (x,⟨q,s.fs⟩)):=by unfold zK;rw[e1]<;>rfl
 rw[ha,hb]
 by_cases h1:s.st.length=f.h
 . rw[if_pos h1,if_pos h1]
   by_cases h2:f.dead=true
   . rw[if_pos h2,if_pos h2];exact⟨h,hk,.inl rfl,rfl⟩
   . rw[if_neg h2,if_neg h2];exact⟨by decide,bad_w (by decide) rfl⟩
 . rw[if_neg h1,if_neg h1];cases hst:s.st with
   |nil=>rw[hst]at h1 e2;simp at h1 e2;omega
   |cons x q=>
     dsimp only
     have hx:=h.st x (by rw[hst];exact List.mem_cons_self)
     by_cases h3:t≠0/\x≠0/\x≠t
     . rw[if_pos h3,if_pos h3];exact⟨by decide,bad_w (by decide) rfl⟩
     . rw[if_neg h3,if_neg h3];rw[hst]at h1 e2;rw[List.length_cons]at h1 e2;exact⟨⟨⟨f,r,e1,by show f.h<=q.length;omega⟩,λu hu=>h.st u (by rw[hst];exact List.mem_cons_of_mem _ hu),h.ty⟩,⟨f,f,r,e1,e1,rfl,rfl,rfl⟩,hx,by rw[<-e1];rfl⟩
theorem pop1_sm{s:Ts}(h:Wf s)(t:Int):Sm s ((zK t s).bind λq=>.ok q.2) (zP t (up s)).2:=by
 have:=pop_sm h t;cases hp:zK t s with
 |error n=>rw[hp]at this;exact this
 |ok q=>rw[hp]at this;obtain⟨h1,h2,_,h3⟩:=this;rw[h3];exact⟨h1,h2,rfl⟩
theorem popk_sm{s:Ts}(h:Wf s)(t:Int){k:Int×Ts->Except Int Ts}{g:Rs->Rs}(hk:∀q:Int×Ts,Wf q.2->Kf s q.2->Sm q.2 (k q) (g (up q.2)))(hg:Stay g):Sm s ((zK t s).bind k) (g (zP t (up s)).2):=by
 have:=pop_sm h t;cases hp:zK t s with
 |error n=>rw[hp]at this;exact⟨this.1,(hg _ (by rw[this.2];exact this.1)).trans this.2⟩
 |ok q=>
   rw[hp]at this;obtain⟨h1,h2,_,h3⟩:=this;rw[h3];have:=hk q h1 h2
   show Sm s (k q) _
   cases hkt:k q with
   |error n=>rw[hkt]at this;exact this
   |ok u=>rw[hkt]at this;exact⟨this.1,h2.trans this.2.1,this.2.2⟩
theorem pops_sm:∀(l:List Int) {s:Ts},Wf s->Sm s (yX l s) (rPops l (up s))
 | [],s,h=>.ok h (.refl h)
 |t::r,s,h=>popk_sm (g:=rPops r) h t (λq h1 _=>pops_sm r h1) (pops_st r)
theorem popL_sm{s:Ts}(h:Wf s)(l:List Int):Sm s (qZ l s) (jC l (up s)):=pops_sm _ h
theorem dies_sm{s:Ts}(h:Wf s):Sm s (.ok (vC s)) (jP (up s)):=by
 obtain⟨f,r,e1,e2⟩:=h.fs;have hd:vC s=⟨s.st.drop (s.st.length-f.h),{f with dead:=true}::r⟩:=(by unfold vC;rw[e1])
 have e:jP (up s)=up (vC s):=by rw[hd];unfold jP;rw[if_pos (show(up s).w=0 from rfl),show(up s).fs=f::r from e1];rfl
 rw[e];refine .ok ?_ ?_
 . rw[hd];refine⟨⟨_,r,rfl,by show f.h<=(s.st.drop _).length;rw[List.length_drop];omega⟩,λt ht=>h.st t (List.mem_of_mem_drop ht),λg hg=> ?_⟩
   rcases List.mem_cons.1 hg with rfl |hg
   . exact h.ty f (by rw[e1];exact List.mem_cons_self)
   . exact h.ty g (by rw[e1];exact List.mem_cons_of_mem _ hg)
 . rw[hd];exact⟨f,_,r,e1,rfl,rfl,rfl,rfl⟩
theorem fs_at{s:Ts}(h:Wf s){n:Int}(h0:0<=n)(h1:n<(s.fs.length:Int)):∃f∈s.fs,s.fs.getD n.toNat fr0=f:=by
 have hl:n.toNat<s.fs.length:=(by omega)
 exact⟨s.fs[n.toNat],List.getElem_mem hl,by rw[List.getD_eq_getElem?_getD,List.getElem?_eq_getElem hl];rfl⟩
def BOk (B:Ts->Except Int Ts) (C:Rs->Rs):Prop:=∀s,Wf s->Sm s (B s) (C (up s))
theorem block_sm{s:Ts}(h:Wf s){B:Ts->Except Int Ts}{C:Rs->Rs}(hB:BOk B C){goes ends:List Int}(hg:∀t∈goes,tyo t)(he:∀t∈ends,tyo t):Sm s (qW B goes ends s) (zT C goes ends (up s)):=by
 have hin:Wf ⟨s.st,⟨goes,ends,s.st.length,false⟩::s.fs⟩:=⟨⟨_,_,rfl,Nat.le_refl _⟩,h.st,λf hf=>by
  rcases List.mem_cons.1 hf with rfl |hf
  . exact⟨hg,he⟩
  . exact h.ty f hf⟩
 have h1:=hB _ hin;unfold qW zT;rw[if_pos (show(up s).w=0 from rfl)];have hup:({up s with fs:=⟨goes,ends,(up s).st.length,false⟩::(up s).fs}:Rs)=up ⟨s.st,⟨goes,ends,s.st.length,false⟩::s.fs⟩:=rfl;rw[hup]
 have hst:∀r:Rs,r.w≠0->∀x:Rs,x=(let s2:=jC ends r;let s3:=if s2.w=0/\s2.st.length≠(s2.fs.headD fr0).h then zQ 60 s2 else s2;{s3 with fs:=s3.fs.tail})->x.w=r.w:=λr hr x hx=>by
  have e:=popL_st ends r hr;rw[hx]
  dsimp only
  rw[if_neg (by rw[e];exactλq=>hr q.1)];exact e
 cases hb:B ⟨s.st,⟨goes,ends,s.st.length,false⟩::s.fs⟩with
 |error n=>rw[hb]at h1;exact⟨h1.1,(hst _ (by rw[h1.2];exact h1.1) _ rfl).trans h1.2⟩
 |ok s1=>
   rw[hb]at h1;obtain⟨w1,k1,e1⟩:=h1;rw[e1];obtain⟨f,f',r,x1,x2,x3,x4,x5⟩:=k1;cases x1
   show Sm s (match s1.fs with | []=>_ |f::r=>_) _
   rw[x2]
   dsimp only
   rw[show f'.ends=ends from x4];have hp:=popL_sm w1 ends;cases hq:qZ ends s1 with
   |error n=>rw[hq]at hp;refine⟨hp.1,?_⟩;rw[if_neg (by rw[hp.2];exactλq=>hp.1 q.1)];exact hp.2
   |ok s2=>
     rw[hq]at hp;obtain⟨w2,k2,e2⟩:=hp;rw[e2];obtain⟨g,g',q,y1,y2,y3,y4,y5⟩:=k2;rw[x2]at y1;cases y1
     have hh:((up s2).fs.headD fr0).h=s.st.length:=by
      show(s2.fs.headD fr0).h=_
      rw[y2];exact y5.trans x5
     rw[show f'.h=s.st.length from x5,hh]
     show Sm s (if s2.st.length=s.st.length then _ else _) _
     by_cases hl:s2.st.length=s.st.length
     . rw[if_pos hl,if_neg (λq=>q.2 hl)];obtain⟨f0,r0,z1,z2⟩:=h.fs;have hfs:(up s2).fs.tail=s.fs:=(by show s2.fs.tail=_;rw[y2];rfl)
       rw[hfs];exact⟨⟨⟨f0,r0,z1,by show f0.h<=s2.st.length;omega⟩,w2.st,h.ty⟩,⟨f0,f0,r0,z1,z1,rfl,rfl,rfl⟩,rfl⟩
     . rw[if_neg hl,if_pos ⟨rfl,hl⟩];exact⟨by decide,bad_w (by decide) rfl⟩
structure EvOk (E:Ev):Prop where
 types:∀t∈E.types,(∀x∈t.1,tyo x)/\∀x∈t.2,tyo x
 funcs:∀t∈E.funcs,(∀x∈t.1,tyo x)/\∀x∈t.2,tyo x
 globals:∀t∈E.globals,tyo t.1
 locals:∀t∈E.locals,tyo t
theorem calls_sm{s:Ts}(h:Wf s){t:List Int×List Int}(ht:∀x∈t.2,tyo x):Sm s (vW t s) (rCall t (up s)):=
 (popL_sm h t.1).bind (g:=zW t.2) (λu w _=>xR w λx hx=>(ht x hx).ok) (jR _)
theorem call_st(t:List Int×List Int):Stay (rCall t):=(popL_st t.1).comp (jR t.2)
theorem bad_sm{s:Ts}{e:Int}(he:e≠0):Sm s (.error e) (zQ e (up s)):=⟨he,bad_w he rfl⟩
theorem res_ok{a:Int}(h:a=0\/a=126\/a=127):∀t∈zL a,tyo t:=λt ht=>by
 unfold zL at ht;split at ht
 . cases ht
 . obtain rfl:=List.mem_singleton.1 ht;unfold tyo;omega
theorem like_st (g:List Int):∀ls:List Int,Stay (yO g ls)
 | []=>λs h=>rfl
 |n::r=>λs h=>by
   unfold yO
   have e:(if qP n s=g then s else zQ 60 s).w=s.w:=by
    split
    . rfl
    . exact bad_st 60 s h
   exact(like_st g r _ (by rw[e];exact h)).trans e
theorem goes_ok{s:Ts}{n:Int}(h0:0<=n)(h:n<(s.fs.length:Int)):xB n s=.ok (qP n (up s)):=by unfold xB;rw[if_pos h];rfl
theorem goes_no{s:Ts}{n:Int}(h:¬n<(s.fs.length:Int)):xB n s=.error 61:=by unfold xB;rw[if_neg h]
theorem lab_ok{s:Ts}(w:Wf s){n:Int}(h0:0<=n)(h:n<(s.fs.length:Int)):∀t∈qP n (up s),tyo t:=by
 obtain⟨f,hf,e⟩:=fs_at w h0 h
 show∀t∈(s.fs.getD n.toNat fr0).goes,tyo t
 rw[e];exact(w.ty f hf).1
theorem kf_len{s t:Ts}(k:Kf s t):t.fs.length=s.fs.length:=by obtain⟨f,f',r,e1,e2,_⟩:=k;rw[e1,e2];rfl
theorem like_sm (g:List Int):∀(ls:List Int) {s:Ts},(∀n∈ls,0<=n/\n<(s.fs.length:Int))->match jW g ls s with |.ok _=>yO g ls (up s)=up s |.error n=>n≠0/\(yO g ls (up s)).w=n
 | [],s,_=>rfl
 |n::r,s,h=>by
   have hn:=h n List.mem_cons_self;unfold jW yO;rw[goes_ok hn.1 hn.2]
   show match (if qP n (up s)=g then jW g r s else .error 60)with |.ok _=>_ |.error n=>_
   by_cases e:qP n (up s)=g
   . rw[if_pos e,if_pos e];exact like_sm g r (λm hm=>h m (List.mem_cons_of_mem _ hm))
   . rw[if_neg e,if_neg e];have hw:(zQ 60 (up s)).w=60:=bad_w (by decide) rfl;exact⟨by decide,(like_st g r _ (by rw[hw];decide)).trans hw⟩
theorem oks_st:∀(l:List Int),Stay (λs=>(yC l s).2)
 | []=>λs h=>rfl
 |n::r=>λs h=>by
   show(yC r (if qT n s then s else zQ 61 s)).2.w=s.w
   have e:(if qT n s then s else zQ 61 s).w=s.w:=by
    split
    . rfl
    . exact bad_st 61 s h
   exact(oks_st r _ (by rw[e];exact h)).trans e
theorem oks_all:∀(l:List Int) {s:Rs},(∀n∈l,qT n s)->yC l s=(true,s)
 | [],s,_=>rfl
 |n::r,s,h=>by
   unfold yC;have hn:=h n List.mem_cons_self;simp only[if_pos hn,oks_all r (λm hm=>h m (List.mem_cons_of_mem _ hm)),decide_eq_true hn,Bool.and_true]
theorem oks_bad:∀(l:List Int) {s:Rs},s.w=0->(∃n∈l,¬qT n s)->(yC l s).1=false/\(yC l s).2.w=61
 | [],s,_,h=>by obtain⟨n,hn,_⟩:=h;cases hn
 |n::r,s,h0,h=>by
   by_cases hn:qT n s
   . have h':∃m∈r,¬qT m s:=by
      obtain⟨m,hm,hb⟩:=h
      rcases List.mem_cons.1 hm with rfl |hm
      . exact absurd hn hb
      . exact⟨m,hm,hb⟩
     have ih:=oks_bad r h0 h';unfold yC;simp only[if_pos hn,ih.1,Bool.and_false];exact⟨trivial,ih.2⟩
   . have hw:(zQ 61 s).w=61:=bad_w (by decide) h0;unfold yC;simp only[if_neg hn,decide_eq_false hn,Bool.false_and];exact⟨trivial,(oks_st r _ (by rw[hw];decide)).trans hw⟩
theorem all_has:∀(ls:List Int) {s:Ts},(∀n∈ls,0<=n)->match tAll ls s with |.ok _=>∀n∈ls,qT n (up s) |.error e=>e=61/\∃n∈ls,¬qT n (up s)
 | [],s,_=>λn h=>by cases h
 |n::r,s,h=>by
   have h0:=h n List.mem_cons_self;unfold tAll
   by_cases hn:n<(s.fs.length:Int)
   . rw[goes_ok h0 hn];have ih:=all_has r (s:=s) (λm hm=>h m (List.mem_cons_of_mem _ hm))
     show match tAll r s with |.ok _=>_ |.error e=>_
     cases ha:tAll r s with
     |ok u=>
       rw[ha]at ih;intro m hm
       rcases List.mem_cons.1 hm with rfl |hm
       . exact⟨h0,hn⟩
       . exact ih m hm
     |error e=>rw[ha]at ih;obtain⟨h1,m,hm,hb⟩:=ih;exact⟨h1,m,List.mem_cons_of_mem _ hm,hb⟩
   . rw[goes_no hn];exact⟨rfl,n,List.mem_cons_self,λq=>hn q.2⟩
theorem table_sm{s:Ts}(w:Wf s){a:Int}{ls:List Int}(ha:0<=a)(hl:∀n∈ls,0<=n):Sm s (xE 14 a ls s) (rTable a ls (up s)):=by
 unfold xE rTable;have h1:=all_has ls (s:=s) hl;cases hA:tAll ls s with
 |error e=>rw[hA]at h1;obtain⟨rfl,m,hm,hb⟩:=h1;obtain⟨q1,q2⟩:=oks_bad (a::ls) (s:=up s) rfl ⟨m,List.mem_cons_of_mem _ hm,hb⟩;simp only[q1,Bool.false_eq_true,if_false];exact⟨by decide,q2⟩
 |ok u=>
   rw[hA]at h1
   show Sm s ((xB a s).bind _) _
   by_cases hn:a<(s.fs.length:Int)
   . rw[goes_ok ha hn,oks_all (a::ls) (λm hm=>by
      rcases List.mem_cons.1 hm with rfl |hm
      . exact⟨ha,hn⟩
      . exact h1 m hm)]
     simp only[if_true]
     show Sm s ((if(14:Int)≠12 then(zK 127 s).bind λq=>.ok q.2 else .ok s).bind _) _
     rw[if_pos (by decide)];have hg:=lab_ok w ha hn;obtain⟨g,hge⟩:∃g,g=qP a (up s):=⟨_,rfl⟩
     rw[<-hge]at hg ⊢;refine(pop1_sm w 127).bind (g:=λs=>jP (jC g (yO g ls s))) (λt wt kt=> ?_) (((like_st g ls).comp (popL_st g)).comp dead_st);have hl2:=like_sm g ls (s:=t) (λn hm=>by have:=h1 n hm;rw[kf_len kt];exact this);cases hL:jW g ls t with
     |error e=>rw[hL]at hl2;exact⟨hl2.1,(((popL_st g).comp dead_st) _ (by rw[hl2.2];exact hl2.1)).trans hl2.2⟩
     |ok u=>
       rw[hL]at hl2
       show Sm t ((qZ g t).bind _) _
       rw[hl2];exact(popL_sm wt g).bind (g:=jP) (λv wv _=>dies_sm wv) dead_st
   . rw[goes_no hn];obtain⟨q1,q2⟩:=oks_bad (a::ls) (s:=up s) rfl ⟨a,List.mem_cons_self,λq=>hn q.2⟩;simp only[q1,Bool.false_eq_true,if_false];exact⟨by decide,q2⟩
theorem br_sm{s:Ts}(w:Wf s){a:Int}(ha:0<=a):Sm s (xE 12 a [] s) (if qT a (up s)then jP (jC (qP a (up s)) (up s))else zQ 61 (up s)):=by
 unfold xE tAll
 show Sm s ((xB a s).bind _) _
 by_cases hn:a<(s.fs.length:Int)
 . rw[goes_ok ha hn,if_pos (show qT a (up s) from⟨ha,hn⟩)];exact(popL_sm w _).bind (g:=jP) (λv wv _=>dies_sm wv) dead_st
 . rw[goes_no hn,if_neg (show¬qT a (up s) fromλq=>hn q.2)];exact bad_sm (by decide)
theorem brif_sm{s:Ts}(w:Wf s){a:Int}(ha:0<=a):Sm s (xE 13 a [] s) (if qT a (up s)then zW (qP a (up s)) (jC (qP a (up s)) (zP 127 (up s)).2)else zQ 61 (up s)):=by
 unfold xE tAll
 show Sm s ((xB a s).bind _) _
 by_cases hn:a<(s.fs.length:Int)
 . rw[goes_ok ha hn,if_pos (show qT a (up s) from⟨ha,hn⟩)];have hg:=lab_ok w ha hn;obtain⟨g,hge⟩:∃g,g=qP a (up s):=⟨_,rfl⟩
   rw[<-hge]at hg ⊢
   show Sm s (((zK 127 s).bind λq=>.ok q.2).bind _) _
   refine(pop1_sm w 127).bind (g:=λs=>zW g (jC g s)) (λt wt kt=> ?_) ((popL_st g).comp (jR g));exact(popL_sm wt g).bind (g:=zW g) (λv wv _=>xR wv λx hx=>(hg x hx).ok) (jR g)
 . rw[goes_no hn,if_neg (show¬qT a (up s) fromλq=>hn q.2)];exact bad_sm (by decide)
theorem blocks2_sm{s:Ts}(w:Wf s){B C:Ts->Except Int Ts}{B' C':Rs->Rs}(hB:BOk B B'){a:Int}(ha:a=0\/a=126\/a=127){goes:List Int}(hg:∀t∈goes,tyo t):Sm s ((qW B goes (zL a) s).bind λs=>.ok (zN (zL a) s)) (zW (zL a) (zT B' goes (zL a) (up s))):=
 (block_sm w hB hg (res_ok ha)).bind (g:=zW (zL a)) (λt wt _=>xR wt λx hx=>(res_ok ha x hx).ok) (jR _)
theorem if_sm{s:Ts}(w:Wf s){B C:Ts->Except Int Ts}{B' C':Rs->Rs}(hB:BOk B B')(hC:BOk C C'){a:Int}(ha:a=0\/a=126\/a=127){n:Nat}:Sm s (yE 4 a n B C s) (zW (zL a) (if 0<n then zT C' (zL a) (zL a) (zT B' (zL a) (zL a) (if n=0/\0<(zL a).length then zQ 60 (zP 127 (up s)).2 else(zP 127 (up s)).2))else zT B' (zL a) (zL a) (if n=0/\0<(zL a).length then zQ 60 (zP 127 (up s)).2 else(zP 127 (up s)).2))):=by
 unfold yE;rw[if_neg (by decide),if_neg (by decide)]
 have hst:Stay (λs:Rs=>zW (zL a) (if 0<n then zT C' (zL a) (zL a) (zT B' (zL a) (zL a) (if n=0/\0<(zL a).length then zQ 60 s else s))else zT B' (zL a) (zL a) (if n=0/\0<(zL a).length then zQ 60 s else s))):=by
  have h1:Stay (λs:Rs=>if n=0/\0<(zL a).length then zQ 60 s else s):=by
   by_cases h:n=0/\0<(zL a).length
   . simp only[if_pos h];exact bad_st 60
   . simp only[if_neg h];exactλs hs=>rfl
  by_cases hn:0<n
  . simp only[if_pos hn];exact((h1.comp (block_st B' _ _)).comp (block_st C' _ _)).comp (jR _)
  . simp only[if_neg hn];exact(h1.comp (block_st B' _ _)).comp (jR _)
 refine popk_sm w 127 (g:=λs:Rs=>zW (zL a) (if 0<n then zT C' (zL a) (zL a) (zT B' (zL a) (zL a) (if n=0/\0<(zL a).length then zQ 60 s else s))else zT B' (zL a) (zL a) (if n=0/\0<(zL a).length then zQ 60 s else s))) (λq wq _=> ?_) hst;have hp:=res_ok ha
 by_cases hn:0<n
 . rw[if_pos (.inl hn)];simp only[if_pos hn,if_neg (show¬(n=0/\0<(zL a).length) by omega)];refine(block_sm wq hB hp hp).bind (g:=λs=>zW (zL a) (zT C' (zL a) (zL a) s)) (λt wt _=> ?_) ((block_st _ _ _).comp (jR _));exact(block_sm wt hC hp hp).bind (g:=zW (zL a)) (λu wu _=>xR wu λx hx=>(hp x hx).ok) (jR _)
 . by_cases h0:a=0
   . have hr:¬(n=0/\0<(zL a).length):=(by rw[h0];simp[zL])
     rw[if_pos (.inr h0)];simp only[if_neg hn,if_neg hr];refine(block_sm wq hB hp hp).bind (g:=zW (zL a)) (λt wt _=> ?_) (jR _);exact xR wt λx hx=>(hp x hx).ok
   . have hr:n=0/\0<(zL a).length:=⟨by omega,by unfold zL;rw[if_neg h0];simp⟩
     rw[if_neg (by omega)];simp only[if_neg hn,if_pos hr];have hw:(zQ 60 (up q.2)).w=60:=bad_w (by decide) rfl;exact⟨by decide,(((block_st B' _ _).comp (jR _)) _ (by rw[hw];decide)).trans hw⟩
end Go.Proofs.YtacohbllbjgdgaaGreatDoor
