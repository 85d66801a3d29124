/- How far the reference's checker of a body grows, plainly. -/
import Derived.Test.YtacohbllbjgdgaaGreatDoorXi
import Derived.Test.YtacohbllbjgdgaaGreatDoorXc
import Derived.Deep.RegionWith
import Derived.Test.YtacohbllbjgdgaaGreatDoorOa
import Derived.Test.YtacohbllbjgdgaaGreatDoorMh
set_option linter.all false
set_option maxRecDepth 100000
set_option maxHeartbeats 4000000
namespace Go.Proofs.YtacohbllbjgdgaaGreatDoor
open Go.RowKit
def hR (s:Rs):Nat:=(s.fs.headD fr0).h
structure RWf (s:Rs):Prop where
 fs:s.fs≠[]
 ok:s.w=0->hR s<=s.st.length
structure Gr (k:Nat) (s s':Rs):Prop where
 kf:∃f f' r,s.fs=f::r/\s'.fs=f'::r/\f'.goes=f.goes/\f'.ends=f.ends/\f'.h=f.h
 ok:s'.w=0->s.w=0/\hR s'<=s'.st.length/\s'.st.length<=s.st.length+k
theorem Gr.wf{k:Nat}{s s':Rs}(g:Gr k s s'):RWf s':=by obtain⟨f,f',r,_,e,_⟩:=g.kf;exact⟨by rw[e];simp,λh=>(g.ok h).2.1⟩
theorem Gr.len{k:Nat}{s s':Rs}(g:Gr k s s'):s'.fs.length=s.fs.length:=by obtain⟨f,f',r,e1,e2,_⟩:=g.kf;rw[e1,e2];rfl
theorem Gr.hr{k:Nat}{s s':Rs}(g:Gr k s s'):hR s'=hR s:=by obtain⟨f,f',r,e1,e2,_,_,h⟩:=g.kf;unfold hR;rw[e1,e2];exact h
theorem Gr.trans{a b c:Nat}{s s' s'':Rs}(h:Gr a s s')(k:Gr b s' s'')(hc:a+b<=c):Gr c s s'':=by obtain⟨f,f',r,e1,e2,h1,h2,h3⟩:=h.kf;obtain⟨g,g',q,e3,e4,k1,k2,k3⟩:=k.kf;rw[e2]at e3;cases e3;refine⟨⟨f,g',r,e1,e4,k1.trans h1,k2.trans h2,k3.trans h3⟩,λhw=> ?_⟩;obtain⟨x1,x2,x3⟩:=k.ok hw;obtain⟨y1,y2,y3⟩:=h.ok x1;exact⟨y1,x2,by omega⟩
theorem Gr.more{a c:Nat}{s s':Rs}(h:Gr a s s')(hc:a<=c):Gr c s s':=⟨h.kf,λhw=>by obtain⟨x1,x2,x3⟩:=h.ok hw;exact⟨x1,x2,by omega⟩⟩
theorem Gr.refl{s:Rs}(h:RWf s):Gr 0 s s:=by obtain⟨f,r,e⟩:=List.exists_cons_of_ne_nil h.fs;exact⟨⟨f,f,r,e,e,rfl,rfl,rfl⟩,λhw=>⟨hw,h.ok hw,Nat.le_refl _⟩⟩
theorem jV{s:Rs}(h:RWf s){e:Int}(he:e≠0):Gr 0 s (zR e s):=by
 unfold zR
 by_cases hw:s.w=0
 . rw[if_pos hw];obtain⟨f,r,e1⟩:=List.exists_cons_of_ne_nil h.fs;exact⟨⟨f,f,r,e1,e1,rfl,rfl,rfl⟩,λhw2=>absurd hw2 he⟩
 . rw[if_neg hw];exact .refl h
theorem yP{s:Rs}(h:RWf s)(l:List Int):Gr l.length s (zZ l s):=by
 unfold zZ
 by_cases hw:s.w=0
 . rw[if_pos hw];obtain⟨f,r,e1⟩:=List.exists_cons_of_ne_nil h.fs;refine⟨⟨f,f,r,e1,e1,rfl,rfl,rfl⟩,λ_=>⟨hw,?_,?_⟩⟩
   . show hR s<=_
     have:=h.ok hw;simp only[List.length_append,List.length_reverse];omega
   . simp only[List.length_append,List.length_reverse];omega
 . rw[if_neg hw];exact(Gr.refl h).more (Nat.zero_le _)
theorem jF{s:Rs}(h:RWf s)(t:Int):Gr 0 s (zQ t s).2:=by
 unfold zQ
 by_cases hw:s.w=0
 . rw[if_pos hw];obtain⟨f,r,e1⟩:=List.exists_cons_of_ne_nil h.fs;have hh:=h.ok hw;have hf:hR s=f.h:=(by unfold hR;rw[e1];rfl)
   rw[e1]
   dsimp only
   by_cases h1:s.st.length=f.h
   . rw[if_pos h1]
     dsimp only
     by_cases h2:f.dead=true
     . rw[if_pos h2];exact .refl h
     . rw[if_neg h2];exact jV h (by decide)
   . rw[if_neg h1];cases hs:s.st with
     |nil=>exact .refl h
     |cons x q=>
       dsimp only
       rw[hs]at hh h1;rw[List.length_cons]at hh h1;have hq:RWf {w:=s.w,st:=q,fs:=f::r}:=⟨by simp,λ_=>by show f.h<=q.length;omega⟩
       have hg:Gr 0 s {w:=s.w,st:=q,fs:=f::r}:=⟨⟨f,f,r,e1,rfl,rfl,rfl,rfl⟩,λ_=>⟨hw,hq.ok hw,by rw[hs];show q.length<=_;simp⟩⟩
       split
       . exact hg.trans (jV hq (by decide)) (by omega)
       . exact hg
 . rw[if_neg hw];exact .refl h
theorem gr_pops:∀(l:List Int) {s:Rs},RWf s->Gr 0 s (rPops l s)
 | [],s,h=>.refl h
 |t::r,s,h=>by
   have g:=jF h t;exact g.trans (gr_pops r g.wf) (Nat.le_refl _)
theorem gr_popL{s:Rs}(h:RWf s)(l:List Int):Gr 0 s (jI l s):=gr_pops _ h
theorem gr_dead{s:Rs}(h:RWf s):Gr 0 s (jY s):=by
 unfold jY
 by_cases hw:s.w=0
 . rw[if_pos hw];obtain⟨f,r,e1⟩:=List.exists_cons_of_ne_nil h.fs;have hh:=h.ok hw;have hf:hR s=f.h:=(by unfold hR;rw[e1];rfl)
   rw[e1];exact⟨⟨f,_,r,e1,rfl,rfl,rfl,rfl⟩,λ_=>⟨hw,by show f.h<=(s.st.drop _).length;rw[List.length_drop];omega,by show(s.st.drop _).length<=_;rw[List.length_drop];omega⟩⟩
 . rw[if_neg hw];exact .refl h
def RRf (s:Rs):Prop:=∀f∈s.fs,f.goes.length<=1/\f.ends.length<=1
theorem Gr.rf{k:Nat}{s s':Rs}(g:Gr k s s')(h:RRf s):RRf s':=by
 obtain⟨f,f',r,e1,e2,h1,h2,_⟩:=g.kf;intro x hx;rw[e2]at hx
 rcases List.mem_cons.1 hx with rfl |hx
 . rw[h1,h2];exact h f (by rw[e1];exact List.mem_cons_self)
 . exact h x (by rw[e1];exact List.mem_cons_of_mem _ hx)
def GrB (k:Nat) (B:Rs->Rs):Prop:=∀s,RWf s->RRf s->Gr k s (B s)
theorem gr_block{s:Rs}(h:RWf s)(hf:RRf s){k:Nat}{B:Rs->Rs}(hB:GrB k B){goes ends:List Int}(hg:goes.length<=1)(he:ends.length<=1):Gr 0 s (zV B goes ends s):=by
 unfold zV
 by_cases hw:s.w=0
 . rw[if_pos hw];obtain⟨f,r,e1⟩:=List.exists_cons_of_ne_nil h.fs;have hin:RWf {s with fs:=⟨goes,ends,s.st.length,false⟩::s.fs}:=⟨by simp,λ_=>Nat.le_refl _⟩
   have g1:=hB _ hin (by
    intro x hx
    rcases List.mem_cons.1 hx with rfl |hx
    . exact⟨hg,he⟩
    . exact hf x hx)
   have g2:=g1.trans (gr_popL g1.wf ends) (Nat.le_refl _)
   have key:∀s3,s3=(if(jI ends (B {s with fs:=⟨goes,ends,s.st.length,false⟩::s.fs})).w=0/\(jI ends (B {s with fs:=⟨goes,ends,s.st.length,false⟩::s.fs})).st.length≠((jI ends (B {s with fs:=⟨goes,ends,s.st.length,false⟩::s.fs})).fs.headD fr0).h then zR 60 (jI ends (B {s with fs:=⟨goes,ends,s.st.length,false⟩::s.fs}))else jI ends (B {s with fs:=⟨goes,ends,s.st.length,false⟩::s.fs}))->Gr 0 s {s3 with fs:=s3.fs.tail}:=by
    generalize hs2:jI ends (B {s with fs:=⟨goes,ends,s.st.length,false⟩::s.fs})=s2 at g2 ⊢;intro s3 e3
    have g3:Gr k {s with fs:=⟨goes,ends,s.st.length,false⟩::s.fs} s3/\(s3.w=0->s3.st.length=s.st.length):=by
     rw[e3]
     by_cases hc:s2.w=0/\s2.st.length≠(s2.fs.headD fr0).h
     . rw[if_pos hc];exact⟨g2.trans (jV g2.wf (by decide)) (Nat.le_refl _),λhw3=>by rw[bad_w (by decide) hc.1]at hw3;exact absurd hw3 (by decide)⟩
     . rw[if_neg hc];refine⟨g2,λhw3=> ?_⟩
       have:s2.st.length=hR s2:=by
        by_cases hq:s2.st.length=(s2.fs.headD fr0).h
        . exact hq
        . exact absurd ⟨hw3,hq⟩ hc
       rw[this,g2.hr];rfl
    obtain⟨g4,hl⟩:=g3;obtain⟨a,a',q,y1,y2,y3,y4,y5⟩:=g4.kf;simp only[List.cons.injEq]at y1;obtain⟨rfl,rfl⟩:=y1;rw[y2];exact⟨⟨f,f,r,e1,e1,rfl,rfl,rfl⟩,λhw3=>⟨hw,by show hR s<=s3.st.length;rw[hl hw3];exact h.ok hw,by show s3.st.length<=_;rw[hl hw3];omega⟩⟩
   exact key _ rfl
 . rw[if_neg hw];exact .refl h
theorem gr_oks:∀(l:List Int) {s:Rs},RWf s->Gr 0 s (rOks l s).2
 | [],s,h=>.refl h
 |n::r,s,h=>by
   have g:Gr 0 s (if qX n s then s else zR 61 s):=by
    split
    . exact .refl h
    . exact jV h (by decide)
   exact g.trans (gr_oks r g.wf) (Nat.le_refl _)
theorem gr_like (g:List Int):∀(ls:List Int) {s:Rs},RWf s->Gr 0 s (rLike g ls s)
 | [],s,h=>.refl h
 |n::r,s,h=>by
   have gg:Gr 0 s (if qT n s=g then s else zR 60 s):=by
    split
    . exact .refl h
    . exact jV h (by decide)
   exact gg.trans (gr_like g r gg.wf) (Nat.le_refl _)
theorem gr_table{s:Rs}(h:RWf s)(a:Int)(ls:List Int):Gr 0 s (rTable a ls s):=by
 have g1:=gr_oks (a::ls) h
 have key:∀q,q=rOks (a::ls) s->Gr 0 s (if q.1=true then jY (jI (qT a q.2) (rLike (qT a q.2) ls (zQ 127 q.2).2))else q.2):=by
  intro q hq;rw[<-hq]at g1;split
  . have g2:=g1.trans (jF g1.wf 127) (Nat.le_refl _);have g3:=g2.trans (gr_like (qT a q.2) ls g2.wf) (Nat.le_refl _);have g4:=g3.trans (gr_popL g3.wf (qT a q.2)) (Nat.le_refl _);exact g4.trans (gr_dead g4.wf) (Nat.le_refl _)
  . exact g1
 exact key _ rfl
theorem gr_call{s:Rs}(h:RWf s){t:List Int×List Int}(ht:t.2.length<=1):Gr 1 s (rCall t s):=by have g:=gr_popL h t.1;exact g.trans (yP g.wf t.2) (by omega)
theorem gr_variable{E:Ev}{s:Rs}(h:RWf s)(op a:Int):Gr 1 s (qU E op a s):=by
 unfold qU
 by_cases h1:35<=op
 . rw[if_pos h1];cases E.globals[a.toNat]? with
   |none=>exact(jV h (by decide)).more (by omega)
   |some g=>
     dsimp only
     by_cases h2:op=35
     . rw[if_pos h2];exact yP h [g.1]
     . rw[if_neg h2]
       have gg:Gr 0 s (if g.2=true then s else zR 62 s):=by
        split
        . exact .refl h
        . exact jV h (by decide)
       exact gg.trans (jF gg.wf _) (by omega)
 . rw[if_neg h1];cases E.locals[a.toNat]? with
   |none=>exact(jV h (by decide)).more (by omega)
   |some t=>
     dsimp only
     have gg:Gr 0 s (if op≠32 then(zQ t s).2 else s):=by
      split
      . exact jF h t
      . exact .refl h
     generalize (if op≠32 then(zQ t s).2 else s)=s2 at gg
     by_cases h3:op≠33
     . rw[if_pos h3];exact gg.trans (yP gg.wf [t]) (Nat.le_refl _)
     . rw[if_neg h3];exact gg.more (by omega)
theorem gr_memory{E:Ev}{s:Rs}(h:RWf s)(op a:Int):Gr 1 s (jJ E op a s):=by
 unfold jJ;split
 . exact(jV h (by decide)).more (by omega)
 split
 . exact yP h [127]
 split
 . have g:=jF h 127;exact g.trans (yP g.wf [127]) (Nat.le_refl _)
 . have gg:Gr 0 s (if tooWide op a then zR 60 s else s):=by
    split
    . exact jV h (by decide)
    . exact .refl h
   generalize (if tooWide op a then zR 60 s else s)=s2 at gg
   dsimp only
   split
   . have g2:=gg.trans (jF gg.wf (wideT op)) (Nat.le_refl _);exact g2.trans (jF g2.wf 127) (by omega)
   . have g2:=gg.trans (jF gg.wf 127) (Nat.le_refl _);exact g2.trans (yP g2.wf [wideT op]) (Nat.le_refl _)
theorem rLab_len{s:Rs}(h:RRf s)(a:Int):(qT a s).length<=1:=by
 unfold qT;rw[List.getD_eq_getElem?_getD];cases hf:s.fs[a.toNat]? with
 |none=>show fr0.goes.length<=1;decide
 |some f=>exact(h f (List.mem_of_getElem? hf)).1
theorem resV_le(a:Int):(zK a).length<=1:=by unfold zK;split<;>simp
def rIf (B C:Rs->Rs) (a:Int) (n:Nat) (s:Rs):Rs:=
 let s:=(zQ 127 s).2
 let s:=if n=0/\0<(zK a).length then zR 60 s else s
 let s:=zV B (zK a) (zK a) s
 let s:=if 0<n then zV C (zK a) (zK a) s else s
 zZ (zK a) s
theorem gr_if{s:Rs}(h:RWf s)(hf:RRf s){k k':Nat}{B C:Rs->Rs}(hB:GrB k B)(hC:GrB k' C)(a:Int)(n:Nat):Gr 1 s (rIf B C a n s):=by
 have g1:=jF h 127;unfold rIf;generalize (zQ 127 s).2=s1 at g1
 dsimp only
 have g2:Gr 0 s (if n=0/\0<(zK a).length then zR 60 s1 else s1):=by
  split
  . exact g1.trans (jV g1.wf (by decide)) (Nat.le_refl _)
  . exact g1
 generalize (if n=0/\0<(zK a).length then zR 60 s1 else s1)=s2 at g2;have g3:=g2.trans (gr_block g2.wf (g2.rf hf) hB (resV_le a) (resV_le a)) (Nat.le_refl _);generalize zV B (zK a) (zK a) s2=s3 at g3
 have g4:Gr 0 s (if 0<n then zV C (zK a) (zK a) s3 else s3):=by
  split
  . exact g3.trans (gr_block g3.wf (g3.rf hf) hC (resV_le a) (resV_le a)) (Nat.le_refl _)
  . exact g3
 generalize (if 0<n then zV C (zK a) (zK a) s3 else s3)=s4 at g4;exact g4.trans (yP g4.wf _) (by have:=resV_le a;omega)
theorem gr_sel{s:Rs}(h:RWf s):Gr 1 s (rSel s):=by
 unfold rSel;have g1:=jF h 0;generalize zQ 0 s=x at g1;have g2:=g1.trans (jF g1.wf 0) (Nat.le_refl _)
 dsimp only
 generalize zQ 0 x.2=y at g2
 have g3:Gr 0 s (if x.1≠0/\y.1≠0/\x.1≠y.1 then zR 60 y.2 else y.2):=by
  split
  . exact g2.trans (jV g2.wf (by decide)) (Nat.le_refl _)
  . exact g2
 generalize (if x.1≠0/\y.1≠0/\x.1≠y.1 then zR 60 y.2 else y.2)=s3 at g3;exact g3.trans (yP g3.wf [_]) (Nat.le_refl _)
theorem gr_instr{E:Ev}(hE:EvR E){s:Rs}(h:RWf s)(hf:RRf s)(op a:Int)(ls:List Int)(n:Nat){k k':Nat}{B C:Rs->Rs}(hB:GrB k B)(hC:GrB k' C):Gr 1 s (yU E op a ls n B C s):=by
 have m0:∀{s':Rs},Gr 0 s s'->Gr 1 s s':=λg=>g.more (by omega);have hbr:∀{s':Rs},Gr 0 s s'->Gr 0 s (jI (qT a s) s'):=λg=>g.trans (gr_popL g.wf _) (Nat.le_refl _);unfold yU
 by_cases c1:op=0
 . rw[if_pos c1];exact m0 (gr_dead h)
 rw[if_neg c1]
 by_cases c2:op=1
 . rw[if_pos c2];exact m0 (.refl h)
 rw[if_neg c2]
 by_cases c3:op=2\/op=3
 . rw[if_pos c3]
   have g:=gr_block h hf hB (goes:=if op=3 then[]else zK a) (by
    split
    . simp
    . exact resV_le a) (resV_le a)
   exact g.trans (yP g.wf _) (by have:=resV_le a;omega)
 rw[if_neg c3]
 by_cases c4:op=4
 . rw[if_pos c4];exact gr_if h hf hB hC a n
 rw[if_neg c4]
 by_cases c5:op=12\/op=13
 . rw[if_pos c5]
   by_cases c6:qX a s
   . rw[if_pos c6]
     by_cases c7:op=13
     . rw[if_pos c7];have g:=hbr (jF h 127);exact g.trans (yP g.wf _) (by have:=rLab_len hf a;omega)
     . rw[if_neg c7];have g:=hbr (.refl h);exact m0 (g.trans (gr_dead g.wf) (Nat.le_refl _))
   . rw[if_neg c6];exact m0 (jV h (by decide))
 rw[if_neg c5]
 by_cases c8:op=14
 . rw[if_pos c8];exact m0 (gr_table h a ls)
 rw[if_neg c8]
 by_cases c9:op=15
 . rw[if_pos c9];have g:=gr_popL h (rRet s);exact m0 (g.trans (gr_dead g.wf) (Nat.le_refl _))
 rw[if_neg c9]
 by_cases d1:op=16
 . rw[if_pos d1];cases hfu:E.funcs[a.toNat]? with
   |none=>exact m0 (jV h (by decide))
   |some t=>exact gr_call h (hE.funcs t (List.mem_of_getElem? hfu))
 rw[if_neg d1]
 by_cases d2:op=17
 . rw[if_pos d2]
   by_cases d3:E.tables=0
   . rw[if_pos d3];exact m0 (jV h (by decide))
   . rw[if_neg d3];cases hty:E.types[a.toNat]? with
     |none=>exact m0 (jV h (by decide))
     |some t=>have g:=jF h 127;exact g.trans (gr_call g.wf (hE.types t (List.mem_of_getElem? hty))) (Nat.le_refl _)
 rw[if_neg d2]
 by_cases d4:op=26
 . rw[if_pos d4];exact m0 (jF h 0)
 rw[if_neg d4]
 by_cases d5:op=27
 . rw[if_pos d5];have g:=jF h 127;exact g.trans (gr_sel g.wf) (Nat.le_refl _)
 rw[if_neg d5]
 by_cases d6:op=65
 . rw[if_pos d6];exact yP h [127]
 rw[if_neg d6]
 by_cases d7:op=66
 . rw[if_pos d7];exact yP h [126]
 rw[if_neg d7]
 by_cases d8:zG op=6
 . rw[if_pos d8];exact gr_variable h op a
 rw[if_neg d8]
 by_cases d9:zG op=8\/op=63\/op=64
 . rw[if_pos d9];exact gr_memory h op a
 . rw[if_neg d9];have g:=gr_pops (List.replicate (sgN (sgV op).1) (sgV op).2.2) h;exact g.trans (yP g.wf [_]) (Nat.le_refl _)
theorem gr_list {E:Ev} (hE:EvR E):∀l:Il,GrB l.len (ryL E l)
 |.nil=>λs h hf=>.refl h
 |.cons op a y n ls body els rest=>λs h hf=>by
   have g:=gr_instr hE h hf op a ls els.len (gr_list hE body) (gr_list hE els)
   show Gr (rest.len+1) s (if s.w=0 then ryL E rest (yU E op a ls els.len (ryL E body) (ryL E els) s)else s)
   split
   . exact g.trans (gr_list hE rest _ g.wf (g.rf hf)) (by omega)
   . exact(Gr.refl h).more (Nat.zero_le _)
end Go.Proofs.YtacohbllbjgdgaaGreatDoor
namespace Go.Proofs.YtacohbllbjgdgaaGreatDoor
open Go.RowKit
structure M10 where
 v0:Value
 v1:Value
 v2:Value
 v3:Value
 v4:Value
 v5:Value
 v6:Value
 v7:Value
 v8:Value
 v9:Value
structure RcP (N p:Nat) (M:M10) (lv:Value) (w:World) (sv fv:Value) (s:Rs):Prop where
 b:w.heap[p]? =some (.cells #[M.v0,M.v1,M.v2,M.v3,M.v4,M.v5,M.v6,M.v7,M.v8,M.v9,lv,sv,fv,.int .i64 s.w] 108 (0,0))
 o:Ows N p 131 0 w sv fv ⟨s.st,s.fs⟩
def endS (N p:Nat) (M:M10) (lv:Value) (w:World) (sv fv:Value) (x:Rs) (e:Ending) (w':World):Prop:=
 e=.returned (.tuple #[])/\∃sv' fv',RcP N p M lv w' sv' fv' x/\Tw p sv fv sv' fv' w w'
def endO (N p:Nat) (M:M10) (lv:Value) (w:World) (sv fv:Value) (x:Rs) (e:Ending) (w':World):Prop:=
 e=.returned (.tuple #[])/\∃sv',RcP N p M lv w' sv' fv x/\Tw p sv fv sv' fv w w'
section
variable {N p:Nat} {M:M10} {lv:Value} {w w':World} {sv fv sv' fv':Value} {s:Rs}
theorem RcP.c(h:RcP N p M lv w sv fv s):w.cell? ⟨p,10,none⟩=some lv/\w.cell? ⟨p,11,none⟩=some sv/\w.cell? ⟨p,12,none⟩=some fv/\w.cell? ⟨p,13,none⟩=some (.int .i64 s.w)/\w.frozen? ⟨p,11,none⟩=false/\w.frozen? ⟨p,12,none⟩=false/\w.frozen? ⟨p,13,none⟩=false:=
 ⟨by rw[cell_of_row w p 10 _ _ _ h.b];rfl,by rw[cell_of_row w p 11 _ _ _ h.b];rfl,by rw[cell_of_row w p 12 _ _ _ h.b];rfl,by rw[cell_of_row w p 13 _ _ _ h.b];rfl,frozen_of_row w p 11 _ _ h.b,frozen_of_row w p 12 _ _ h.b,frozen_of_row w p 13 _ _ h.b⟩
theorem RcP.c10(h:RcP N p M lv w sv fv s):w.cell? ⟨p,0,none⟩=some M.v0/\w.cell? ⟨p,1,none⟩=some M.v1/\w.cell? ⟨p,2,none⟩=some M.v2/\w.cell? ⟨p,3,none⟩=some M.v3/\w.cell? ⟨p,4,none⟩=some M.v4/\w.cell? ⟨p,5,none⟩=some M.v5/\w.cell? ⟨p,6,none⟩=some M.v6/\w.cell? ⟨p,7,none⟩=some M.v7/\w.cell? ⟨p,8,none⟩=some M.v8/\w.cell? ⟨p,9,none⟩=some M.v9:=by
 have:=h.b;refine⟨?_,?_,?_,?_,?_,?_,?_,?_,?_,?_⟩;all_goals rw[cell_of_row w p _ _ _ _ this];rfl
theorem RcP.step(h:RcP N p M lv w sv fv s)(b:Below w.heap.size w w'):RcP N p M lv w' sv fv s:=⟨by rw[b.block p (lt_of_block h.b)];exact h.b,h.o.step b⟩
theorem RcP.setS(h:RcP N p M lv w sv fv s){v':Value}{st:List Int}(o:Ows N p 131 0 w v' fv ⟨st,s.fs⟩):RcP N p M lv (w.setCell ⟨p,11,none⟩ v') v' fv ⟨s.w,st,s.fs⟩:=
 ⟨by rw[heap_setCell_same w p 11 _ _ _ h.b];rfl,o.setP 11 v'⟩
theorem RcP.setF(h:RcP N p M lv w sv fv s){v':Value}{fs:List Fr}(o:Ows N p 131 0 w sv v' ⟨s.st,fs⟩):RcP N p M lv (w.setCell ⟨p,12,none⟩ v') sv v' ⟨s.w,s.st,fs⟩:=
 ⟨by rw[heap_setCell_same w p 12 _ _ _ h.b];rfl,o.setP 12 v'⟩
theorem RcP.setW(h:RcP N p M lv w sv fv s)(n:Int):RcP N p M lv (w.setCell ⟨p,13,none⟩ (.int .i64 n)) sv fv ⟨n,s.st,s.fs⟩:=
 ⟨by rw[heap_setCell_same w p 13 _ _ _ h.b];rfl,h.o.setP 13 _⟩
theorem rBad_0{e:Int}{s:Rs}(h:s.w=0):zR e s=⟨e,s.st,s.fs⟩:=by unfold zR;rw[if_pos h]
theorem rBad_1{e:Int}{s:Rs}(h:s.w≠0):zR e s=s:=by unfold zR;rw[if_neg h]
theorem xV(h:RcP N p M lv w sv fv s)(n:Int):Calls Tryz.prog 87 #[.pointer (some ⟨p,0,none⟩),.int .i64 n] w λe w'=>e=.returned (.tuple #[])/\RcP N p M lv w' sv fv (zR n s)/\Tw p sv fv sv fv w w':=by
 obtain⟨k0,k1,k2,k3,z1,z2,z3⟩:=h.c
 by_cases hw:s.w=0
 . rw[rBad_0 hw];have h2:=h.setW n;have t2:=(Tw.refl p sv fv w).set 13 (.int .i64 n);rw[hw]at k3;clear h hw;go_enter Tryz.func87,Tryz.ntmps87;go_wp2;go_end0;exact⟨rfl,h2,t2⟩
 . rw[rBad_1 hw];have hb:(s.w==0)=false:=(by simp[hw])
   go_enter Tryz.func87,Tryz.ntmps87;go_wp2;go_end0;exact⟨rfl,h,.refl _ _ _ _⟩
theorem rtop_any(h:RcP N p M lv w sv fv s){f:Fr}{r:List Fr}(hf:s.fs=f::r):Calls Tryz.prog 86 #[.pointer (some ⟨p,0,none⟩)] w λe w'=>(∃g cap,fv=.slice (some ⟨g,0,none⟩) (r.length+1) cap/\e=.returned (.pointer (some ⟨g,r.length*4,none⟩)))/\∃m,w'=w.drewN m:=by
 obtain⟨g,cap,fa,rfl,hg,c0,c1,c2,c3,z3,l1,l2,hn,hm⟩:=h.o.top hf;obtain⟨k0,k1,k2,k3,z1,z2,z3'⟩:=h.c;have e1:IntKind.i64.wrap (((r.length+1:Nat):Int)-1)=(r.length:Int):=(by rw[IntKind.wrap_i64];omega)
 clear hf;go_enter Tryz.func86,Tryz.ntmps86;go_wp2_with fail
 go_quiet (fail)
 go_wp2_with fail;go_ret;exact⟨⟨g,cap,rfl,rfl⟩,nq,rfl⟩
theorem rpush_any(h:RcP N p M lv w sv fv s){l:List Int}{la:Option Addr}{lc:Nat}(hl:IntsIn w la l)(hb:s.w=0->s.st.length+l.length<=1099511627776):Calls Tryz.prog 106 #[.pointer (some ⟨p,0,none⟩),.slice la l.length lc] w (endO N p M lv w sv fv (zZ l s)):=by
 by_cases hw:s.w=0
 . replace hb:=hb hw;have hX:zZ l s=⟨s.w,(zL l ⟨s.st,s.fs⟩).st,s.fs⟩:=(by unfold zZ;rw[if_pos hw];rfl)
   rw[hX];obtain⟨i3,hi3,hz3,hs3,hb3⟩:=yO;obtain⟨k0,k1,k2,k3,z1,z2,z3⟩:=h.c;rw[hw]at k3;have hpb:=lt_of_block h.b;have hne:sv.ownBlock≠some p:=λe=>by have:=h.o.low.1 p e;have:=h.o.hN;omega
   have hN:=h.o.hw;have e0:∀x,jR 0 x=x:=λx=>by unfold jR;split<;>omega
   have em:l.map (jR 0)=l:=(by rw[show jR 0=id from funext e0];simp)
   have fin:∀v' w1,w1.ownsRow N 3 1 v' (s.st.length+l.length) (stC 0 s.st++l.map λx=>Value.int .i64 x)->w.grownBy w1 sv.ownBlock->(v'.ownBlock=sv.ownBlock\/v'.ownBlock=some w.heap.size)->
    Hid (RcP N p M lv (w1.setCell ⟨p,11,none⟩ v') v' fv ⟨s.w,(zL l ⟨s.st,s.fs⟩).st,s.fs⟩/\Tw p sv fv v' fv w (w1.setCell ⟨p,11,none⟩ v'))/\w1.cell? ⟨p,11,none⟩=some sv/\w1.frozen? ⟨p,11,none⟩=false:=λv' w1 ho hg ha=>by
    obtain⟨o1,t1⟩:=h.o.push (by decide) (l:=l) (by simp only[e0];exact ho) hg ha;have hp1:w1.heap[p]? =some (.cells #[M.v0,M.v1,M.v2,M.v3,M.v4,M.v5,M.v6,M.v7,M.v8,M.v9,lv,sv,fv,.int .i64 s.w] 108 (0,0)):=(by rw[hg.block p hpb (λe=>hne e.symm)];exact h.b)
    exact⟨zh ⟨⟨by rw[heap_setCell_same w1 p 11 _ _ _ hp1];rfl,o1.setP 11 v'⟩,t1.set 11 v'⟩,by rw[cell_of_row w1 p 11 _ _ _ hp1];rfl,frozen_of_row w1 p 11 _ _ hp1⟩
   obtain⟨h63,hc⟩:=hl;have hown:=h.o.st;replace hown:w.ownsRow N 3 1 sv s.st.length (stC 0 s.st):=hown;cases la with
   |none=>
     have hnil:l=[]:=by
      rcases hc with hc |⟨b,o,e,_⟩
      . exact hc
      . cases e
     subst hnil;obtain⟨hf,_,_⟩:=fin sv w (by simpa using hown) ⟨rfl,rfl,rfl,Nat.le_refl _,λ_ _ _=>rfl⟩ (.inl rfl);obtain⟨sa,sc,rfl⟩:=own_sl hown;clear fin h hpb hne hN hw hX;go_enter Tryz.func106,Tryz.ntmps106
     go_wp2_with (first |(
      at_builtin
      refine vY _ rfl _ _ _ rfl N 3 i3 1 Tryz.underlying28 hi3 _ s.st.length lc _ (by rfl) hown (by rfl) ?_))
     go_end0;exact⟨rfl,_,hf.out.1,hf.out.2⟩
   |some ad=>
     have hnews:∀j u,(l.map λx=>Value.int .i64 x)[j]? =some u->w.cell? (ad.add j)=some u:=by
      rcases hc with hc |⟨b',o',e,hc⟩
      . rw[hc];intro j u hu;cases hu
      . cases e;exact ints_news hc
     clear hc h hw hX em;go_enter Tryz.func106,Tryz.ntmps106
     go_wp2_with (first |(
      at_builtin
      refine wpList_append_own_at _ rfl _ _ _ rfl N 3 i3 _ 1 8 Tryz.underlying28 hi3 hz3 hs3 hb3 rfl (by omega) sv s.st.length _ (by rfl) hown ad l.length lc _ (by rfl) (by simp) hnews (by intro u hu;simp only[List.mem_map]at hu;obtain⟨x,_,rfl⟩:=hu;rfl) (by unfold maxLen;omega) (by omega) hN ?_;intro v' w1 hown1 hgrow hnil hat;obtain⟨sa',sc',rfl⟩:=own_sl hown1;obtain⟨hf,y2,f2⟩:=fin _ w1 hown1 hgrow hat;obtain⟨sa,sc,hsv⟩:=own_sl hown;rw[hsv]at y2))
     go_end0;exact⟨rfl,_,hf.out.1,hf.out.2⟩
 . have hX:zZ l s=s:=(by unfold zZ;rw[if_neg hw])
   rw[hX];obtain⟨k0,k1,k2,k3,z1,z2,z3⟩:=h.c;have hb:(s.w==0)=false:=(by simp[hw])
   go_enter Tryz.func106,Tryz.ntmps106;go_wp2;go_end0;exact⟨rfl,_,h,.refl _ _ _ _⟩
end
end Go.Proofs.YtacohbllbjgdgaaGreatDoor
namespace Go.Proofs.YtacohbllbjgdgaaGreatDoor
open Go.RowKit
section
variable {N p:Nat} {M:M10} {lv:Value} {w w':World} {sv fv sv' fv':Value} {s:Rs}
theorem RcP.popped(h:RcP N p M lv w sv fv s){g c x:Nat}{t:Int}{q:List Int}(e:sv=.slice (some ⟨g,0,none⟩) x c)(hs:s.st=t::q):RcP N p M lv (w.setCell ⟨p,11,none⟩ (.slice (some ⟨g,0,none⟩) q.length c)) (.slice (some ⟨g,0,none⟩) q.length c) fv ⟨s.w,q,s.fs⟩:=by
 have:=h.o.drop e (m:=q.length) (by rw[hs];simp);rw[hs,show(t::q).length-q.length=1 by simp]at this;exact h.setS this
theorem rPop_w{t:Int}{s:Rs}(h:s.w≠0):zQ t s=(0,s):=by unfold zQ;rw[if_neg h]
theorem rPop_nil{t:Int}{s:Rs}{f:Fr}{r:List Fr}(hw:s.w=0)(hf:s.fs=f::r)(hl:s.st.length=f.h):zQ t s=(0,if f.dead=true then s else zR 60 s):=by
 unfold zQ;rw[if_pos hw,hf]
 dsimp only
 rw[if_pos hl]
theorem rPop_cons{t:Int}{s:Rs}{f:Fr}{r:List Fr}{x:Int}{q:List Int}(hw:s.w=0)(hf:s.fs=f::r)(hl:¬s.st.length=f.h)(hs:s.st=x::q):zQ t s=(x,if t≠0/\x≠0/\x≠t then zR 60 ⟨s.w,q,s.fs⟩else⟨s.w,q,s.fs⟩):=by
 unfold zQ;rw[if_pos hw,hf]
 dsimp only
 rw[if_neg hl,hs]
def endP (N p:Nat) (M:M10) (lv:Value) (w:World) (sv fv:Value) (x:Int×Rs) (e:Ending) (w':World):Prop:=
 e=.returned (.int .i64 x.1)/\∃sv',RcP N p M lv w' sv' fv x.2/\Tw p sv fv sv' fv w w'
theorem qQ(h:RcP N p M lv w sv fv s)(hwf:RWf s)(t:Int):Calls Tryz.prog 107 #[.pointer (some ⟨p,0,none⟩),.int .i64 t] w (endP N p M lv w sv fv (zQ t s)):=by
 obtain⟨k0,k1,k2,k3,z1,z2,z3⟩:=h.c;generalize hX:zQ t s=X;replace hX:=zh hX
 by_cases hw:s.w=0
 . obtain⟨f,r,hf⟩:=List.exists_cons_of_ne_nil hwf.fs;have hh:f.h<=s.st.length:=(by have:=hwf.ok hw;unfold hR at this;rw[hf]at this;exact this)
   rw[hw]at k3;obtain⟨g,cap,fa,hfv,hg,c0,c1,c2,c3,z3',l1,l2,hn,hm⟩:=h.o.top hf;have hT:=λw (h:RcP N p M lv w sv fv s)=>rtop_any h hf
   by_cases hl:s.st.length=f.h
   . replace hX:=zh ((rPop_nil hw hf hl).symm.trans hX.out);obtain⟨sa,sc,hsv,hsl⟩:=h.o.sl;rw[hsv]at k1;have hlb:(((s.st.length:Nat):Int)==((f.h:Nat):Int))=true:=(by simp[hl])
     clear hh hl hw hf;go_enter Tryz.func107,Tryz.ntmps107;go_wp2_with fail;refine(hT _ h).mono ?_;rintro e w1 ⟨⟨g',cap',hfv',rfl⟩,m1,rfl⟩;rw[hfv]at hfv';cases hfv';have h1:=h.step (zB m1);have b1:=zB (w:=w) m1;go_wp2_with fail
     by_cases hd:f.dead=true
     . have hX1:=hX.out;rw[if_pos hd]at hX1;subst hX1;rw[hd]at c3;go_wp2_with fail;refine(hT _ h1).mono ?_;rintro e w1 ⟨⟨g',cap',hfv',rfl⟩,m2,rfl⟩;rw[hfv]at hfv';cases hfv';go_wp2;go_ret;exact⟨rfl,sv,h.step (zB _),.of_below (zB _)⟩
     . have hX1:=hX.out;rw[if_neg hd]at hX1;subst hX1;rw[Bool.not_eq_true]at hd;rw[hd]at c3;go_wp2_with fail;refine(hT _ h1).mono ?_;rintro e w1 ⟨⟨g',cap',hfv',rfl⟩,m2,rfl⟩;rw[hfv]at hfv';cases hfv';have h2:=h.step (zB (m1+m2));have t2:Tw p sv fv sv fv w (w.drewN (m1+m2)):=.of_below (zB _);go_wp2_with fail;refine(xV h2 60).mono ?_;rintro e w3 ⟨rfl,h3,t3⟩;go_wp2;go_ret;exact⟨rfl,sv,h3,t2.trans t3⟩
   . cases hs:s.st with
     |nil=>rw[hs]at hl hh;simp at hl hh;omega
     |cons x q=>
       replace hX:=zh ((rPop_cons hw hf hl hs).symm.trans hX.out);obtain⟨sg,sc,hsv,hsg,hlast,hsn,hsm⟩:=h.o.last hs;simp only[maxLen]at hsm;rw[show jR 0 x=x by unfold jR;split<;>omega]at hlast;rw[hsv]at k1;rw[hs,List.length_cons]at hl;have hlb:(((q.length+1:Nat):Int)==((f.h:Nat):Int))=false:=(by simp;omega)
       have e1:IntKind.i64.wrap (((q.length+1:Nat):Int)-1)=(q.length:Int):=(by rw[IntKind.wrap_i64];omega)
       have e2:IntKind.i64.wrap (q.length:Int)=(q.length:Int):=(by rw[IntKind.wrap_i64];omega)
       have i0:(0:Int)<=(q.length:Int):=(by omega)
       have i1:(q.length:Int)<=(sc:Int):=(by omega)
       have i2:q.length<=sc:=(by omega)
       have hP:=λw (h:RcP N p M lv w sv fv s)=>h.popped hsv hs;clear hh hl hf;go_enter Tryz.func107,Tryz.ntmps107;go_wp2_with fail;refine(hT _ h).mono ?_;rintro e w1 ⟨⟨g',cap',hfv',rfl⟩,m1,rfl⟩;rw[hfv]at hfv';cases hfv';have h1:=h.step (zB m1);have b1:=zB (w:=w) m1;have h2:=hP _ h1;have t2:=((Tw.of_below (p:=p) (sv:=sv) (fv:=fv) b1).cutS (sv'':=.slice (some ⟨sg,0,none⟩) q.length sc) (by rw[hsv];rfl)).set 11 (.slice (some ⟨sg,0,none⟩) q.length sc);replace hw:=zh hw
       by_cases hb:t≠0/\x≠0/\x≠t
       . have hX1:=hX.out;rw[if_pos hb]at hX1;subst hX1;obtain⟨y1,y2,y3⟩:=hb;have u1:(t !=0)=true:=(by simp[y1])
         have u2:(x !=0)=true:=(by simp[y2])
         have u3:(x !=t)=true:=(by simp[y3])
         go_wp2_with fail;refine(xV h2 60).mono ?_;rintro e w3 ⟨rfl,h3,t3⟩;go_wp2;go_ret;exact⟨rfl,_,h3,t2.trans t3⟩
       . have hX1:=hX.out;rw[if_neg hb]at hX1;subst hX1;have y4:(t !=0)=false\/((t !=0)=true/\(x !=0)=false)\/((t !=0)=true/\(x !=0)=true/\(x !=t)=false):=(by simp;omega)
         clear hb
         rcases y4 with y1 |⟨y1,y2⟩ |⟨y1,y2,y3⟩
         all_goals(
          go_wp2;go_ret;exact⟨rfl,_,h2,t2⟩)
 . have hb:(s.w==0)=false:=(by simp[hw])
   replace hX:=hX.out;rw[rPop_w hw]at hX;subst hX;go_enter Tryz.func107,Tryz.ntmps107;go_wp2;go_ret;exact⟨rfl,_,h,.refl _ _ _ _⟩
end
end Go.Proofs.YtacohbllbjgdgaaGreatDoor
namespace Go.Proofs.YtacohbllbjgdgaaGreatDoor
open Go.RowKit
theorem qG(n:Int)(w:World):Calls Tryz.prog 61 #[.int .i64 n] w λe w'=>e=.returned (.bool (zN n))/\w=w':=by
 by_cases h1:0<=n
 . by_cases h2:n<=4294967295
   . have hv:zN n=true:=(by unfold zN;rw[decide_eq_true h1,decide_eq_true (by omega)];rfl)
     go_enter Tryz.func61,Tryz.ntmps61;go_wp2;go_ret;exact⟨by rw[hv];rfl,rfl⟩
   . have hv:zN n=false:=(by unfold zN;rw[decide_eq_true h1,decide_eq_false (by omega)];rfl)
     go_enter Tryz.func61,Tryz.ntmps61;go_wp2;go_ret;exact⟨rfl,rfl⟩
 . have hv:zN n=false:=(by unfold zN;rw[decide_eq_false h1];rfl)
   go_enter Tryz.func61,Tryz.ntmps61;go_wp2;go_ret;exact⟨rfl,rfl⟩
theorem rtypes_any(l:List Int)(ao:Option Addr)(c:Nat)(w:World)(h:IntsIn w ao l):Calls Tryz.prog 60 #[.slice ao l.length c] w λe w'=>e=.returned (.bool (l.all vA))/\w=w':=by
 obtain⟨N,hN⟩:∃N,l.length=N:=⟨_,rfl⟩
 have hl:=h.1;have HI:=zh h;clear h;rw[hN]at hl ⊢;go_enter Tryz.func60,Tryz.ntmps60;go_wp2_with fail;go_loopw [3] (λvi wr=>∃i:Nat,i<=N/\vi=.int .i64 i/\wr=w/\Hid ((l.take i).all vA=true)) (λvi _=>N-(intOf vi).toNat)
 case atStart=>exact⟨0,Nat.zero_le _,rfl,rfl,zh rfl⟩
 case round=>
  obtain⟨i,hi,rfl,rfl,ha⟩:=hrel
  by_cases hlt:i<N
  . obtain⟨x,hx⟩:∃x,l[i]? =some x:=⟨_,List.getElem?_eq_getElem (by omega)⟩
    obtain⟨b,o,rfl,hcell⟩:=HI.out.cell hx;have hn:=zh (all_drop hx ha.out);clear hx ha
    by_cases h6:x=126
    . subst h6;have hn2:=zh (hn.out.1 rfl);clear hn;go_wp2;exact⟨⟨i+1,by omega,by simp,trivial,hn2⟩,by simp[intOf];omega⟩
    by_cases h7:x=127
    . subst h7;have hn2:=zh (hn.out.1 rfl);clear hn;go_wp2;exact⟨⟨i+1,by omega,by simp,trivial,hn2⟩,by simp[intOf];omega⟩
    have hf:vA x=false:=(by unfold vA;simp[h6,h7])
    have q6:(x !=126)=true:=(by simp[h6])
    have q7:(x !=127)=true:=(by simp[h7])
    have hv:=hn.out.2 hf;clear hn;go_wp2;go_ret;exact⟨by rw[hv];rfl,rfl⟩
  . have hiN:i=N:=(by omega)
    subst hiN;have ha2:l.all vA=true:=(by have:=ha.out;rwa [List.take_of_length_le (by omega)]at this)
    clear ha;go_wp2;go_ret;exact⟨by rw[ha2];rfl,rfl⟩
theorem jX(l:List Int)(ao:Option Addr)(c:Nat)(w:World)(h:IntsIn w ao l):Calls Tryz.prog 66 #[.slice ao l.length c] w λe w'=>e=.returned (.bool (l.all zN))/\w=w':=by
 obtain⟨N,hN⟩:∃N,l.length=N:=⟨_,rfl⟩
 have hl:=h.1;have HI:=zh h;clear h;rw[hN]at hl ⊢;go_enter Tryz.func66,Tryz.ntmps66;go_wp2_with fail;go_loopw [3] (λvi wr=>∃i:Nat,i<=N/\vi=.int .i64 i/\wr=w/\Hid ((l.take i).all zN=true)) (λvi _=>N-(intOf vi).toNat)
 case atStart=>exact⟨0,Nat.zero_le _,rfl,rfl,zh rfl⟩
 case round=>
  obtain⟨i,hi,rfl,rfl,ha⟩:=hrel
  by_cases hlt:i<N
  . obtain⟨x,hx⟩:∃x,l[i]? =some x:=⟨_,List.getElem?_eq_getElem (by omega)⟩
    obtain⟨b,o,rfl,hcell⟩:=HI.out.cell hx;have hn:=zh (all_drop hx ha.out);clear hx ha;go_wp2_with fail;refine(qG x _).mono ?_;rintro e w2 ⟨rfl,rfl⟩;cases hX:zN x
    . have hv:=hn.out.2 hX;clear hn;go_wp2;go_ret;exact⟨by rw[hv];rfl,rfl⟩
    . have hn2:=zh (hn.out.1 hX);clear hn;go_wp2;exact⟨⟨i+1,by omega,by simp,trivial,hn2⟩,by simp[intOf];omega⟩
  . have hiN:i=N:=(by omega)
    subst hiN;have ha2:l.all zN=true:=(by have:=ha.out;rwa [List.take_of_length_le (by omega)]at this)
    clear ha;go_wp2;go_ret;exact⟨by rw[ha2];rfl,rfl⟩
theorem rlimits_any(l:List (Int×Int×Bool))(ao:Option Addr)(c:Nat)(w:World)(h:RowsIn LimitsAt 3 w ao l):Calls Tryz.prog 67 #[.slice ao l.length c] w λe w'=>e=.returned (.bool (l.all yN))/\w=w':=by
 obtain⟨N,hN⟩:∃N,l.length=N:=⟨_,rfl⟩
 have hl:=h.1;have HI:=zh h;clear h;rw[hN]at hl ⊢;go_enter Tryz.func67,Tryz.ntmps67;go_wp2_with fail;go_loopw [3] (λvi wr=>∃i:Nat,i<=N/\vi=.int .i64 i/\wr=w/\Hid ((l.take i).all yN=true)) (λvi _=>N-(intOf vi).toNat)
 case atStart=>exact⟨0,Nat.zero_le _,rfl,rfl,zh rfl⟩
 case round=>
  obtain⟨i,hi,rfl,rfl,ha⟩:=hrel
  by_cases hlt:i<N
  . obtain⟨t,ht⟩:∃t,l[i]? =some t:=⟨_,List.getElem?_eq_getElem (by omega)⟩
    obtain⟨b,o,rfl,hrow⟩:=HI.out.row ht;obtain⟨mn,mx,has⟩:=t;obtain⟨c0,c1,c2⟩:=hrow;have c0:wr.cell? ⟨b,o+i*3,none⟩=some (.int .i64 mn):=c0;have c1:wr.cell? ⟨b,o+i*3+1,none⟩=some (.int .i64 mx):=c1;have c2:wr.cell? ⟨b,o+i*3+2,none⟩=some (.bool has):=c2;have hn:=zh (jH ht ha.out);clear ht ha;go_wp2_with fail;refine(qG mn _).mono ?_;rintro e w2 ⟨rfl,rfl⟩;cases hX:zN mn
    . have hv:=hn.out.2 (by unfold yN;rw[hX];rfl);clear hn;go_wp2;go_ret;exact⟨by rw[hv];rfl,rfl⟩
    . go_wp2_with fail;refine(qG mx _).mono ?_;rintro e w2 ⟨rfl,rfl⟩;cases hY:zN mx
      . have hv:=hn.out.2 (by unfold yN;rw[hX,hY];rfl);clear hn;go_wp2;go_ret;exact⟨by rw[hv];rfl,rfl⟩
      . cases has
        . by_cases h0:mx=0
          . subst h0;have hn2:=zh (hn.out.1 (by unfold yN;rw[hX,hY];rfl));clear hn;go_wp2;exact⟨⟨i+1,by omega,by simp,trivial,hn2⟩,by simp[intOf];omega⟩
          . have q0:(mx==0)=false:=(by simp[h0])
            have hv:=hn.out.2 (by unfold yN;rw[hX,hY];exact q0);clear hn;go_wp2;go_ret;exact⟨by rw[hv];rfl,rfl⟩
        . have hn2:=zh (hn.out.1 (by unfold yN;rw[hX,hY];rfl));clear hn;go_wp2;exact⟨⟨i+1,by omega,by simp,trivial,hn2⟩,by simp[intOf];omega⟩
  . have hiN:i=N:=(by omega)
    subst hiN;have ha2:l.all yN=true:=(by have:=ha.out;rwa [List.take_of_length_le (by omega)]at this)
    clear ha;go_wp2;go_ret;exact⟨by rw[ha2];rfl,rfl⟩
end Go.Proofs.YtacohbllbjgdgaaGreatDoor
