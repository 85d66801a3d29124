/- Lists of instructions in given blocks alone. -/
import Derived.Test.YtacohbllbjgdgaaGreatDoorZa
import Derived.Deep.AppendSrc
import Derived.Deep.AppendLies
import Derived.Deep.RegionLaw
import Derived.Test.YtacohbllbjgdgaaGreatDoorWa
import Derived.Deep.RegionHeld3
import Derived.Deep.Cut
import Derived.Deep.CutRange
import Derived.Orders
import Derived.RegionTactic
set_option linter.all false
set_option maxRecDepth 100000
set_option maxHeartbeats 2000000
namespace Go.Proofs.YtacohbllbjgdgaaGreatDoor
open Go.RowKit
def IntsR (R:Nat->Prop) (w:World) (ao:Option Addr) (l:List Int):Prop:=
 l.length<=9223372036854775807/\(l=[]\/∃b o,ao=some ⟨b,o,none⟩/\R b/\∀i x,l[i]? =some x->w.cell? ⟨b,o+i,none⟩=some (.int .i64 x))
def IlR (R:Nat->Prop) (w:World) (b o:Nat):Il->Prop
 |.nil=>True
 |.cons op x y n ls body els rest=>
   (w.cell? ⟨b,o,none⟩=some (.int .i64 op)/\w.cell? ⟨b,o+1,none⟩=some (.int .i64 x)/\w.cell? ⟨b,o+2,none⟩=some (.int .i64 y)/\w.cell? ⟨b,o+3,none⟩=some (.int .i64 n))/\
   (∃ao c,w.cell? ⟨b,o+4,none⟩=some (.slice ao ls.length c)/\IntsR R w ao ls)/\
   (∃ao c,w.cell? ⟨b,o+5,none⟩=some (.slice ao body.len c)/\body.len<=9223372036854775807/\(body=.nil\/∃b2 o2,ao=some ⟨b2,o2,none⟩/\R b2/\IlR R w b2 o2 body))/\
   (∃ao c,w.cell? ⟨b,o+6,none⟩=some (.slice ao els.len c)/\els.len<=9223372036854775807/\(els=.nil\/∃b2 o2,ao=some ⟨b2,o2,none⟩/\R b2/\IlR R w b2 o2 els))/\
   IlR R w b (o+7) rest
def SlR (R:Nat->Prop) (w:World) (ao:Option Addr) (l:Il):Prop:=l=.nil\/∃b o,ao=some ⟨b,o,none⟩/\R b/\IlR R w b o l
theorem IntsR.ints{R:Nat->Prop}{w:World}{ao:Option Addr}{l:List Int}(h:IntsR R w ao l):IntsIn w ao l:=by
 rcases h with⟨hl,h |⟨b,o,e,_,h⟩⟩
 . exact⟨hl,.inl h⟩
 . exact⟨hl,.inr ⟨b,o,e,h⟩⟩
theorem IlR.at {R:Nat->Prop} {w:World}:∀(l:Il) (b o:Nat),IlR R w b o l->IlAt w b o l
 |.nil,_,_,_=>trivial
 |.cons op x y n ls body els rest,b,o,h=>by
   obtain⟨h0,⟨a4,k4,h4,i4⟩,⟨a5,k5,h5,l5,i5⟩,⟨a6,k6,h6,l6,i6⟩,hr⟩:=h;refine⟨h0,⟨a4,k4,h4,i4.ints⟩,⟨a5,k5,h5,l5,?_⟩,⟨a6,k6,h6,l6,?_⟩,IlR.at rest b (o+7) hr⟩
   . rcases i5 with e |⟨b2,o2,e,_,i5⟩
     . exact .inl e
     . exact .inr ⟨b2,o2,e,IlR.at body b2 o2 i5⟩
   . rcases i6 with e |⟨b2,o2,e,_,i6⟩
     . exact .inl e
     . exact .inr ⟨b2,o2,e,IlR.at els b2 o2 i6⟩
theorem SlR.il{R:Nat->Prop}{w:World}{ao:Option Addr}{l:Il}(h:SlR R w ao l):IlIn w ao 0 l:=by
 rcases h with h |⟨b,o,e,_,h⟩
 . exact .inl h
 . exact .inr ⟨b,o,e,by simpa using IlR.at _ _ _ h⟩
def KeepsR (R S:Nat->Prop) (w w':World):Prop:=(∀b,R b->b<w.heap.size->w'.heap[b]? =w.heap[b]?)/\(∀b,R b->b<w.heap.size->S b)
theorem KeepsR.c{R S:Nat->Prop}{w w':World}(f:KeepsR R S w w')(a:Addr)(v:Value)(h:R a.block)(hc:w.cell? a=some v):w'.cell? a=some v:=(World.cell?_of_block (f.1 _ h (World.block_lt_of_cell? w _ hc))).trans hc
theorem IntsR.keep{R S:Nat->Prop}{w w':World}{ao:Option Addr}{l:List Int}(f:KeepsR R S w w')(h:IntsR R w ao l):IntsR S w' ao l:=by
 rcases h with⟨hl,h |⟨b,o,e,hb,h⟩⟩
 . exact⟨hl,.inl h⟩
 . refine⟨hl,?_⟩;cases l with
   |nil=>exact .inl rfl
   |cons x r=>have hlt:=World.block_lt_of_cell? w _ (h 0 x rfl);exact .inr ⟨b,o,e,f.2 b hb hlt,λi x hx=>f.c _ _ hb (h i x hx)⟩
theorem IlR.keep {R S:Nat->Prop} {w w':World} (f:KeepsR R S w w'):∀(l:Il) (b o:Nat),R b->IlR R w b o l->IlR S w' b o l
 |.nil,_,_,_,_=>trivial
 |.cons op x y n ls body els rest,b,o,hb,h=>by
   obtain⟨⟨h0,h1,h2,h3⟩,⟨a4,k4,h4,i4⟩,⟨a5,k5,h5,l5,i5⟩,⟨a6,k6,h6,l6,i6⟩,hr⟩:=h;refine⟨⟨f.c _ _ hb h0,f.c _ _ hb h1,f.c _ _ hb h2,f.c _ _ hb h3⟩,⟨a4,k4,f.c _ _ hb h4,i4.keep f⟩,⟨a5,k5,f.c _ _ hb h5,l5,?_⟩,⟨a6,k6,f.c _ _ hb h6,l6,?_⟩,IlR.keep f rest b (o+7) hb hr⟩
   . rcases i5 with e |⟨b2,o2,e,hb2,i5⟩
     . exact .inl e
     . cases body with
       |nil=>exact .inl rfl
       |cons q1 q2 q3 q4 q5 q6 q7 q8=>have hlt:=World.block_lt_of_cell? w _ i5.1.1;exact .inr ⟨b2,o2,e,f.2 b2 hb2 hlt,IlR.keep f _ b2 o2 hb2 i5⟩
   . rcases i6 with e |⟨b2,o2,e,hb2,i6⟩
     . exact .inl e
     . cases els with
       |nil=>exact .inl rfl
       |cons q1 q2 q3 q4 q5 q6 q7 q8=>have hlt:=World.block_lt_of_cell? w _ i6.1.1;exact .inr ⟨b2,o2,e,f.2 b2 hb2 hlt,IlR.keep f _ b2 o2 hb2 i6⟩
theorem SlR.keep{R S:Nat->Prop}{w w':World}{ao:Option Addr}{l:Il}(f:KeepsR R S w w')(h:SlR R w ao l):SlR S w' ao l:=by
 rcases h with h |⟨b,o,e,hb,h⟩
 . exact .inl h
 . cases l with
   |nil=>exact .inl rfl
   |cons q1 q2 q3 q4 q5 q6 q7 q8=>have hlt:=World.block_lt_of_cell? w _ h.1.1;exact .inr ⟨b,o,e,f.2 b hb hlt,IlR.keep f _ b o hb h⟩
theorem KeepsR.below{R:Nat->Prop}{w w':World}(hb:Below w.heap.size w w'):KeepsR R R w w':=⟨λb _ hl=>hb.block b hl,λb h _=>h⟩
theorem KeepsR.grown{w w':World}{B g g':Nat}{row:Option Nat}(hrow:row=some g\/row=none)(hg:w.grownBy w' row)(hg':row=some g'\/w.heap.size<=g'):KeepsR (λb=>B<=b/\some b≠row) (λb=>B<=b/\some b≠some g') w w':=by
 refine⟨λb hr hl=>hg.block b hl hr.2,λb hr hl=>⟨hr.1,λe=> ?_⟩⟩
 rcases hg' with h |h
 . exact hr.2 (by rw[h,e])
 . have:=Option.some.inj e;omega
def NewRow (H:Nat) (w1:World) (n:Nat) (news:List Value) (v:Value):Prop:=
 ∃a c,v=.slice a n c/\(n=0\/∃g,a=some ⟨g,0,none⟩/\H<=g/\∀j u,news[j]? =some u->w1.cell? ⟨g,j,none⟩=some u)
theorem run_app_own{P:Program}(w:World)(t ty e:TypeId)(i:TypeInfo)(z:Value)(size bytes:Nat)(ht:P.underlying t=some (.slice e))(hi:P.info? e=some i)(hz:i.zero=some z)(hsize:i.size=size)(hby:i.bytes=bytes)(h:Nat)(x:Value)(n:Nat)(news:List Value)(hs:Src P size t x n news w)(h63:n<=9223372036854775807)(hfit:n*bytes<=281474976710656):∃v w1,(Builtin.append_ #[t,t] ty #[.slice (some ⟨h,0,none⟩) 0 0,x]).run P w=.ok v w1/\NewRow (min h w.heap.size) w1 n news v/\Below w.heap.size w w1/\(z.cells.size=size->0<n->w1.ownsRow 0 e size v n news):=by
 subst hsize;subst hby
 by_cases hn:n=0
 . subst hn;have hnil:news=[]:=List.eq_nil_of_length_eq_zero (by rw[hs.newsLen];omega);subst hnil;have:=run_append_room_src (P:=P) (w:=w) t t ty e i ht hi h 0 0 0 x 0 [] hs (Nat.le_refl _) (λj hj=>absurd hj (by simp)) (λj hj=>absurd hj (by simp));exact⟨_,_,this,⟨_,_,rfl,.inl rfl⟩,Below.refl _ _,λ_ h=>absurd h (by omega)⟩
 . have hpos:0<n:=Nat.pos_of_ne_zero hn;have hcap:Builtin.nextslicecap (0+n) 0*i.bytes<=281474976710656:=(by rw[Nat.zero_add,nextslicecap_zero hpos];exact hfit)
   have:=run_append_grow_src (P:=P) (w:=w) t t ty e i z ht hi hz (some ⟨h,0,none⟩) 0 0 [] (run_firstCells_some (P:=P) w.drew i.size 0 ⟨h,0,none⟩ 0 0 [] (by simp) (λj u hj=>by simp at hj)) x n news hs (by omega) (by omega) hcap;have hlen:=hs.newsLen;have hge:=grownCap_ge w (0+n) 0 e;have hcm:grownCap w (0+n) 0 e<=maxLen:=grownCap_le_maxLen w (0+n) 0 e (by simp only[maxLen];omega);refine⟨_,_,this,⟨_,_,by rw[Nat.zero_add],.inr ⟨_,rfl,Nat.min_le_right _ _,λj u hj=> ?_⟩⟩,(Below.refl _ _).drew.alloc (Nat.le_refl _) _,λhzs _=>⟨hlen,.inr ⟨w.heap.size,_,_,by rw[Nat.zero_add],Nat.zero_le _,heap_alloc_new w.drew _,by omega,hcm,?_,?_⟩⟩⟩
   rotate_left
   . simp only[Array.size_append,List.size_toArray,size_zeroCells,hzs,List.length_nil,List.nil_append,hlen,<-Nat.add_mul];congr 1;omega
   . simp only[Array.toList_append,List.nil_append];rw[<-hlen];exact List.take_left
   have e1:w.heap.size=w.drew.heap.size:=rfl;rw[e1];refine(World.cell?_alloc_at _ _ _ j rfl).trans ?_;rw[<-Array.getElem?_toList];simp only[List.nil_append,Array.toList_append];rw[List.getElem?_append_left (List.getElem?_eq_some_iff.1 hj).1];exact hj
theorem run_app_fresh{P:Program}(w:World)(t ty e:TypeId)(i:TypeInfo)(z:Value)(size bytes:Nat)(ht:P.underlying t=some (.slice e))(hi:P.info? e=some i)(hz:i.zero=some z)(hsize:i.size=size)(hby:i.bytes=bytes)(h:Nat)(x:Value)(n:Nat)(news:List Value)(hs:Src P size t x n news w)(h63:n<=9223372036854775807)(hfit:n*bytes<=281474976710656):∃v w1,(Builtin.append_ #[t,t] ty #[.slice (some ⟨h,0,none⟩) 0 0,x]).run P w=.ok v w1/\NewRow (min h w.heap.size) w1 n news v/\Below w.heap.size w w1:=by
 obtain⟨v,w1,h1,h2,h3,_⟩:=run_app_own w t ty e i z size bytes ht hi hz hsize hby h x n news hs h63 hfit;exact⟨v,w1,h1,h2,h3⟩
theorem wp_app_fresh{P:Program}(w:World){o:Oper}{a:Act}{K:Act->World->Prop}{Q:Exit->Act->World->Prop}(s x:Operand)(t:TypeId)(ho:o.op=.call {callee:=.builtin .append,args:= #[s,x],argTypes:= #[t,t]})(e:TypeId)(i:TypeInfo)(z:Value)(size bytes:Nat)(ht:P.underlying t=some (.slice e))(hi:P.info? e=some i)(hz:i.zero=some z)(hsize:i.size=size)(hby:i.bytes=bytes)(h:Nat)(xv:Value)(n:Nat)(news:List Value)(hsv:a.eval s=.slice (some ⟨h,0,none⟩) 0 0)(hxv:a.eval x=xv)(hs:Src P size t xv n news w)(h63:n<=9223372036854775807)(hfit:n*bytes<=281474976710656)(hK:∀v w1,NewRow (min h w.heap.size) w1 n news v->Below w.heap.size w w1->K (a.put o.dst v) w1):o.wp P a w K Q:=by
 obtain⟨v,w1,hr,h2,h3⟩:=run_app_fresh (P:=P) w t o.type e i z size bytes ht hi hz hsize hby h xv n news hs h63 hfit;unfold Oper.wp execOp;simp only[ho,resolve,invoke,builtin,Sem.run_bind,Sem.run_pure,Result.andThen_ok,List.map_toArray,List.map_cons,List.map_nil,hsv,hxv,hr];exact hK v w1 h2 h3
theorem wpList_app_fresh{P:Program}(w:World){ops:Array Oper}{rest:List Oper}{o:Oper}{a:Act}{Q:Exit->Act->World->Prop}(hgd:o.guard=none)(s x:Operand)(t:TypeId)(ho:o.op=.call {callee:=.builtin .append,args:= #[s,x],argTypes:= #[t,t]})(e:TypeId)(i:TypeInfo)(z:Value)(size bytes:Nat)(ht:P.underlying t=some (.slice e))(hi:P.info? e=some i)(hz:i.zero=some z)(hsize:i.size=size)(hby:i.bytes=bytes)(h:Nat)(xv:Value)(n:Nat)(news:List Value)(hsv:a.eval s=.slice (some ⟨h,0,none⟩) 0 0)(hxv:a.eval x=xv)(hs:Src P size t xv n news w)(h63:n<=9223372036854775807)(hfit:n*bytes<=281474976710656)(hK:∀v w1,NewRow (min h w.heap.size) w1 n news v->Below w.heap.size w w1->wpList P ops Q rest (a.put o.dst v) w1):wpList P ops Q (o::rest) a w:=
 wpList_plain hgd λ_ hK'=>wp_app_fresh w s x t ho e i z size bytes ht hi hz hsize hby h xv n news hsv hxv hs h63 hfit λv w1 h2 h3=>hK' _ _ (hK v w1 h2 h3)
theorem jO{P:Program}(w:World){ops:Array Oper}{o:Oper}{a:Act}{K:Act->World->Prop}{Q:Exit->Act->World->Prop}{E:Prop}(hgd:o.guard=none)(s x:Operand)(t:TypeId)(ho:o.op=.call {callee:=.builtin .append,args:= #[s,x],argTypes:= #[t,t]})(e:TypeId)(i:TypeInfo)(z:Value)(size bytes:Nat)(ht:P.underlying t=some (.slice e))(hi:P.info? e=some i)(hz:i.zero=some z)(hsize:i.size=size)(hby:i.bytes=bytes)(h:Nat)(xv:Value)(n:Nat)(news:List Value)(hsv:a.eval s=.slice (some ⟨h,0,none⟩) 0 0)(hxv:a.eval x=xv)(hs:Src P size t xv n news w)(h63:n<=9223372036854775807)(hfit:n*bytes<=281474976710656)(hK:∀v w1,NewRow (min h w.heap.size) w1 n news v->Below w.heap.size w w1->K (a.put o.dst v) w1):if Region.wanted o (yielded ops a.tmps)=true then Oper.wp P o a w K Q else E:=by
 have hw:Region.wanted o (yielded ops a.tmps)=true:=(by simp[Region.wanted,hgd])
 rw[if_pos hw];exact wp_app_fresh w s x t ho e i z size bytes ht hi hz hsize hby h xv n news hsv hxv hs h63 hfit hK
theorem wp_app_own{P:Program}(w:World){o:Oper}{a:Act}{K:Act->World->Prop}{Q:Exit->Act->World->Prop}(s x:Operand)(t:TypeId)(ho:o.op=.call {callee:=.builtin .append,args:= #[s,x],argTypes:= #[t,t]})(e:TypeId)(i:TypeInfo)(z:Value)(size bytes:Nat)(ht:P.underlying t=some (.slice e))(hi:P.info? e=some i)(hz:i.zero=some z)(hsize:i.size=size)(hby:i.bytes=bytes)(h:Nat)(xv:Value)(n:Nat)(news:List Value)(hsv:a.eval s=.slice (some ⟨h,0,none⟩) 0 0)(hxv:a.eval x=xv)(hs:Src P size t xv n news w)(h63:n<=9223372036854775807)(hfit:n*bytes<=281474976710656)(hK:∀v w1,NewRow (min h w.heap.size) w1 n news v->Below w.heap.size w w1->(z.cells.size=size->0<n->w1.ownsRow 0 e size v n news)->K (a.put o.dst v) w1):o.wp P a w K Q:=by
 obtain⟨v,w1,hr,h2,h3,h4⟩:=run_app_own (P:=P) w t o.type e i z size bytes ht hi hz hsize hby h xv n news hs h63 hfit;unfold Oper.wp execOp;simp only[ho,resolve,invoke,builtin,Sem.run_bind,Sem.run_pure,Result.andThen_ok,List.map_toArray,List.map_cons,List.map_nil,hsv,hxv,hr];exact hK v w1 h2 h3 h4
theorem step_app_own{P:Program}(w:World){ops:Array Oper}{o:Oper}{a:Act}{K:Act->World->Prop}{Q:Exit->Act->World->Prop}{E:Prop}(hgd:o.guard=none)(s x:Operand)(t:TypeId)(ho:o.op=.call {callee:=.builtin .append,args:= #[s,x],argTypes:= #[t,t]})(e:TypeId)(i:TypeInfo)(z:Value)(size bytes:Nat)(ht:P.underlying t=some (.slice e))(hi:P.info? e=some i)(hz:i.zero=some z)(hsize:i.size=size)(hby:i.bytes=bytes)(h:Nat)(xv:Value)(n:Nat)(news:List Value)(hsv:a.eval s=.slice (some ⟨h,0,none⟩) 0 0)(hxv:a.eval x=xv)(hs:Src P size t xv n news w)(h63:n<=9223372036854775807)(hfit:n*bytes<=281474976710656)(hK:∀v w1,NewRow (min h w.heap.size) w1 n news v->Below w.heap.size w w1->(z.cells.size=size->0<n->w1.ownsRow 0 e size v n news)->K (a.put o.dst v) w1):if Region.wanted o (yielded ops a.tmps)=true then Oper.wp P o a w K Q else E:=by
 have hw:Region.wanted o (yielded ops a.tmps)=true:=(by simp[Region.wanted,hgd])
 rw[if_pos hw];exact wp_app_own w s x t ho e i z size bytes ht hi hz hsize hby h xv n news hsv hxv hs h63 hfit hK
def qU (l:List Int):List Value:=l.map λx=>Value.int .i64 x
theorem src_nil{P:Program}{w:World}{size:Nat}{t e:TypeId}(ht:P.underlying t=some (.slice e))(a:Option Addr)(c:Nat):Src P size t (.slice a 0 c) 0 [] w:=by
 cases a with
 |some ad=>exact Src.ofSlice w ht ad 0 c [] (by simp) (λj u h=>by simp at h) (λu h=>by cases h)
 |none=>exact⟨.inl ⟨_,ht⟩,λ_=>rfl,by simp[Builtin.firstCells],by simp[Builtin.firstCells],by simp,λu h=>by cases h⟩
theorem src_ints{w:World}{a:Option Addr}{l:List Int}{c:Nat}(h:IntsIn w a l):Src Tryz.prog 1 28 (.slice a l.length c) l.length (qU l) w:=by
 rcases h.2 with rfl |⟨b,o,rfl,hc⟩
 . exact src_nil Tryz.underlying28 a c
 . refine Src.ofSlice w Tryz.underlying28 ⟨b,o,none⟩ l.length c (qU l) (by simp[qU]) (λj u hj=> ?_) (λu hu=> ?_)
   . unfold qU at hj;rw[List.getElem?_map]at hj;obtain⟨x,hx,rfl⟩:=Option.map_eq_some_iff.1 hj;have e:(⟨b,o,none⟩:Addr).add j=⟨b,o+j,none⟩:=(by unfold Addr.add;split<;>simp_all)
     rw[e];exact hc j x hx
   . obtain⟨x,_,rfl⟩:=List.mem_map.1 hu;rfl
theorem yY{H:Nat}{w1:World}{l:List Int}{v:Value}(h:NewRow H w1 l.length (qU l) v)(hl:l.length<=9223372036854775807):∃a c,v=.slice a l.length c/\IntsR (λb=>H<=b) w1 a l:=by
 obtain⟨a,c,rfl,h⟩:=h;refine⟨a,c,rfl,hl,?_⟩
 rcases h with h |⟨g,rfl,hg,hc⟩
 . exact .inl (List.eq_nil_of_length_eq_zero h)
 . exact .inr ⟨g,0,rfl,hg,λi x hx=>by
    have:=hc i (.int .i64 x) (by unfold qU;rw[List.getElem?_map,hx];rfl);simpa using this⟩
theorem info3:(Tryz.prog.info? 3).map (λi=>(i.zero,i.size,i.bytes))=some (some (.int .i64 0),1,8):=by kernel_rfl
structure ERec where
 op:Int
 x:Int
 y:Int
 n:Int
 ls:List Int
 body:Il
 els:Il
 a4:Option Addr
 c4:Nat
 a5:Option Addr
 c5:Nat
 a6:Option Addr
 c6:Nat
def eV (t:ERec):List Value:=[.int .i64 t.op,.int .i64 t.x,.int .i64 t.y,.int .i64 t.n,.slice t.a4 t.ls.length t.c4,.slice t.a5 t.body.len t.c5,.slice t.a6 t.els.len t.c6]
structure EOk (R:Nat->Prop) (w:World) (t:ERec):Prop where
 i4:IntsR R w t.a4 t.ls
 l5:t.body.len<=9223372036854775807
 i5:SlR R w t.a5 t.body
 l6:t.els.len<=9223372036854775807
 i6:SlR R w t.a6 t.els
theorem EOk.keep{R S:Nat->Prop}{w w':World}{t:ERec}(f:KeepsR R S w w')(h:EOk R w t):EOk S w' t:=⟨h.i4.keep f,h.l5,h.i5.keep f,h.l6,h.i6.keep f⟩
def vU:List ERec->Il->Il
 | [],r=>r
 |t::ts,r=>.cons t.op t.x t.y t.n t.ls t.body t.els (vU ts r)
theorem ilOf_snoc (t:ERec) (r:Il):∀ts,vU (ts++[t]) r=vU ts (.cons t.op t.x t.y t.n t.ls t.body t.els r)
 | []=>rfl
 |s::ts=>by
   show Il.cons _ _ _ _ _ _ _ (vU (ts++[t]) r)=_
   rw[ilOf_snoc t r ts];rfl
theorem row_il {R:Nat->Prop} {w:World} {g:Nat}:∀(ts:List ERec) (o:Nat),(∀j u,(ts.flatMap eV)[j]? =some u->w.cell? ⟨g,o+j,none⟩=some u)->(∀t∈ts,EOk R w t)->IlR R w g o (vU ts .nil)
 | [],_,_,_=>trivial
 |t::ts,o,hc,hok=>by
   have ht:=hok t (List.mem_cons_self ..)
   have hc0:∀j u,(eV t)[j]? =some u->w.cell? ⟨g,o+j,none⟩=some u:=λj u hj=>hc j u (by
    rw[List.flatMap_cons,List.getElem?_append_left (List.getElem?_eq_some_iff.1 hj).1];exact hj)
   have hr:=row_il ts (o+7) (λj u hj=>by
    have:=hc (7+j) u (by
     rw[List.flatMap_cons,List.getElem?_append_right (by simp[eV])];simpa[eV]using hj)
    have e:o+(7+j)=o+7+j:=(by omega)
    rw[e]at this;exact this) (λs hs=>hok s (List.mem_cons_of_mem _ hs))
   refine⟨⟨hc0 0 _ rfl,hc0 1 _ rfl,hc0 2 _ rfl,hc0 3 _ rfl⟩,⟨_,_,hc0 4 _ rfl,ht.i4⟩,⟨_,_,hc0 5 _ rfl,ht.l5,ht.i5⟩,⟨_,_,hc0 6 _ rfl,ht.l6,ht.i6⟩,hr⟩
structure Fin7 (H:Nat) (u W:World) (v5 v6:Value):Prop where
 s5:W.cell? ⟨H,5,none⟩=some v5
 s6:W.cell? ⟨H,6,none⟩=some v6
 lo:∀j v,j≠5->j≠6->u.cell? ⟨H,j,none⟩=some v->W.cell? ⟨H,j,none⟩=some v
 far:∀p v,p.block≠H->u.cell? p=some v->W.cell? p=some v
 size:W.heap.size=u.heap.size
 below:∀B (a:World),B<=H->Below B a u->Below B a W
 blk:∀b,b≠H->W.heap[b]? =u.heap[b]?
theorem fin_a(H:Nat)(u:World)(v5 v6 x5 x6:Value)(h5:u.cell? ⟨H,5,none⟩=some x5)(h6:u.cell? ⟨H,6,none⟩=some x6):Fin7 H u ((u.setCell ⟨H,5,none⟩ v5).setCell ⟨H,6,none⟩ v6) v5 v6:=
 ⟨zE (xK h5) (.inr (by decide)),xK (zE h6 (.inr (by decide))),λj v a b h=>zE (zE h (.inr (λe=>a e.symm))) (.inr (λe=>b e.symm)),
  λp v hp h=>by rw[World.cell?_setCell_far _ ⟨H,6,none⟩ p _ (λe=>hp e.symm),World.cell?_setCell_far _ ⟨H,5,none⟩ p _ (λe=>hp e.symm)];exact h,
  by simp[World.setCell],λB a hB h=>(h.setCell (p:=⟨H,5,none⟩) hB _).setCell (p:=⟨H,6,none⟩) hB _,λb hb=>(Below.heap_setCell _ ⟨H,6,none⟩ _ b hb).trans (Below.heap_setCell _ ⟨H,5,none⟩ _ b hb)⟩
theorem KeepsR.grown2{w w':World}{B g':Nat}{row:Option Nat}(hg:w.grownBy w' row)(hg':row=some g'\/w.heap.size<=g'):KeepsR (λb=>B<=b/\some b≠row) (λb=>B<=b/\some b≠some g') w w':=by
 refine⟨λb hr hl=>hg.block b hl hr.2,λb hr hl=>⟨hr.1,λe=> ?_⟩⟩
 rcases hg' with h |h
 . exact hr.2 (by rw[h,e])
 . have:=Option.some.inj e;omega
theorem KeepsR.trans{R S T:Nat->Prop}{a b c:World}(f:KeepsR R S a b)(g:KeepsR S T b c)(hs:a.heap.size<=b.heap.size)(hRS:∀k,R k->S k\/a.heap.size<=k):KeepsR R T a c:=by exact⟨λk hk hl=>(g.1 k (f.2 k hk hl) (by omega)).trans (f.1 k hk hl),λk hk hl=>g.2 k (f.2 k hk hl) (by omega)⟩
theorem KeepsR.imp{R S T:Nat->Prop}{w w':World}(f:KeepsR S T w w')(h:∀k,R k->k<w.heap.size->S k):KeepsR R T w w':=
 ⟨λk hk hl=>f.1 k (h k hk hl) hl,λk hk hl=>f.2 k (h k hk hl) hl⟩
theorem Below.by_grown{w w':World}(h:Below w.heap.size w w')(row:Option Nat):w.grownBy w' row:=⟨h.os,h.tape,h.output,h.size,λk hk _=>h.block k hk⟩
theorem own_below{w w':World}{base:Nat}{e:TypeId}{size:Nat}{v:Value}{n:Nat}{xs:List Value}(h:w.ownsRow base e size v n xs)(hb:Below w.heap.size w w'):w'.ownsRow base e size v n xs:=
 h.kept (Below.by_grown hb none) (by cases v.ownBlock with |none=>exact .inl rfl |some k=>exact .inr (by simp))
def CopiesC (l:Il):Prop:=∀(ao:Option Addr) (c:Nat) (w:World),l.len<=1600->Sml l->IlIn w ao 0 l->
 Calls Tryz.prog 23 #[.slice ao l.len c] w λe w'=>∃ao' c',e=.returned (.slice ao' l.len c')/\SlR (λb=>w.heap.size<=b) w' ao' l/\Below w.heap.size w w'
theorem copies_step(l:Il)(hs:Sub CopiesC l):CopiesC l:=by
 intro ao c w hl hsm hw;obtain⟨N,hN⟩:∃N,l.len=N:=⟨_,rfl⟩
 rw[hN]at hl ⊢;go_enter Tryz.func23,Tryz.ntmps23;go_wp2_with fail
 go_loopw [3,4] (λvo vi wr=>∃(i:Nat) (r:Il) (ts:List ERec),vi=.int .i64 i/\i+r.len=N/\ts.length=i/\Hid (Below w.heap.size w wr)/\Hid (IlIn w ao i r)/\Hid (Sub CopiesC r)/\Hid (Sml r)/\Hid (l=vU ts r)/\
  Hid (wr.ownsRow w.heap.size 49 7 vo i (ts.flatMap eV))/\Hid (∀t∈ts,EOk (λb=>w.heap.size<=b/\some b≠vo.ownBlock) wr t)) (λ_ vi _=>N-(intOf vi).toNat)
 case atStart=>exact⟨0,l,[],rfl,by omega,rfl,zh (Below.refl _ _),zh hw,zh hs,zh hsm,zh rfl,zh (World.ownsRow_nil _ _ _ _),zh (λt ht=>by cases ht)⟩
 case round=>
  obtain⟨i,r,ts,rfl,hi,hts,hb,hr,hsub,hsml,hli,hown,hok⟩:=hrel;cases r with
  |nil=>
    have hiN:i=N:=(by simpa[Il.len]using hi)
    have hfin:∃ao' c',u3=.slice ao' N c'/\SlR (λb=>w.heap.size<=b) wr ao' l:=by
     rcases hown.out.2 with⟨h1,h2⟩ |⟨g,cap,cur,h1,h2,h3,_⟩
     . have hts0:ts=[]:=List.eq_nil_of_length_eq_zero (by omega);refine⟨none,0,by rw[h1,<-hiN,h2],.inl ?_⟩;rw[hli.out,hts0];rfl
     . refine⟨some ⟨g,0,none⟩,cap,by rw[h1,hiN],.inr ⟨g,0,rfl,h2,?_⟩⟩;rw[hli.out];refine row_il ts 0 (λj u hj=> ?_) (λt ht=>(hok.out t ht).keep ⟨λ_ _ _=>rfl,λb h _=>h.1⟩);have:=hown.out.cells (g:=g) (by rw[h1];rfl) j u hj;have e:(⟨g,0,none⟩:Addr).add j=⟨g,0+j,none⟩:=(by unfold Addr.add;split<;>simp_all)
       rw[e]at this;exact this
    obtain⟨ao',c',rfl,hfin⟩:=hfin;have hfin:=zh hfin;subst hiN;clear hok hown hli;go_wp2;go_ret;exact⟨ao',c',rfl,hfin.out,hb.out⟩
  |cons op x y n ls body els rest=>
    have hlen:i+(rest.len+1)=N:=hi;have hlt:i<N:=(by omega)
    obtain⟨b,o,a4,k4,a5,k5,a6,k6,rfl,hh,hrest⟩:=hr.out.head;obtain⟨c0,c1,c2,c3,c4,c5,c6,i4,l5,i5,l6,i6⟩:=hh;have kb:=zA hb.out;have d0:=kb _ _ c0;have d1:=kb _ _ c1;have d2:=kb _ _ c2;have d3:=kb _ _ c3;have d4:=kb _ _ c4;have d5:=kb _ _ c5;have d6:=kb _ _ c6;have hr2:=zh hrest;have hi4:=zh (i4.keep kb);have hi5:=zh (i5.keep kb);have hi6:=zh (i6.keep kb);obtain⟨m1,m2,m3,m4,m5,m6⟩:=hsml.out;clear c0 c1 c2 c3 c4 c5 c6 i4 i5 i6 hr hrest kb;obtain⟨i3,hi3,hz3,hs3,hb3⟩:=info_parts info3;obtain⟨W0,hW0⟩:∃W0,W0=(wr.alloc (.cells #[.int .i64 op,.int .i64 x,.int .i64 y,.int .i64 n,.slice a4 ls.length k4,.slice a5 body.len k5,.slice a6 els.len k6] 49)).alloc (.cells #[] 3):=⟨_,rfl⟩
    have hbW:Below wr.heap.size wr W0:=(by rw[hW0];exact((Below.refl _ _).alloc (Nat.le_refl _) _).alloc (by simp) _)
    have hsz:W0.heap.size=wr.heap.size+2:=(by rw[hW0];simp)
    have hsrc:Src Tryz.prog 1 28 (.slice a4 ls.length k4) ls.length (qU ls) W0:=src_ints (hi4.out.below hbW);have hbx:Box W0 wr.heap.size #[.int .i64 op,.int .i64 x,.int .i64 y,.int .i64 n,.slice a4 ls.length k4,.slice a5 body.len k5,.slice a6 els.len k6]:=(by rw[hW0];exact(box_new wr _ _).keep (keeps_new _ _))
    have hfr:∀j,W0.frozen? ⟨wr.heap.size,j,none⟩=false:=λj=>by rw[hW0,World.frozen?_alloc_past _ _ _ (by simp)];exact World.frozen?_alloc_at _ _ _ _ (by simp)
    have hl4:ls.length<=9223372036854775807:=hi4.out.1;have hbW:=zh hbW;have hbx:=zh hbx;have hfr:=zh hfr;subst hW0
    go_upto_region 7 with(first |(
     at_builtin
     refine wpList_app_fresh _ rfl _ _ _ rfl 3 i3 _ 1 8 Tryz.underlying28 hi3 hz3 hs3 hb3 (wr.heap.size+1) _ ls.length (qU ls) (by rfl) (by rfl) hsrc hl4 (by omega) ?_;intro v4 w1 hn4 hb4;obtain⟨a4',c4',rfl,i4'⟩:=yY hn4 hl4;clear hn4;have q4:w1.cell? ⟨wr.heap.size,4,none⟩=some (.slice a4 ls.length k4):=zA hb4 _ _ (hbx.out 4 _ rfl);have f4:w1.frozen? ⟨wr.heap.size,4,none⟩=false:=(hb4.frozen (by rw[hsz];simp)).trans (hfr.out 4)))
    have hmin:min (wr.heap.size+1) ((wr.alloc (.cells #[.int .i64 op,.int .i64 x,.int .i64 y,.int .i64 n,.slice a4 ls.length k4,.slice a5 body.len k5,.slice a6 els.len k6] 49)).alloc (.cells #[] 3)).heap.size=wr.heap.size+1:=(by rw[hsz];omega)
    rw[hmin]at i4';have hbw1:Below wr.heap.size wr w1:=hbW.out.trans (hb4.mono (by rw[hsz];omega));obtain⟨W,hW⟩:∃W,W=w1.setCell ⟨wr.heap.size,4,none⟩ (.slice a4' ls.length c4'):=⟨_,rfl⟩
    have hlt1:wr.heap.size<w1.heap.size:=Nat.lt_of_lt_of_le (by rw[hsz];omega) hb4.size;have hbW2:Below wr.heap.size wr W:=(by rw[hW];exact hbw1.setCell (p:=⟨wr.heap.size,4,none⟩) (Nat.le_refl _) _)
    have z:∀j v,j≠4->(#[.int .i64 op,.int .i64 x,.int .i64 y,.int .i64 n,.slice a4 ls.length k4,.slice a5 body.len k5,.slice a6 els.len k6]:Array Value)[j]? =some v->W.cell? ⟨wr.heap.size,j,none⟩=some v:=λj v hj hv=>by
     rw[hW];exact zE (zA hb4 _ _ (hbx.out j v hv)) (.inr (λe=>hj e.symm))
    have z0:=z 0 _ (by decide) rfl;have z1:=z 1 _ (by decide) rfl;have z2:=z 2 _ (by decide) rfl;have z3:=z 3 _ (by decide) rfl;have z4:W.cell? ⟨wr.heap.size,4,none⟩=some (.slice a4' ls.length c4'):=(by rw[hW];exact xK q4)
    have z5:W.cell? ⟨wr.heap.size,5,none⟩=some (.slice a5 body.len k5):=z 5 _ (by decide) rfl;have z6:W.cell? ⟨wr.heap.size,6,none⟩=some (.slice a6 els.len k6):=z 6 _ (by decide) rfl;have zf:∀j,W.frozen? ⟨wr.heap.size,j,none⟩=false:=λj=>by rw[hW,World.frozen?_setCell,hb4.frozen (p:=⟨wr.heap.size,j,none⟩) (by rw[hsz];show wr.heap.size<_;omega)];exact hfr.out j
    have z4':IntsR (λb=>wr.heap.size+1<=b) W a4' ls:=i4'.keep ⟨λb hb _=>by
     rw[hW];exact Below.heap_setCell w1 ⟨wr.heap.size,4,none⟩ _ b (by show b≠wr.heap.size;omega),λb hb _=>hb⟩
    have hltW:wr.heap.size<W.heap.size:=(by rw[hW];simpa[World.setCell]using hlt1)
    rw[<-hW];have Z4:=zh z4';have ZF:=zh zf;have ZB:=zh hbW2;have ZI5:=zh (hi5.out.below hbW2);have ZI6:=zh (hi6.out.below hbW2);clear z z4' zf hbW2 hW hlt1 hbw1 hmin i4' hb4 q4 f4 hsrc hbW hbx hfr hsz i3 hi3 hz3 hs3 hb3
    go_cut [] from 6 to 32 (λwx=>∃a5' c5' a6' c6',Hid (Box wx wr.heap.size #[.int .i64 op,.int .i64 x,.int .i64 y,.int .i64 n,.slice a4' ls.length c4',.slice a5' body.len c5',.slice a6' els.len c6'])/\
     Hid (EOk (λb=>wr.heap.size+1<=b) wx ⟨op,x,y,n,ls,body,els,a4',c4',a5',c5',a6',c6'⟩)/\Hid (Below wr.heap.size wr wx))
    case first=>
     go_region_law ((first |(have hB5:=B5;go_simp;go_at_call 23;refine(hsub.out.2.1 a6 k6 _ m3 m5 (ZI6.out.keep ((keeps_drew W).trans (zA B5)))).mono ?_;rintro e u2 ⟨ao6,co6,rfl,R6,B6⟩;have g5:u2.cell? ⟨wr.heap.size,5,none⟩=some (.slice a5 body.len k5):=zA B6 _ _ (zA B5 _ _ z5);have g6:u2.cell? ⟨wr.heap.size,6,none⟩=some (.slice a6 els.len k6):=zA B6 _ _ e6;have h5:u2.frozen? ⟨wr.heap.size,5,none⟩=false:=(B6.frozen (Nat.lt_of_lt_of_le hltW B5.size)).trans ((B5.frozen hltW).trans (ZF.out 5));have h6:u2.frozen? ⟨wr.heap.size,6,none⟩=false:=(B6.frozen (Nat.lt_of_lt_of_le hltW B5.size)).trans ((B5.frozen hltW).trans (ZF.out 6))) |(go_simp;go_at_call 23;refine(hsub.out.1 a5 k5 _ m2 m4 (ZI5.out.keep (keeps_drew _))).mono ?_;rintro e u1 ⟨ao5,co5,rfl,R5,B5⟩;have e6:u1.cell? ⟨wr.heap.size,6,none⟩=some (.slice a6 els.len k6):=zA B5 _ _ z6)))
     all_goals go_wp2_with fail
     all_goals go_meet
     all_goals(
      have hF:=fin_a wr.heap.size u2 (.slice ao5 body.len co5) (.slice ao6 els.len co6) _ _ g5 g6;have k1:Keeps W u2:=((keeps_drew W).trans (zA B5)).trans (zA B6);have hs1:W.heap.size<=u1.heap.size:=B5.size;have hs2:u1.heap.size<=u2.heap.size:=B6.size;refine⟨ao5,co5,ao6,co6,zh ?_,zh ⟨?_,?_,?_,?_,?_⟩,zh (hF.below _ _ (Nat.le_refl _) (ZB.out.trans (((Below.refl W.heap.size W).drew.trans (B5.trans (B6.mono hs1))).mono ZB.out.size)))⟩
      . intro j v hj
        match j,hj with
        |0,hj=>exact hF.lo 0 v (by decide) (by decide) (k1 _ _ (by rw[z0];exact hj))
        |1,hj=>exact hF.lo 1 v (by decide) (by decide) (k1 _ _ (by rw[z1];exact hj))
        |2,hj=>exact hF.lo 2 v (by decide) (by decide) (k1 _ _ (by rw[z2];exact hj))
        |3,hj=>exact hF.lo 3 v (by decide) (by decide) (k1 _ _ (by rw[z3];exact hj))
        |4,hj=>exact hF.lo 4 v (by decide) (by decide) (k1 _ _ (by rw[z4];exact hj))
        |5,hj=>rw[hF.s5];exact hj
        |6,hj=>rw[hF.s6];exact hj
        |j+7,hj=>simp at hj
      . exact Z4.out.keep ⟨λb hb hl=>(hF.blk b (by omega)).trans (((Below.refl W.heap.size W).drew.trans (B5.trans (B6.mono hs1))).block b hl),λb hb _=>hb⟩
      . show body.len<=_
        omega
      . exact R5.keep ⟨λb hb hl=>(hF.blk b (by have:W.heap.size<=b:=hb;omega)).trans (B6.block b hl),λb hb _=>by have:W.heap.size<=b:=hb;omega⟩
      . show els.len<=_
        omega
      . exact R6.keep ⟨λb hb hl=>hF.blk b (by have:u1.heap.size<=b:=hb;omega),λb hb _=>by have:u1.heap.size<=b:=hb;omega⟩)
    case rest=>
     obtain⟨a5',c5',a6',c6',hBx,hE,hBw⟩:=hcut;have y0:wc.cell? ⟨wr.heap.size,0,none⟩=some (.int .i64 op):=hBx.out 0 _ rfl;have y1:wc.cell? ⟨wr.heap.size,1,none⟩=some (.int .i64 x):=hBx.out 1 _ rfl;have y2:wc.cell? ⟨wr.heap.size,2,none⟩=some (.int .i64 y):=hBx.out 2 _ rfl;have y3:wc.cell? ⟨wr.heap.size,3,none⟩=some (.int .i64 n):=hBx.out 3 _ rfl;have y4:wc.cell? ⟨wr.heap.size,4,none⟩=some (.slice a4' ls.length c4'):=hBx.out 4 _ rfl;have y5:wc.cell? ⟨wr.heap.size,5,none⟩=some (.slice a5' body.len c5'):=hBx.out 5 _ rfl;have y6:wc.cell? ⟨wr.heap.size,6,none⟩=some (.slice a6' els.len c6'):=hBx.out 6 _ rfl;obtain⟨t,ht⟩:∃t:ERec,t=⟨op,x,y,n,ls,body,els,a4',c4',a5',c5',a6',c6'⟩:=⟨_,rfl⟩
     have hown2:=own_below hown.out hBw.out;have hlw:w.heap.size<=wc.heap.size:=Nat.le_trans hb.out.size hBw.out.size;have hrow:∀k,u3.ownBlock=some k->k<wr.heap.size:=λk e=>(hown.out.lt k e).2;rw[<-ht]at hE;have hev:eV t=[.int .i64 op,.int .i64 x,.int .i64 y,.int .i64 n,.slice a4' ls.length c4',.slice a5' body.len c5',.slice a6' els.len c6']:=(by rw[ht];rfl)
     have hlf:=ilOf_snoc t rest ts;have htf:Il.cons t.op t.x t.y t.n t.ls t.body t.els rest=.cons op x y n ls body els rest:=(by rw[ht])
     rw[htf]at hlf;have hlf:=zh (hli.out.trans hlf.symm);have hev:=zh hev;clear ht htf hsml hBx z0 z1 z2 z3 z4 z5 z6 Z4 ZF ZB ZI5 ZI6 hltW d0 d1 d2 d3 d4 d5 d6 hi4 hi5 hi6 m1 m2 m3 m4 m5;have hm6:=zh m6;clear m6;obtain⟨ie,hie,hze,hse,hbe⟩:=info_parts info45
     go_wp2_with (first |(
      at_builtin
      refine wpList_append_lies _ rfl _ _ _ rfl w.heap.size 49 ie _ 7 104 Tryz.underlying45 hie hze hse hbe rfl (by omega) u3 i (ts.flatMap eV) (by rfl) (hown2.alloc _)
       ⟨wc.heap.size,0,none⟩ 1 1 [.int .i64 op,.int .i64 x,.int .i64 y,.int .i64 n,.slice a4' ls.length c4',.slice a5' body.len c5',.slice a6' els.len c6'] (by rfl) (by rfl)
       (World.news_of_block (cs:= #[.int .i64 op,.int .i64 x,.int .i64 y,.int .i64 n,.slice a4' ls.length c4',.slice a5' body.len c5',.slice a6' els.len c6']) (t:=49) (fr:=(0,0)) (heap_alloc_new _ _)) (by intro u hu;simp only[List.mem_cons,List.mem_nil_iff,or_false]at hu;rcases hu with rfl |rfl |rfl |rfl |rfl |rfl |rfl<;>rfl)
       (by omega) (by unfold maxLen;omega) (by omega) (by simp;omega) (wc.heap.size+1) (by simp) ?_
      intro g cap w1 hown1 hgrow hat hlt1))
     rw[<-hev.out]at hown1;have hsr:=zh hsub.out.2.2
     have hown3:w1.ownsRow w.heap.size 49 7 (.slice (some ⟨g,0,none⟩) (i+1) cap) (i+1) ((ts++[t]).flatMap eV):=by rw[List.flatMap_append];simpa using hown1
     have hal:Below wc.heap.size wc (wc.alloc (.cells #[.int .i64 op,.int .i64 x,.int .i64 y,.int .i64 n,.slice a4' ls.length c4',.slice a5' body.len c5',.slice a6' els.len c6'] 49)):=(Below.refl _ _).alloc (Nat.le_refl _) _
     have hgg:u3.ownBlock=some g\/(wc.alloc (.cells #[.int .i64 op,.int .i64 x,.int .i64 y,.int .i64 n,.slice a4' ls.length c4',.slice a5' body.len c5',.slice a6' els.len c6'] 49)).heap.size<=g:=by
      rcases hat with h |h
      . exact .inl h
      . right;rw[h];simp
     have hk:KeepsR (λb=>w.heap.size<=b/\some b≠u3.ownBlock) (λb=>w.heap.size<=b/\some b≠some g) wc w1:=by refine((KeepsR.below (R:=λb=>w.heap.size<=b/\some b≠u3.ownBlock) hal).trans (KeepsR.grown2 hgrow hgg) hal.size (λk hk=>.inl hk))
     have hok2:∀s∈ts++[t],EOk (λb=>w.heap.size<=b/\some b≠(Value.slice (some ⟨g,0,none⟩) (i+1) cap).ownBlock) w1 s:=by
      intro s hs
      show EOk (λb=>w.heap.size<=b/\some b≠some g) w1 s
      rcases List.mem_append.1 hs with h |h
      . exact((hok.out s h).keep (KeepsR.below hBw.out)).keep hk
      . obtain rfl:=List.mem_singleton.1 h;refine hE.out.keep (hk.imp λk h1 h2=>⟨by have:=hb.out.size;omega,λe=> ?_⟩);have:=hrow k e.symm;omega
     have hbf:Below w.heap.size w w1:=(hb.out.trans ((hBw.out.trans (hal.mono hBw.out.size)).mono hb.out.size)).grown hgrow (by have:=hal.size;omega) (λk e=>(hown.out.lt k e).1);have hown3:=zh hown3;have hok2:=zh hok2;have hbf:=zh hbf;clear hgg hk hal hgrow hat hlt1 hown1 hown hok hown2 hE hev hrow hsub hb hBw;go_wp2;exact⟨⟨i+1,rest,ts++[t],by simp,by omega,by simp[hts],hbf,hr2,hsr,hm6,hlf,hown3,hok2⟩,by simp[intOf];omega⟩
theorem copies_any(l:Il):CopiesC l:=Il.each copies_step l
def leftN (listed:Array Bool):Nat:=listed.toList.countP (λb=> !b)
theorem left_set{listed:Array Bool}{i:Nat}(h:listed.getD i true=false):leftN (listed.setIfInBounds i true)+1=leftN listed:=by
 have hlt:i<listed.size:=by
  rcases Nat.lt_or_ge i listed.size with h' |h'
  . exact h'
  . simp[Array.getElem?_eq_none h']at h
 have hf:listed[i]=false:=(by simpa[hlt]using h)
 unfold leftN;rw[Array.toList_setIfInBounds];have hl:i<listed.toList.length:=(by simpa using hlt)
 have hg:listed.toList[i]=false:=(by simpa using hf)
 generalize listed.toList=l at hl hg;clear hlt hf h
 induction l generalizing i with
 |nil=>simp at hl
 |cons b r ih=>
   cases i with
   |zero=>simp at hg;subst hg;simp
   |succ i=>simp only[List.set_cons_succ,List.countP_cons];have:=ih (i:=i) (by simpa using hl) (by simpa using hg);omega
theorem getD_set_ne2{l:Array Bool}{i j:Nat}{c:Bool}(h:i≠j)(hh:(l.setIfInBounds i true).getD j c=true):l.getD j c=true:=by rw[getD_set_ne c h]at hh;exact hh
theorem wpAny_inv{P:Program}{md:Region.Mode}{ops:Array Oper}{Q:Exit->Act->World->Prop}(J:Array Bool->Act->World->Prop)(step:∀listed a w,J listed a w->∀i o,ops[i]? =some o->listed.getD i true=false->(∀e∈o.after,Region.binds md e=true->listed.getD e.on false=true)->wpOp P ops Q i (λa' w'=>J (listed.setIfInBounds i true) a' w') a w)(fin:∀listed a w,J listed a w->Region.ready md ops listed=[]->Q .normal a w):∀(fuel:Nat) (listed:Array Bool) (a:Act) (w:World),J listed a w->leftN listed<=fuel->wpAny P md ops Q fuel listed a w:=by
 intro fuel
 induction fuel with
 |zero=>
   intro listed a w hJ hl
   have hr:Region.ready md ops listed=[]:=by
    cases hrs:Region.ready md ops listed with
    |nil=>rfl
    |cons i r=>have hi:=(mem_ready.1 (show i∈Region.ready md ops listed by rw[hrs];exact List.mem_cons_self ..)).1;have:=left_set hi;omega
   exact⟨hr,fin listed a w hJ hr⟩
 |succ fuel ih=>intro listed a w hJ hl;refine⟨fin listed a w hJ,λi hi=> ?_⟩;obtain⟨h1,o,ho,hall⟩:=mem_ready.1 hi;exact wpOp_mono (λa' w' h=>ih _ a' w' h (by have:=left_set h1;omega)) (step listed a w hJ i o ho h1 hall)
def upd (f:Nat->Value) (s:Nat) (v:Value):Nat->Value:=λt=>if t=s then v else f t
def fr (A B C:Value) (f:Nat->Value):Act:={tmps:= #[A,B,C,f 3,undef,undef,undef,undef,undef,undef,f 10,f 11,f 12,f 13,f 14,f 15,f 16,f 17,f 18,f 19,f 20,f 21,f 22,f 23,f 24,f 25,f 26,f 27,f 28,f 29,f 30,undef,undef,undef,undef,undef,undef,undef,undef,undef,undef,undef,undef,undef,undef,undef,undef,undef,undef,undef,undef,undef,undef,undef,undef,undef,undef,undef,undef,undef,undef,undef,undef,undef,undef,undef,undef,undef,undef,undef,undef,undef,undef,undef,undef,undef,undef,undef,undef,undef,undef,undef,undef,undef,undef,undef,undef,undef,undef,undef,undef,undef,undef,undef,undef,undef,undef,undef,undef,undef,undef,undef,undef,undef,undef,undef,undef,undef,undef,undef,undef,undef,undef,undef,undef,undef,undef,undef,undef,undef,undef,undef,undef,undef,undef,undef,undef,undef,undef,undef,undef,undef,undef,undef,undef,undef,undef,undef,undef,undef,undef,undef,undef,undef,undef,undef,undef,undef,undef,undef,undef,undef,undef,undef,undef,undef,undef,undef,undef,undef,undef,undef,undef,undef,undef,undef,undef,undef,undef,undef,undef,undef,undef,undef,undef,undef,undef,undef,undef,undef],defers:=[]}
theorem flat_len {α:Type} {enc:α->List Value} {k:Nat} (hlen:∀x,(enc x).length=k):∀xs:List α,(xs.flatMap enc).length=xs.length*k
 | []=>by simp
 |x::r=>by
   rw[List.flatMap_cons,List.length_append,flat_len hlen r,hlen,List.length_cons,Nat.add_mul];omega
theorem flat_at {α:Type} {enc:α->List Value} {k:Nat} (hlen:∀x,(enc x).length=k):∀(xs:List α) (i r:Nat) (x:α) (u:Value),xs[i]? =some x->(enc x)[r]? =some u->(xs.flatMap enc)[i*k+r]? =some u
 | [],i,r,x,u,h,_=>by simp at h
 |y::l,0,r,x,u,h,hu=>by
   simp only[List.getElem?_cons_zero,Option.some.injEq]at h;subst h;rw[List.flatMap_cons,List.getElem?_append_left (by have:=(List.getElem?_eq_some_iff.1 hu).1;omega)];simpa using hu
 |y::l,i+1,r,x,u,h,hu=>by
   simp only[List.getElem?_cons_succ]at h;rw[List.flatMap_cons,List.getElem?_append_right (by rw[hlen,Nat.add_mul];omega)];have e:(i+1)*k+r-(enc y).length=i*k+r:=(by rw[hlen,Nat.add_mul];omega)
   rw[e];exact flat_at hlen l i r x u h hu
theorem flat_inv {α:Type} {enc:α->List Value} {k:Nat} (hlen:∀x,(enc x).length=k):∀(xs:List α) (j:Nat) (u:Value),(xs.flatMap enc)[j]? =some u->∃i r x,xs[i]? =some x/\j=i*k+r/\(enc x)[r]? =some u
 | [],j,u,h=>by simp at h
 |y::l,j,u,h=>by
   rw[List.flatMap_cons]at h
   by_cases hj:j<(enc y).length
   . rw[List.getElem?_append_left hj]at h;exact⟨0,j,y,rfl,by omega,h⟩
   . rw[List.getElem?_append_right (by omega)]at h;obtain⟨i,r,x,h1,h2,h3⟩:=flat_inv hlen l _ u h;refine⟨i+1,r,x,by simpa using h1,?_,h3⟩;rw[hlen]at h2 hj;rw[Nat.add_mul];omega
theorem flat_one{α:Type}{enc:α->List Value}(hone:∀x,∀u∈enc x,u.oneCell'=true)(xs:List α):∀u∈xs.flatMap enc,u.oneCell'=true:=by intro u hu;obtain⟨x,_,hx⟩:=List.mem_flatMap.1 hu;exact hone x u hx
theorem rows_src{α:Type}{F:World->Nat->Nat->α->Prop}{k:Nat}{enc:α->List Value}{t e:TypeId}{w:World}{a:Option Addr}{c:Nat}{xs:List α}(ht:Tryz.prog.underlying t=some (.slice e))(hlen:∀x,(enc x).length=k)(hone:∀x,∀u∈enc x,u.oneCell'=true)(hF:∀b o x,F w b o x->∀j u,(enc x)[j]? =some u->w.cell? ⟨b,o+j,none⟩=some u)(h:RowsIn F k w a xs):Src Tryz.prog k t (.slice a xs.length c) xs.length (xs.flatMap enc) w:=by
 rcases h.2 with rfl |⟨b,o,rfl,hc⟩
 . exact src_nil ht a c
 . refine Src.ofSlice w ht ⟨b,o,none⟩ xs.length c _ (flat_len hlen xs) (λj u hj=> ?_) (flat_one hone xs);obtain⟨i,r,x,h1,h2,h3⟩:=flat_inv hlen xs j u hj
   have e:(⟨b,o,none⟩:Addr).add j=⟨b,o+i*k+r,none⟩:=by rw[h2,Nat.add_assoc];unfold Addr.add;split<;>simp_all
   rw[e];exact hF b _ x (hc i x h1) r u h3
theorem NewRow.mono{H:Nat}{w w':World}{n:Nat}{news:List Value}{v:Value}(f:Keeps w w')(h:NewRow H w n news v):NewRow H w' n news v:=by
 obtain⟨a,c,rfl,h⟩:=h;refine⟨a,c,rfl,?_⟩
 rcases h with h |⟨g,e,hg,hc⟩
 . exact .inl h
 . exact .inr ⟨g,e,hg,λj u hj=>f _ _ (hc j u hj)⟩
theorem NewRow.le{H H':Nat}{w:World}{n:Nat}{news:List Value}{v:Value}(h:NewRow H w n news v)(hH:H'<=H):NewRow H' w n news v:=by
 obtain⟨a,c,rfl,h⟩:=h;refine⟨a,c,rfl,?_⟩
 rcases h with h |⟨g,e,hg,hc⟩
 . exact .inl h
 . exact .inr ⟨g,e,by omega,hc⟩
def impC (t:ByteArray×ByteArray×Int):List Value:=[.string t.1,.string t.2.1,.int .i64 t.2.2]
def limC (t:Int×Int×Bool):List Value:=[.int .i64 t.1,.int .i64 t.2.1,.bool t.2.2]
def jU (t:ByteArray×Int×Int):List Value:=[.string t.1,.int .i64 t.2.1,.int .i64 t.2.2]
theorem impC_one(t:ByteArray×ByteArray×Int):∀u∈impC t,u.oneCell'=true:=by
 intro u hu;simp only[impC,List.mem_cons,List.mem_nil_iff,or_false]at hu
 rcases hu with rfl |rfl |rfl<;>rfl
theorem limC_one(t:Int×Int×Bool):∀u∈limC t,u.oneCell'=true:=by
 intro u hu;simp only[limC,List.mem_cons,List.mem_nil_iff,or_false]at hu
 rcases hu with rfl |rfl |rfl<;>rfl
theorem expC_one(t:ByteArray×Int×Int):∀u∈jU t,u.oneCell'=true:=by
 intro u hu;simp only[jU,List.mem_cons,List.mem_nil_iff,or_false]at hu
 rcases hu with rfl |rfl |rfl<;>rfl
theorem imp_cells{w:World}(b o:Nat)(t:ByteArray×ByteArray×Int)(h:ImportAt w b o t):∀j u,(impC t)[j]? =some u->w.cell? ⟨b,o+j,none⟩=some u:=λj u hj=>by
 match j,hj with
 |0,hj=>simp[impC]at hj;subst hj;exact h.1.1
 |1,hj=>simp[impC]at hj;subst hj;exact h.2.1.1
 |2,hj=>simp[impC]at hj;subst hj;exact h.2.2
 |j+3,hj=>simp[impC]at hj
theorem lim_cells{w:World}(b o:Nat)(t:Int×Int×Bool)(h:LimitsAt w b o t):∀j u,(limC t)[j]? =some u->w.cell? ⟨b,o+j,none⟩=some u:=λj u hj=>by
 match j,hj with
 |0,hj=>simp[limC]at hj;subst hj;exact h.1
 |1,hj=>simp[limC]at hj;subst hj;exact h.2.1
 |2,hj=>simp[limC]at hj;subst hj;exact h.2.2
 |j+3,hj=>simp[limC]at hj
theorem exp_cells{w:World}(b o:Nat)(t:ByteArray×Int×Int)(h:ExportAt w b o t):∀j u,(jU t)[j]? =some u->w.cell? ⟨b,o+j,none⟩=some u:=λj u hj=>by
 match j,hj with
 |0,hj=>simp[jU]at hj;subst hj;exact h.1.1
 |1,hj=>simp[jU]at hj;subst hj;exact h.2.1
 |2,hj=>simp[jU]at hj;subst hj;exact h.2.2
 |j+3,hj=>simp[jU]at hj
theorem cells_imp{w:World}(b o:Nat)(t:ByteArray×ByteArray×Int)(h1:t.1.size<=9223372036854775807)(h2:t.2.1.size<=9223372036854775807)(h:∀j u,(impC t)[j]? =some u->w.cell? ⟨b,o+j,none⟩=some u):ImportAt w b o t:=
 ⟨⟨h 0 _ rfl,h1⟩,⟨h 1 _ rfl,h2⟩,h 2 _ rfl⟩
theorem cells_lim{w:World}(b o:Nat)(t:Int×Int×Bool)(h:∀j u,(limC t)[j]? =some u->w.cell? ⟨b,o+j,none⟩=some u):LimitsAt w b o t:=⟨h 0 _ rfl,h 1 _ rfl,h 2 _ rfl⟩
theorem cells_exp{w:World}(b o:Nat)(t:ByteArray×Int×Int)(h1:t.1.size<=9223372036854775807)(h:∀j u,(jU t)[j]? =some u->w.cell? ⟨b,o+j,none⟩=some u):ExportAt w b o t:=⟨⟨h 0 _ rfl,h1⟩,h 1 _ rfl,h 2 _ rfl⟩
theorem info73:(Tryz.prog.info? 82).map (λi=>(i.zero,i.size,i.bytes))=some (some (.agg #[.string ByteArray.empty,.string ByteArray.empty,.int .i64 0]),3,40):=by kernel_rfl
theorem info76:(Tryz.prog.info? 47).map (λi=>(i.zero,i.size,i.bytes))=some (some (.agg #[.int .i64 0,.int .i64 0,.bool false]),3,24):=by kernel_rfl
theorem info79:(Tryz.prog.info? 63).map (λi=>(i.zero,i.size,i.bytes))=some (some (.agg #[.string ByteArray.empty,.int .i64 0,.int .i64 0]),3,32):=by kernel_rfl
end Go.Proofs.YtacohbllbjgdgaaGreatDoor
