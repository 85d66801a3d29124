/- The typer: types are taken off, from the last on. -/
import Derived.Test.YtacohbllbjgdgaaGreatDoorXc
import Derived.Test.YtacohbllbjgdgaaGreatDoorMj
import Derived.Shelf.Abstract
import Derived.OwnWalkIn
import Derived.TacticsInMore
import Derived.LoopNIn
import Derived.LoopIn
import Derived.TacticsIn
import Derived.RegionIn
set_option linter.all false
set_option maxRecDepth 100000
set_option maxHeartbeats 4000000
namespace Go.Proofs.YtacohbllbjgdgaaGreatDoor
open Go.RowKit Go.Shelf
attribute [local go_sem] Oper.semAt_some
def encB (xs:List Int) (k:Nat):Array Value:= #[.int .i64 ((xs.length-1-k:Nat):Int),.int .i64 (xs[xs.length-1-k]?.getD 0)]
theorem back_in(n:Nat)(hn:1<=n)(Bx:Nat)(xs:List Int)(la:Option Addr)(lc:Nat)(hlen:xs.length<=9223372036854775807):SeqP Fence.wide n Tryz.prog 122 #[.pointer (some ⟨Bx,0,none⟩)] (encB xs) (λW=>W.cell? ⟨Bx,0,none⟩=some (.slice la xs.length lc)/\IntsIn W la xs) xs.length:=by
 intro l J Jp W hKp hY h0;refine callsIn_of_wp Tryz.func122 rfl trivial ?_ rfl;simp only[Tryz.ntmps122,List.size_toArray,List.length_cons,List.length_nil,Nat.reduceAdd,Nat.reduceSub,Array.replicate_succ,Array.replicate_zero,List.push_toArray,List.append_toArray,List.nil_append,List.cons_append];have hc0:=(hKp 0 W h0).1;have e0:IntKind.i64.wrap ((xs.length:Int)-1)=(xs.length:Int)-1:=(by rw[IntKind.wrap_i64];omega)
 gi_wp2
 gi_loopw [3] (λi wr=>∃k:Nat,k<=xs.length/\i=.int .i64 ((xs.length:Int)-1-k)/\J k wr) (λi _=>(intOf i+1).toNat)
 case atStart=>exact⟨0,Nat.zero_le _,by simp,h0⟩
 case round=>
  obtain⟨k,hk,rfl,hJs⟩:=hrel;obtain⟨hcx,hix⟩:=hKp k wr hJs
  by_cases hlt:k<xs.length
  . obtain⟨x,hx⟩:∃x,xs[xs.length-1-k]? =some x:=⟨_,List.getElem?_eq_getElem (by omega)⟩
    obtain⟨b,o,rfl,c1⟩:=hix.at hx;obtain⟨fn,tmps,assign,body,hy,hR⟩:=hY k wr hJs hlt;have hq:((xs.length-1-k:Nat):Int)=(xs.length:Int)-1-k:=(by omega)
    simp only[encB,hx,Option.getD_some]at hy;obtain⟨m,hm⟩:∃m,m=xs.length-1-k:=⟨_,rfl⟩
    rw[<-hm]at c1 hy hq;rw[<-hq];have i1:(0:Int)<=(m:Int):=(by omega)
    have i2:(m:Int)<(xs.length:Int):=(by omega)
    have e1:IntKind.i64.wrap ((m:Int)-1)=(m:Int)-1:=(by rw[IntKind.wrap_i64];omega)
    have hm2:=zh hm;have hq2:=zh hq;clear hm hq hx
    gi_wp2
    refine hR.mono ?_;rintro e W3 (⟨rfl,hJ3⟩ |⟨ch,rfl,hJx3⟩)
    . gi_wp2
      go_roundw
      case rel=>exact⟨k+1,by omega,by have:=hq2.out;congr 1;omega,hJ3⟩
      case measure=>have:=hq2.out;simp[intOf]
    . gi_wp2
      exact⟨rfl,.inr ⟨ch,rfl,hJx3⟩⟩
  . obtain rfl:k=xs.length:=by omega
    have hneg:¬(0:Int)<=(xs.length:Int)-1-(xs.length:Int):=(by omega)
    gi_wp2
    go_end0;exact .inl ⟨⟨_,rfl⟩,hJs⟩
theorem backward_any(a:Option Addr)(n c:Nat)(w:World):Calls Tryz.prog 103 #[.slice a n c] w λe w'=>e=.returned (.func (.func 122) #[] #[.pointer (some ⟨w.heap.size,0,none⟩)])/\w'=w.alloc (.cells #[.slice a n c] 28):=by go_enter Tryz.func103,Tryz.ntmps103;go_wp2;go_ret;exact⟨rfl,rfl⟩
structure Off (w:World) (p:Nat) (sv fv:Value) (b:Nat):Prop where
 lt:b<w.heap.size
 p:b≠p
 s:sv.ownBlock≠some b
 f:fv.ownBlock≠some b
theorem Off.tw{w w':World}{p:Nat}{sv fv sv' fv':Value}{b:Nat}(h:Off w p sv fv b)(t:Tw p sv fv sv' fv' w w'):Off w' p sv' fv' b/\w'.heap[b]? =w.heap[b]? :=
 ⟨⟨Nat.lt_of_lt_of_le h.lt t.size,h.p,own_no t.s h.lt h.s,own_no t.f h.lt h.f⟩,t.block b h.lt h.p h.s h.f⟩
def Cs (w w':World):Prop:=w.heap.size<=w'.heap.size/\∀(k:Nat) (o:Obj),w.heap[k]? =some o->o.isCells=true->w'.heap[k]? =some o
theorem Cs.of_grown{w w':World}{row:Option Nat}(hg:w.grownBy w' row)(hr:∀r,row=some r->∃o:Obj,w.heap[r]? =some o/\o.isCells=false):Cs w w':=
 ⟨hg.size,λk o hk hc=>(grownBy_keeps_cells hg hr hk hc).trans hk⟩
theorem Cs.keeps{w w':World}(h:Cs w w'):Keeps w w':=λa v hv=>by
 obtain⟨o,ho,hc⟩:=cells_of_cell hv;exact(World.cell?_of_block ((h.2 _ _ ho hc).trans ho.symm)).trans hv
theorem LiB.cs{w w':World}{p:Nat}{sv fv:Value}{a:Option Addr}{l:List Int}(h:LiB w p sv fv a l)(c:Cs w w'):LiB w' p sv fv a l:=⟨h.1.keep c.keeps,h.2⟩
theorem own_cells{w:World}{base:Nat}{e:TypeId}{size n:Nat}{v:Value}{xs:List Value}(h:w.ownsRow base e size v n xs){g:Nat}(hg:v.ownBlock=some g):∃o:Obj,w.heap[g]? =some o/\o.isCells=true:=by
 rcases h.2 with⟨rfl,_⟩ |⟨g',cap,cur,rfl,_,hgg,_⟩
 . simp[Value.ownBlock]at hg
 . simp[Value.ownBlock]at hg;subst hg;exact⟨_,hgg,rfl⟩
theorem own_cs{w w':World}{base:Nat}{e:TypeId}{size n:Nat}{v:Value}{xs:List Value}(h:w.ownsRow base e size v n xs)(c:Cs w w'):w'.ownsRow base e size v n xs:=
 own_block h λg hg=>by
  obtain⟨o,ho,hc⟩:=own_cells h hg;exact(c.2 g o ho hc).trans ho.symm
theorem TyP.cs{N p:Nat}{cv lv:Value}{w w':World}{sv fv:Value}{s:Ts}(h:TyP N p cv lv w sv fv s)(c:Cs w w'):TyP N p cv lv w' sv fv s:=by obtain⟨L,h1,h2,h3⟩:=h.o.fs;exact⟨c.2 _ _ h.b rfl,h.o.hN,Nat.le_trans h.o.hw c.1,own_cs h.o.st c,L,h1,own_cs h2 c,λq hq=>⟨(h3 q hq).1.cs c,(h3 q hq).2.cs c⟩⟩
theorem Tw.turn{p:Nat}{sv fv sv' fv':Value}{a w w':World}(h:Tw p sv fv sv' fv' a w){row:Option Nat}(hg:w.grownBy w' row)(hr:∀r,row=some r->a.heap.size<=r):Tw p sv fv sv' fv' a w':=
 ⟨hg.os.trans h.os,hg.tape.trans h.tape,hg.output.trans h.output,Nat.le_trans h.size hg.size,λk hk hp hs hf=>(hg.block k (Nat.lt_of_lt_of_le hk h.size) (λe=>by have:=hr k e.symm;omega)).trans (h.block k hk hp hs hf),h.s,h.f⟩
theorem TyP.others{N p:Nat}{cv lv:Value}{w w':World}{sv fv sv' fv':Value}{s:Ts}(h:TyP N p cv lv w sv fv s)(t:Tw p sv fv sv' fv' w w'):KeepsOthers w w':=
 ⟨t.size,λk o hk hc=>by
  obtain⟨L,_,h2,_⟩:=h.o.fs;refine(t.block k (Array.getElem?_eq_some_iff.1 hk).1 (λe=> ?_) (λe=> ?_) (λe=> ?_)).trans hk
  . subst e;rw[h.b]at hk;cases hk;cases hc
  . obtain⟨o',ho',hc'⟩:=own_cells h.o.st e;rw[hk]at ho';cases ho';rw[hc]at hc';cases hc'
  . obtain⟨o',ho',hc'⟩:=own_cells h2 e;rw[hk]at ho';cases ho';rw[hc]at hc';cases hc'⟩
theorem tPops_snoc:∀(l:List Int) (x:Int) (s:Ts),yX (l++[x]) s=(yX l s).bind λu=>(zK x u).bind λq=>.ok q.2
 | [],x,s=>rfl
 |t::r,x,s=>by
   show(zK t s).bind (λq=>yX (r++[x]) q.2)=((zK t s).bind λq=>yX r q.2).bind _
   cases zK t s with
   |error n=>rfl
   |ok q=>exact tPops_snoc r x q.2
theorem tPops_err:∀(l r:List Int) (s:Ts) (n:Int),yX l s=.error n->yX (l++r) s=.error n
 | [],r,s,n,h=>by cases h
 |t::l,r,s,n,h=>by
   change (zK t s).bind (λq=>yX l q.2)=.error n at h
   show(zK t s).bind (λq=>yX (l++r) q.2)=.error n
   cases hp:zK t s with
   |error m=>rw[hp]at h;exact h
   |ok q=>rw[hp]at h;exact tPops_err l r q.2 n h
def PopI (N p:Nat) (cv lv:Value) (w:World) (sv fv:Value) (s:Ts) (B0 Bx:Nat) (l:List Int) (la:Option Addr) (lc:Nat) (k:Nat) (W:World):Prop:=
 ∃sk sv',yX (l.reverse.take k) s=.ok sk/\Wf sk/\TyP N p cv lv W sv' fv sk/\Tw p sv fv sv' fv w W/\LiB W p sv' fv la l/\
  (Off W p sv' fv B0/\W.heap[B0]? =some (.cells #[.pointer (some ⟨p,0,none⟩)] 95 (0,0)))/\Off W p sv' fv Bx/\W.heap[Bx]? =some (.cells #[.slice la l.length lc] 28 (0,0))
def PopP (p:Nat) (w:World) (sv fv:Value) (s:Ts) (l:List Int) (ch:List PanicEntry) (W:World):Prop:=
 ∃m,yX l.reverse s=.error m/\ch=jS m/\∃sv' fv',Tw p sv fv sv' fv' w W
theorem pops_any{N p:Nat}{cv lv:Value}{w:World}{sv fv:Value}{s:Ts}(h:TyP N p cv lv w sv fv s)(hw:Wf s){l:List Int}{la:Option Addr}{lc:Nat}(hl:LiB w p sv fv la l)(ht:∀t∈l,tyo t):Calls Tryz.prog 83 #[.pointer (some ⟨p,0,none⟩),.slice la l.length lc] w (xJ N p cv lv w sv fv (qZ l s)):=by
 have hlen:l.length<=9223372036854775807:=hl.1.1;have hnl:Below w.heap.size w ((w.alloc (.cells #[.pointer (some ⟨p,0,none⟩)] 95)).alloc (.cells #[.slice la l.length lc] 28)):=((Below.refl _ w).alloc (Nat.le_refl _) _).alloc (by simp) _
 have hoff:∀b,w.heap.size<=b->b≠p/\sv.ownBlock≠some b/\fv.ownBlock≠some b:=λb hb=>by
  obtain⟨L,_,h2,_⟩:=h.o.fs;exact⟨λe=>by have:=lt_of_block h.b;omega,λe=>by have:=(h.o.st.lt _ e).2;omega,λe=>by have:=(h2.lt _ e).2;omega⟩
 refine calls_of_wpF (n:=5) Tryz.func83 rfl ?_;simp only[Tryz.ntmps83,List.size_toArray,List.length_cons,List.length_nil,Nat.reduceAdd,Nat.reduceSub,Array.replicate_succ,Array.replicate_zero,List.push_toArray,List.append_toArray,List.nil_append,List.cons_append];refine wpF_seq (n:=5) ?_
 gi_wp2
 refine wpF_seq (n:=5) ?_
 gi_wp2_with (refine⟨trivial,?_⟩;gi_at_call 103;refine(callsIn_wide.2 (backward_any _ _ _ _)).mono ?_;rintro e w' ⟨rfl,rfl⟩)
 refine wpF_block ?_
 refine wpF_rangeFunc_P (n:=5) Tryz.func83 (gf:=122) (lb:= #[.pointer (some ⟨w.heap.size+1,0,none⟩)]) rfl (enters_of Tryz.func122 (by kernel_rfl) rfl) (back_in 4 (by omega) (w.heap.size+1) l la lc hlen) (λ_=>rfl)
  (PopI N p cv lv w sv fv s w.heap.size (w.heap.size+1) l la lc) (PopP p w sv fv s l) ?hI ?hIp ?hK ?h0
  (λk=>{tmps:= #[.pointer (some ⟨p,0,none⟩),.slice la l.length lc,.pointer (some ⟨w.heap.size,0,none⟩),undef,undef,.int .i64 (l[l.length-1-k]?.getD 0),.slice la l.length lc,.func (.func 122) #[] #[.pointer (some ⟨w.heap.size+1,0,none⟩)],.int .i64 ((l.length-1-k:Nat):Int),.int .i64 (l[l.length-1-k]?.getD 0),undef,undef,undef],defers:=[]}) ?assign ?body ?done ?pan
 case hI=>
  rintro k W W' row ⟨sk,sv',e1,e2,e3,e4,e5,⟨e6,e7⟩,e8,e9⟩ hg hr;have hc:=Cs.of_grown hg (λr e=>(hr r e).2);have hlo:∀r,row=some r->w.heap.size<=r:=λr e=>by have:=(hr r e).1;simp at this;omega
  exact⟨sk,sv',e1,e2,e3.cs hc,e4.turn hg hlo,e5.cs hc,⟨⟨Nat.lt_of_lt_of_le e6.lt hg.size,e6.p,e6.s,e6.f⟩,hc.2 _ _ e7 rfl⟩,⟨Nat.lt_of_lt_of_le e8.lt hg.size,e8.p,e8.s,e8.f⟩,hc.2 _ _ e9 rfl⟩
 case hIp=>rintro ch W W' row ⟨m,e1,e2,sv',fv',t⟩ hg hr;exact⟨m,e1,e2,sv',fv',t.turn hg (λr e=>by have:=(hr r e).1;simp at this;omega)⟩
 case hK=>rintro k W ⟨sk,sv',e1,e2,e3,e4,e5,⟨e6,e7⟩,e8,e9⟩;exact⟨by rw[cell_of_row W _ 0 _ _ _ e9];rfl,e5.1⟩
 case h0=>
  have o1:=hoff w.heap.size (Nat.le_refl _);have o2:=hoff (w.heap.size+1) (by omega);refine⟨s,sv,rfl,hw,h.step hnl,.of_below hnl,hl.tw (.of_below hnl),⟨⟨by simp<;>omega,o1.1,o1.2.1,o1.2.2⟩,?_⟩,⟨by simp<;>omega,o2.1,o2.2.1,o2.2.2⟩,?_⟩
  . exact(Below.heap_alloc _ _ _ (by simp)).trans (World.alloc_heap_new w _)
  . have:=World.alloc_heap_new (w.alloc (.cells #[.pointer (some ⟨p,0,none⟩)] 95)) (.cells #[.slice la l.length lc] 28)
    rwa [World.size_alloc]at this
 case assign=>
  intro l' k W K hK;unfold encB
  gi_wp2
  exact hK
 case body=>
  rintro l' k W ⟨sk,sv',e1,e2,e3,e4,e5,⟨e6,e7⟩,e8,e9⟩ hk;obtain⟨x,hx⟩:∃x,l[l.length-1-k]? =some x:=⟨_,List.getElem?_eq_getElem (by omega)⟩
  have hxt:tyo x:=ht x (List.mem_of_getElem? hx);have hr:l.reverse[k]? =some x:=(by rw[List.getElem?_reverse (by omega)];exact hx)
  have c0:W.cell? ⟨w.heap.size,0,none⟩=some (.pointer (some ⟨p,0,none⟩)):=(by rw[cell_of_row W _ 0 _ _ _ e7];rfl)
  have hp:=pop_any e3 e2 (t:=x) (t':=x) (.inr ⟨hxt,rfl⟩);have hps:=pop_sm e2 x;have htk:l.reverse.take (k+1)=l.reverse.take k++[x]:=(by rw[List.take_add_one,hr];rfl)
  simp only[hx,Option.getD_some]
  gi_wp2_with (refine⟨trivial,?_⟩;gi_at_call 99;refine(CallsIn.inRound l' (callsIn_wide.2 hp)).mono ?_)
  rintro e w' hq;cases hpq:zK x sk with
  |error m=>
    rw[hpq]at hq;obtain⟨rfl,sv2,fv2,t2⟩:=hq;have hm:yX (l.reverse.take (k+1)) s=.error m:=(by rw[htk,tPops_snoc,e1];show(zK x sk).bind _=_;rw[hpq];rfl)
    refine⟨rfl,e3.others t2,m,?_,rfl,sv2,fv2,e4.trans t2⟩;have:=tPops_err _ (l.reverse.drop (k+1)) _ _ hm
    rwa [List.take_append_drop]at this
  |ok q=>
    rw[hpq]at hq hps;obtain⟨rfl,sv2,h2,t2⟩:=hq;have hm:yX (l.reverse.take (k+1)) s=.ok q.2:=(by rw[htk,tPops_snoc,e1];show(zK x sk).bind _=_;rw[hpq];rfl)
    have hall:KeepsOthers W w'/\PopI N p cv lv w sv fv s w.heap.size (w.heap.size+1) l la lc (k+1) w':=
     ⟨e3.others t2,q.2,sv2,hm,hps.1,h2,e4.trans t2,e5.tw t2,⟨(e6.tw t2).1,(e6.tw t2).2.trans e7⟩,(e8.tw t2).1,(e8.tw t2).2.trans e9⟩
    replace hall:=zh hall;clear hm hpq htk hps hp hr e1 e2 e3 e4 e5 e6 e7 e8 e9 h2 t2
    gi_wp2
    exact hall.out
 case done=>
  rintro D W hD ⟨sk,sv',e1,e2,e3,e4,_⟩ hDk;rw[List.take_of_length_le (by rw[List.length_reverse];exact Nat.le_refl _)]at e1;have hlo:w.heap.size<=D:=(by simp at hD;omega)
  refine⟨by simp,.inl ⟨_,_,rfl,run_takeDeferred hDk,?_⟩⟩;refine⟨_,results_none rfl _ _ _,?_⟩;have hX:qZ l s=.ok sk:=e1;rw[hX];exact⟨rfl,sv',e3.cs (Cs.of_grown (grownBy_putObj' W D _) (λr e=>by cases e;exact⟨_,hDk,rfl⟩)),e4.turn (grownBy_putObj' W D _) (λr e=>by cases e;exact hlo)⟩
 case pan=>
  rintro D ch W hD ⟨m,e1,rfl,sv',fv',t⟩ hDk;have hlo:w.heap.size<=D:=(by simp at hD;omega)
  refine⟨by simp,.inl ⟨_,_,rfl,run_takeDeferred hDk,?_⟩⟩;have hX:qZ l s=.error m:=e1;rw[hX];exact⟨rfl,sv',fv',t.turn (grownBy_putObj' W D _) (λr e=>by cases e;exact hlo)⟩
end Go.Proofs.YtacohbllbjgdgaaGreatDoor
namespace Go.Proofs.YtacohbllbjgdgaaGreatDoor
open Go.RowKit
structure EnvAt (w:World) (c:Nat) (lv:Value) (E:Ev):Prop where
 types:∃a k,w.cell? ⟨c,0,none⟩=some (.slice a E.types.length k)/\RowsIn TypeAt 2 w a E.types
 tables:∃a k,w.cell? ⟨c,3,none⟩=some (.slice a E.tables k)
 mems:∃a k,w.cell? ⟨c,4,none⟩=some (.slice a E.mems k)
 globals:∃(a:Option Addr) (k:Nat) (gl:List (Int×Bool×One)),w.cell? ⟨c,5,none⟩=some (.slice a gl.length k)/\RowsIn GlobalAt 9 w a gl/\E.globals=gl.map λg=>(g.1,g.2.1)
 funcs:∃a k,w.cell? ⟨c,10,none⟩=some (.slice a E.funcs.length k)/\RowsIn TypeAt 2 w a E.funcs
 locals:∃a k,lv=.slice a E.locals.length k/\IntsIn w a E.locals
theorem EnvAt.keep{w w':World}(f:Keeps w w'){c:Nat}{lv:Value}{E:Ev}(h:EnvAt w c lv E):EnvAt w' c lv E:=by obtain⟨⟨a0,k0,h0,r0⟩,⟨a3,k3,h3⟩,⟨a4,k4,h4⟩,⟨a5,k5,gl,h5,r5,e5⟩,⟨a6,k6,h6,r6⟩,⟨a7,k7,e7,r7⟩⟩:=h;exact⟨⟨a0,k0,f _ _ h0,r0.keep λ_ _ _=>.keep f⟩,⟨a3,k3,f _ _ h3⟩,⟨a4,k4,f _ _ h4⟩,⟨a5,k5,gl,f _ _ h5,r5.keep λ_ _ _=>.keep f,e5⟩,⟨a6,k6,f _ _ h6,r6.keep λ_ _ _=>.keep f⟩,⟨a7,k7,e7,r7.keep f⟩⟩
structure Cx (w0:World) (N p c:Nat) (lv:Value) (E:Ev) (w:World) (sv fv:Value) (s:Ts):Prop where
 t:TyP N p (.pointer (some ⟨c,0,none⟩)) lv w sv fv s
 wf:Wf s
 b:Below w0.heap.size w0 w
 p0:w0.heap.size=p
 e0:EnvAt w0 c lv E
 ok:EvOk E
section
variable {w0:World} {N p c:Nat} {lv:Value} {E:Ev} {w w':World} {sv fv sv' fv':Value} {s:Ts}
theorem Cx.env(h:Cx w0 N p c lv E w sv fv s):EnvAt w c lv E:=h.e0.keep (zA h.b)
theorem Cx.step(h:Cx w0 N p c lv E w sv fv s)(b:Below w.heap.size w w'):Cx w0 N p c lv E w' sv fv s:=⟨h.t.step b,h.wf,h.b.trans (b.mono h.b.size),h.p0,h.e0,h.ok⟩
theorem Cx.go(h:Cx w0 N p c lv E w sv fv s){u:Ts}(hu:Wf u)(t:TyP N p (.pointer (some ⟨c,0,none⟩)) lv w' sv' fv' u)(tw:Tw p sv fv sv' fv' w w'):Cx w0 N p c lv E w' sv' fv' u:=
 ⟨t,hu,h.b.trans (by rw[h.p0];exact h.t.o.below tw),h.p0,h.e0,h.ok⟩
theorem Cx.old(h:Cx w0 N p c lv E w sv fv s){ao:Option Addr}{l:List Int}(hl:IntsIn w0 ao l):LiB w p sv fv ao l:=by
 have hN:=h.t.o.hN;obtain⟨h1,h2⟩:=h.t.o.low;refine .old (M:=p) (hl.keep (zA h.b)) ?_ (Nat.le_refl _) (λg hg=>by have:=h1 g hg;omega) (λg hg=>by have:=h2 g hg;omega)
 rcases hl.2 with rfl |⟨b,o,rfl,hc⟩
 . exact .inl rfl
 . cases l with
   |nil=>exact .inl rfl
   |cons x r=>
     refine .inr λad e=> ?_;cases e;have h3:b<w0.heap.size:=World.block_lt_of_cell? _ _ (hc 0 x rfl);have hp:=h.p0
     show b<p
     omega
end
def endF (N p:Nat) (cv lv:Value) (w:World) (sv fv:Value) (x:Except Int Ts) (e:Ending) (w':World):Prop:=
 match x with
 |.ok t=>e=.returned (.tuple #[])/\∃sv' fv',TyP N p cv lv w' sv' fv' t/\Tw p sv fv sv' fv' w w'
 |.error n=>e=.panicked (jS n)/\∃sv' fv',Tw p sv fv sv' fv' w w'
section
variable {N p:Nat} {cv lv:Value} {w w' wa:World} {sv fv:Value} {s:Ts}
theorem qH(h:TyP N p cv lv w sv fv s)(hw:Wf s){t t':Int}(ht:(t=0/\t'=2)\/(tyo t/\t'=t)){q:Int×Ts}(hq:zK t s=.ok q):Calls Tryz.prog 99 #[.pointer (some ⟨p,0,none⟩),.int .i64 t'] w λe w'=>e=.returned (.int .i64 (jG 1 q.1))/\∃sv',TyP N p cv lv w' sv' fv q.2/\Tw p sv fv sv' fv w w':=by
 have:=pop_any h hw ht;rw[hq]at this;exact this
theorem qN(h:TyP N p cv lv w sv fv s)(hw:Wf s){t t':Int}(ht:(t=0/\t'=2)\/(tyo t/\t'=t)){n:Int}(hq:zK t s=.error n):Calls Tryz.prog 99 #[.pointer (some ⟨p,0,none⟩),.int .i64 t'] w λe w'=>e=.panicked (jS n)/\∃sv' fv',Tw p sv fv sv' fv' w w':=by
 have:=pop_any h hw ht;rw[hq]at this;exact this
theorem pops_ok(h:TyP N p cv lv w sv fv s)(hw:Wf s){l:List Int}{la:Option Addr}{lc:Nat}(hl:LiB w p sv fv la l)(ht:∀t∈l,tyo t){u:Ts}(hq:qZ l s=.ok u):Calls Tryz.prog 83 #[.pointer (some ⟨p,0,none⟩),.slice la l.length lc] w λe w'=>e=.returned (.tuple #[])/\∃sv',TyP N p cv lv w' sv' fv u/\Tw p sv fv sv' fv w w':=by
 have:=pops_any (lc:=lc) h hw hl ht;rw[hq]at this;exact this
theorem pops_er(h:TyP N p cv lv w sv fv s)(hw:Wf s){l:List Int}{la:Option Addr}{lc:Nat}(hl:LiB w p sv fv la l)(ht:∀t∈l,tyo t){n:Int}(hq:qZ l s=.error n):Calls Tryz.prog 83 #[.pointer (some ⟨p,0,none⟩),.slice la l.length lc] w λe w'=>e=.panicked (jS n)/\∃sv' fv',Tw p sv fv sv' fv' w w':=by
 have:=pops_any (lc:=lc) h hw hl ht;rw[hq]at this;exact this
theorem enc_tyo{t:Int}(h:tyo t):jG 1 t=t:=by unfold jG;unfold tyo at h;rw[if_neg (by omega)]
theorem enc_map{l:List Int}(h:∀t∈l,tyo t):l.map (jG 1)=l:=by
 induction l with
 |nil=>rfl
 |cons x r ih=>rw[List.map_cons,enc_tyo (h x List.mem_cons_self),ih λt ht=>h t (List.mem_cons_of_mem _ ht)]
theorem push_ty(h:TyP N p cv lv w sv fv s){l:List Int}{la:Option Addr}{lc:Nat}(hl:IntsIn w la l)(ht:∀t∈l,tyo t)(hb:s.st.length+l.length<=1099511627776):Calls Tryz.prog 95 #[.pointer (some ⟨p,0,none⟩),.slice la l.length lc] w λe w'=>e=.returned (.tuple #[])/\∃sv',TyP N p cv lv w' sv' fv (zN l s)/\Tw p sv fv sv' fv w w':=
 push_any (lc:=lc) h (by rw[enc_map ht];exact hl) hb
theorem ints_one1(w:World)(v:Int):IntsIn (w.alloc (.cells #[.int .i64 v] 3)) (some ⟨w.heap.size,0,none⟩) [v]:=
 ⟨by simp,.inr ⟨_,_,rfl,λi x hx=>by
  have hi:i=0:=(by have:=(List.getElem?_eq_some_iff.1 hx).1;simp at this;omega)
  subst hi;simp at hx;subst hx;exact World.cell?_alloc_at _ _ _ 0 (by simp)⟩⟩
theorem vS(h:TyP N p cv lv w sv fv s){t v:Int}(hv:v=jG 1 t)(hb:s.st.length+1<=1099511627776):Calls Tryz.prog 95 #[.pointer (some ⟨p,0,none⟩),.slice (some ⟨w.heap.size,0,none⟩) 1 1] (w.alloc (.cells #[.int .i64 v] 3)) λe w'=>e=.returned (.tuple #[])/\∃sv',TyP N p cv lv w' sv' fv (zN [t] s)/\Tw p sv fv sv' fv w w':=by
 have ha:=Below.of_alloc w (.cells #[.int .i64 v] 3);have:=push_any (l:=[t]) (la:=some ⟨w.heap.size,0,none⟩) (lc:=1) (h.step ha) (by rw[List.map_singleton,<-hv];exact ints_one1 w v) hb;refine this.mono ?_;rintro e w' ⟨rfl,sv',h1,t1⟩;exact⟨rfl,sv',h1,(Tw.of_below ha).trans t1⟩
theorem zR{t:Int}{s:Ts}{q:Int×Ts}(h:zK t s=.ok q):q.2.st.length<=s.st.length:=by
 unfold zK at h;split at h
 . cases h
 . split at h
   . split at h
     . cases h;exact Nat.le_refl _
     . cases h
   . split at h
     . cases h
     . rename_i x r hst;split at h
       . cases h
       . cases h;rw[hst];simp
theorem xW:∀(l:List Int) {s u:Ts},yX l s=.ok u->u.st.length<=s.st.length
 | [],s,u,h=>by cases h;exact Nat.le_refl _
 |t::r,s,u,h=>by
   change (zK t s).bind (λq=>yX r q.2)=.ok u at h;cases hp:zK t s with
   |error n=>rw[hp]at h;cases h
   |ok q=>rw[hp]at h;exact Nat.le_trans (xW r h) (zR hp)
theorem tPopL_wf{s u:Ts}(hw:Wf s){l:List Int}(h:qZ l s=.ok u):Wf u/\Kf s u:=by have:=popL_sm hw l;rw[h]at this;exact⟨this.1,this.2.1⟩
theorem qO{s:Ts}(hw:Wf s){t:Int}{q:Int×Ts}(h:zK t s=.ok q):Wf q.2/\Kf s q.2/\ok01 q.1:=by have:=pop_sm hw t;rw[h]at this;exact⟨this.1,this.2.1,this.2.2.1⟩
theorem calls_any(h:TyP N p cv lv w sv fv s)(hw:Wf s){t:List Int×List Int}{pa ra:Option Addr}{pc rc:Nat}(h1:LiB w p sv fv pa t.1)(h2:LiB w p sv fv ra t.2)(t1:∀x∈t.1,tyo x)(t2:∀x∈t.2,tyo x)(b2:s.st.length+t.2.length<=1099511627776):Calls Tryz.prog 100 #[.pointer (some ⟨p,0,none⟩),.agg #[.slice pa t.1.length pc,.slice ra t.2.length rc]] w (xJ N p cv lv w sv fv (vW t s)):=by
 have ha:=Below.of_alloc w (.cells #[.slice pa t.1.length pc,.slice ra t.2.length rc] 44);have tw1:Tw p sv fv sv fv w (w.alloc (.cells #[.slice pa t.1.length pc,.slice ra t.2.length rc] 44)):=.of_below ha;cases hq:qZ t.1 s with
 |error n=>
   have hX:vW t s=.error n:=(by unfold vW;rw[hq];rfl)
   rw[hX];have hc:=pops_er (lc:=pc) (h.step ha) hw (h1.tw tw1) t1 hq;clear hX hq;go_enter Tryz.func100,Tryz.ntmps100;go_wp2_with fail;refine hc.mono ?_;rintro e w2 ⟨rfl,sv2,fv2,tw2⟩;go_wp2;exact⟨rfl,rfl,sv2,fv2,tw1.trans tw2⟩
 |ok u=>
   have hX:vW t s=.ok (zN t.2 u):=(by unfold vW;rw[hq];rfl)
   rw[hX];have hc:=pops_ok (lc:=pc) (h.step ha) hw (h1.tw tw1) t1 hq;have hle:u.st.length<=s.st.length:=xW _ hq
   have hoff:Off (w.alloc (.cells #[.slice pa t.1.length pc,.slice ra t.2.length rc] 44)) p sv fv w.heap.size:=by obtain⟨L,_,h3,_⟩:=h.o.fs;exact⟨by simp,λe=>by have:=lt_of_block h.b;omega,λe=>by have:=(h.o.st.lt _ e).2;omega,λe=>by have:=(h3.lt _ e).2;omega⟩
   clear hX hq;go_enter Tryz.func100,Tryz.ntmps100;go_wp2_with fail;refine hc.mono ?_;rintro e w2 ⟨rfl,sv2,h3,tw2⟩
   have c1:w2.cell? ⟨w.heap.size,1,none⟩=some (.slice ra t.2.length rc):=by rw[World.cell?_of_block (hoff.tw tw2).2];exact World.cell?_alloc_at _ _ _ 1 (by simp)
   have hl2:=(h2.tw tw1).tw tw2;go_wp2_with fail;refine(push_ty (lc:=rc) h3 hl2.1 t2 (by omega)).mono ?_;rintro e w3 ⟨rfl,sv3,h4,tw3⟩;go_wp2;go_end0;exact⟨rfl,sv3,h4,(tw1.trans tw2).trans tw3⟩
end
theorem TyP.off{N p:Nat}{cv lv:Value}{w:World}{sv fv:Value}{s:Ts}(h:TyP N p cv lv w sv fv s)(o:Obj):Off (w.alloc o) p sv fv w.heap.size:=by obtain⟨L,_,h3,_⟩:=h.o.fs;exact⟨by simp,λe=>by have:=lt_of_block h.b;omega,λe=>by have:=(h.o.st.lt _ e).2;omega,λe=>by have:=(h3.lt _ e).2;omega⟩
end Go.Proofs.YtacohbllbjgdgaaGreatDoor
