/- The typer: types are taken off, from the last on. -/
import Derived.Test.YtacohbllbjgdgaaGreatDoorXc
import Derived.Test.YtacohbllbjgdgaaGreatDoorMh
import Derived.Shelf.Abstract
import Derived.OwnWalkIn
import Derived.TacticsInMore
import Derived.LoopNIn
import Derived.LoopIn
import Derived.TacticsIn
import Derived.RegionIn
set_option linter.all false
set_option maxRecDepth 100000
set_option maxHeartbeats 4000000
namespace Go.Proofs.YtacohbllbjgdgaaGreatDoor
open Go.RowKit Go.Shelf
attribute [local go_sem] Oper.semAt_some
def encB (xs:List Int) (k:Nat):Array Value:= #[.int .i64 ((xs.length-1-k:Nat):Int),.int .i64 (xs[xs.length-1-k]?.getD 0)]
theorem back_in(n:Nat)(hn:1<=n)(Bx:Nat)(xs:List Int)(la:Option Addr)(lc:Nat)(hlen:xs.length<=9223372036854775807):SeqP Fence.wide n Tryz.prog 122 #[.pointer (some ⟨Bx,0,none⟩)] (encB xs) (λW=>W.cell? ⟨Bx,0,none⟩=some (.slice la xs.length lc)/\IntsIn W la xs) xs.length:=by
 intro l J Jp W hKp hY h0;refine callsIn_of_wp Tryz.func122 rfl trivial ?_ rfl;simp only[Tryz.ntmps122,List.size_toArray,List.length_cons,List.length_nil,Nat.reduceAdd,Nat.reduceSub,Array.replicate_succ,Array.replicate_zero,List.push_toArray,List.append_toArray,List.nil_append,List.cons_append];have hc0:=(hKp 0 W h0).1;have e0:IntKind.i64.wrap ((xs.length:Int)-1)=(xs.length:Int)-1:=(by rw[IntKind.wrap_i64];omega)
 gi_wp2
 gi_loopw [3] (λi wr=>∃k:Nat,k<=xs.length/\i=.int .i64 ((xs.length:Int)-1-k)/\J k wr) (λi _=>(intOf i+1).toNat)
 case atStart=>exact⟨0,Nat.zero_le _,by simp,h0⟩
 case round=>
  obtain⟨k,hk,rfl,hJs⟩:=hrel;obtain⟨hcx,hix⟩:=hKp k wr hJs
  by_cases hlt:k<xs.length
  . obtain⟨x,hx⟩:∃x,xs[xs.length-1-k]? =some x:=⟨_,List.getElem?_eq_getElem (by omega)⟩
    obtain⟨b,o,rfl,c1⟩:=hix.at hx;obtain⟨fn,tmps,assign,body,hy,hR⟩:=hY k wr hJs hlt;have hq:((xs.length-1-k:Nat):Int)=(xs.length:Int)-1-k:=(by omega)
    simp only[encB,hx,Option.getD_some]at hy;obtain⟨m,hm⟩:∃m,m=xs.length-1-k:=⟨_,rfl⟩
    rw[<-hm]at c1 hy hq;rw[<-hq];have i1:(0:Int)<=(m:Int):=(by omega)
    have i2:(m:Int)<(xs.length:Int):=(by omega)
    have e1:IntKind.i64.wrap ((m:Int)-1)=(m:Int)-1:=(by rw[IntKind.wrap_i64];omega)
    have hm2:=zh hm;have hq2:=zh hq;clear hm hq hx
    gi_wp2
    refine hR.mono ?_;rintro e W3 (⟨rfl,hJ3⟩ |⟨ch,rfl,hJx3⟩)
    . gi_wp2
      go_roundw
      case rel=>exact⟨k+1,by omega,by have:=hq2.out;congr 1;omega,hJ3⟩
      case measure=>have:=hq2.out;simp[intOf]
    . gi_wp2
      exact⟨rfl,.inr ⟨ch,rfl,hJx3⟩⟩
  . obtain rfl:k=xs.length:=by omega
    have hneg:¬(0:Int)<=(xs.length:Int)-1-(xs.length:Int):=(by omega)
    gi_wp2
    go_end0;exact .inl ⟨⟨_,rfl⟩,hJs⟩
theorem backward_any(a:Option Addr)(n c:Nat)(w:World):Calls Tryz.prog 103 #[.slice a n c] w λe w'=>e=.returned (.func (.func 122) #[] #[.pointer (some ⟨w.heap.size,0,none⟩)])/\w'=w.alloc (.cells #[.slice a n c] 28):=by go_enter Tryz.func103,Tryz.ntmps103;go_wp2;go_ret;exact⟨rfl,rfl⟩
structure Off (w:World) (p:Nat) (sv fv:Value) (b:Nat):Prop where
 lt:b<w.heap.size
 p:b≠p
 s:sv.ownBlock≠some b
 f:fv.ownBlock≠some b
theorem Off.tw{w w':World}{p:Nat}{sv fv sv' fv':Value}{b:Nat}(h:Off w p sv fv b)(t:Tw p sv fv sv' fv' w w'):Off w' p sv' fv' b/\w'.heap[b]? =w.heap[b]? :=
 ⟨⟨Nat.lt_of_lt_of_le h.lt t.size,h.p,own_no t.s h.lt h.s,own_no t.f h.lt h.f⟩,t.block b h.lt h.p h.s h.f⟩
def Cs (w w':World):Prop:=w.heap.size<=w'.heap.size/\∀(k:Nat) (o:Obj),w.heap[k]? =some o->o.isCells=true->w'.heap[k]? =some o
theorem Cs.of_grown{w w':World}{row:Option Nat}(hg:w.grownBy w' row)(hr:∀r,row=some r->∃o:Obj,w.heap[r]? =some o/\o.isCells=false):Cs w w':=
 ⟨hg.size,λk o hk hc=>(grownBy_keeps_cells hg hr hk hc).trans hk⟩
theorem Cs.keeps{w w':World}(h:Cs w w'):Keeps w w':=λa v hv=>by
 obtain⟨o,ho,hc⟩:=cells_of_cell hv;exact(World.cell?_of_block ((h.2 _ _ ho hc).trans ho.symm)).trans hv
theorem LiB.cs{w w':World}{p:Nat}{sv fv:Value}{a:Option Addr}{l:List Int}(h:LiB w p sv fv a l)(c:Cs w w'):LiB w' p sv fv a l:=⟨h.1.keep c.keeps,h.2⟩
theorem own_cells{w:World}{base:Nat}{e:TypeId}{size n:Nat}{v:Value}{xs:List Value}(h:w.ownsRow base e size v n xs){g:Nat}(hg:v.ownBlock=some g):∃o:Obj,w.heap[g]? =some o/\o.isCells=true:=by
 rcases h.2 with⟨rfl,_⟩ |⟨g',cap,cur,rfl,_,hgg,_⟩
 . simp[Value.ownBlock]at hg
 . simp[Value.ownBlock]at hg;subst hg;exact⟨_,hgg,rfl⟩
theorem own_cs{w w':World}{base:Nat}{e:TypeId}{size n:Nat}{v:Value}{xs:List Value}(h:w.ownsRow base e size v n xs)(c:Cs w w'):w'.ownsRow base e size v n xs:=
 own_block h λg hg=>by
  obtain⟨o,ho,hc⟩:=own_cells h hg;exact(c.2 g o ho hc).trans ho.symm
theorem TyP.cs{N p:Nat}{cv lv:Value}{w w':World}{sv fv:Value}{s:Ts}(h:TyP N p cv lv w sv fv s)(c:Cs w w'):TyP N p cv lv w' sv fv s:=by obtain⟨L,h1,h2,h3⟩:=h.o.fs;exact⟨c.2 _ _ h.b rfl,h.o.hN,Nat.le_trans h.o.hw c.1,own_cs h.o.st c,L,h1,own_cs h2 c,λq hq=>⟨(h3 q hq).1.cs c,(h3 q hq).2.cs c⟩⟩
theorem Tw.turn{p:Nat}{sv fv sv' fv':Value}{a w w':World}(h:Tw p sv fv sv' fv' a w){row:Option Nat}(hg:w.grownBy w' row)(hr:∀r,row=some r->a.heap.size<=r):Tw p sv fv sv' fv' a w':=
 ⟨hg.os.trans h.os,hg.tape.trans h.tape,hg.output.trans h.output,Nat.le_trans h.size hg.size,λk hk hp hs hf=>(hg.block k (Nat.lt_of_lt_of_le hk h.size) (λe=>by have:=hr k e.symm;omega)).trans (h.block k hk hp hs hf),h.s,h.f⟩
theorem TyP.others{N p:Nat}{cv lv:Value}{w w':World}{sv fv sv' fv':Value}{s:Ts}(h:TyP N p cv lv w sv fv s)(t:Tw p sv fv sv' fv' w w'):KeepsOthers w w':=
 ⟨t.size,λk o hk hc=>by
  obtain⟨L,_,h2,_⟩:=h.o.fs;refine(t.block k (Array.getElem?_eq_some_iff.1 hk).1 (λe=> ?_) (λe=> ?_) (λe=> ?_)).trans hk
  . subst e;rw[h.b]at hk;cases hk;cases hc
  . obtain⟨o',ho',hc'⟩:=own_cells h.o.st e;rw[hk]at ho';cases ho';rw[hc]at hc';cases hc'
  . obtain⟨o',ho',hc'⟩:=own_cells h2 e;rw[hk]at ho';cases ho';rw[hc]at hc';cases hc'⟩
theorem tPops_snoc:∀(l:List Int) (x:Int) (s:Ts),yR (l++[x]) s=(yR l s).bind λu=>(zI x u).bind λq=>.ok q.2
 | [],x,s=>rfl
 |t::r,x,s=>by
   show(zI t s).bind (λq=>yR (r++[x]) q.2)=((zI t s).bind λq=>yR r q.2).bind _
   cases zI t s with
   |error n=>rfl
   |ok q=>exact tPops_snoc r x q.2
theorem tPops_err:∀(l r:List Int) (s:Ts) (n:Int),yR l s=.error n->yR (l++r) s=.error n
 | [],r,s,n,h=>by cases h
 |t::l,r,s,n,h=>by
   change (zI t s).bind (λq=>yR l q.2)=.error n at h
   show(zI t s).bind (λq=>yR (l++r) q.2)=.error n
   cases hp:zI t s with
   |error m=>rw[hp]at h;exact h
   |ok q=>rw[hp]at h;exact tPops_err l r q.2 n h
def PopI (N p:Nat) (cv lv:Value) (w:World) (sv fv:Value) (s:Ts) (B0 Bx:Nat) (l:List Int) (la:Option Addr) (lc:Nat) (k:Nat) (W:World):Prop:=
 ∃sk sv',yR (l.reverse.take k) s=.ok sk/\Wf sk/\TyP N p cv lv W sv' fv sk/\Tw p sv fv sv' fv w W/\LiB W p sv' fv la l/\
  (Off W p sv' fv B0/\W.heap[B0]? =some (.cells #[.pointer (some ⟨p,0,none⟩)] 95 (0,0)))/\Off W p sv' fv Bx/\W.heap[Bx]? =some (.cells #[.slice la l.length lc] 28 (0,0))
def PopP (p:Nat) (w:World) (sv fv:Value) (s:Ts) (l:List Int) (ch:List PanicEntry) (W:World):Prop:=
 ∃m,yR l.reverse s=.error m/\ch=xH m/\∃sv' fv',Tw p sv fv sv' fv' w W
theorem pops_any{N p:Nat}{cv lv:Value}{w:World}{sv fv:Value}{s:Ts}(h:TyP N p cv lv w sv fv s)(hw:Wf s){l:List Int}{la:Option Addr}{lc:Nat}(hl:LiB w p sv fv la l)(ht:∀t∈l,tyo t):Calls Tryz.prog 83 #[.pointer (some ⟨p,0,none⟩),.slice la l.length lc] w (vG N p cv lv w sv fv (qP l s)):=by
 have hlen:l.length<=9223372036854775807:=hl.1.1;have hnl:Below w.heap.size w ((w.alloc (.cells #[.pointer (some ⟨p,0,none⟩)] 95)).alloc (.cells #[.slice la l.length lc] 28)):=((Below.refl _ w).alloc (Nat.le_refl _) _).alloc (by simp) _
 have hoff:∀b,w.heap.size<=b->b≠p/\sv.ownBlock≠some b/\fv.ownBlock≠some b:=λb hb=>by
  obtain⟨L,_,h2,_⟩:=h.o.fs;exact⟨λe=>by have:=lt_of_block h.b;omega,λe=>by have:=(h.o.st.lt _ e).2;omega,λe=>by have:=(h2.lt _ e).2;omega⟩
 refine calls_of_wpF (n:=5) Tryz.func83 rfl ?_;simp only[Tryz.ntmps83,List.size_toArray,List.length_cons,List.length_nil,Nat.reduceAdd,Nat.reduceSub,Array.replicate_succ,Array.replicate_zero,List.push_toArray,List.append_toArray,List.nil_append,List.cons_append];refine wpF_seq (n:=5) ?_
 gi_wp2
 refine wpF_seq (n:=5) ?_
 gi_wp2_with (refine⟨trivial,?_⟩;gi_at_call 103;refine(callsIn_wide.2 (backward_any _ _ _ _)).mono ?_;rintro e w' ⟨rfl,rfl⟩)
 refine wpF_block ?_
 refine wpF_rangeFunc_P (n:=5) Tryz.func83 (gf:=122) (lb:= #[.pointer (some ⟨w.heap.size+1,0,none⟩)]) rfl (enters_of Tryz.func122 (by kernel_rfl) rfl) (back_in 4 (by omega) (w.heap.size+1) l la lc hlen) (λ_=>rfl)
  (PopI N p cv lv w sv fv s w.heap.size (w.heap.size+1) l la lc) (PopP p w sv fv s l) ?hI ?hIp ?hK ?h0
  (λk=>{tmps:= #[.pointer (some ⟨p,0,none⟩),.slice la l.length lc,.pointer (some ⟨w.heap.size,0,none⟩),undef,undef,.int .i64 (l[l.length-1-k]?.getD 0),.slice la l.length lc,.func (.func 122) #[] #[.pointer (some ⟨w.heap.size+1,0,none⟩)],.int .i64 ((l.length-1-k:Nat):Int),.int .i64 (l[l.length-1-k]?.getD 0),undef,undef,undef],defers:=[]}) ?assign ?body ?done ?pan
 case hI=>
  rintro k W W' row ⟨sk,sv',e1,e2,e3,e4,e5,⟨e6,e7⟩,e8,e9⟩ hg hr;have hc:=Cs.of_grown hg (λr e=>(hr r e).2);have hlo:∀r,row=some r->w.heap.size<=r:=λr e=>by have:=(hr r e).1;simp at this;omega
  exact⟨sk,sv',e1,e2,e3.cs hc,e4.turn hg hlo,e5.cs hc,⟨⟨Nat.lt_of_lt_of_le e6.lt hg.size,e6.p,e6.s,e6.f⟩,hc.2 _ _ e7 rfl⟩,⟨Nat.lt_of_lt_of_le e8.lt hg.size,e8.p,e8.s,e8.f⟩,hc.2 _ _ e9 rfl⟩
 case hIp=>rintro ch W W' row ⟨m,e1,e2,sv',fv',t⟩ hg hr;exact⟨m,e1,e2,sv',fv',t.turn hg (λr e=>by have:=(hr r e).1;simp at this;omega)⟩
 case hK=>rintro k W ⟨sk,sv',e1,e2,e3,e4,e5,⟨e6,e7⟩,e8,e9⟩;exact⟨by rw[cell_of_row W _ 0 _ _ _ e9];rfl,e5.1⟩
 case h0=>
  have o1:=hoff w.heap.size (Nat.le_refl _);have o2:=hoff (w.heap.size+1) (by omega);refine⟨s,sv,rfl,hw,h.step hnl,.of_below hnl,hl.tw (.of_below hnl),⟨⟨by simp<;>omega,o1.1,o1.2.1,o1.2.2⟩,?_⟩,⟨by simp<;>omega,o2.1,o2.2.1,o2.2.2⟩,?_⟩
  . exact(Below.heap_alloc _ _ _ (by simp)).trans (World.alloc_heap_new w _)
  . have:=World.alloc_heap_new (w.alloc (.cells #[.pointer (some ⟨p,0,none⟩)] 95)) (.cells #[.slice la l.length lc] 28)
    rwa [World.size_alloc]at this
 case assign=>
  intro l' k W K hK;unfold encB
  gi_wp2
  exact hK
 case body=>
  rintro l' k W ⟨sk,sv',e1,e2,e3,e4,e5,⟨e6,e7⟩,e8,e9⟩ hk;obtain⟨x,hx⟩:∃x,l[l.length-1-k]? =some x:=⟨_,List.getElem?_eq_getElem (by omega)⟩
  have hxt:tyo x:=ht x (List.mem_of_getElem? hx);have hr:l.reverse[k]? =some x:=(by rw[List.getElem?_reverse (by omega)];exact hx)
  have c0:W.cell? ⟨w.heap.size,0,none⟩=some (.pointer (some ⟨p,0,none⟩)):=(by rw[cell_of_row W _ 0 _ _ _ e7];rfl)
  have hp:=pop_any e3 e2 (t:=x) (t':=x) (.inr ⟨hxt,rfl⟩);have hps:=pop_sm e2 x;have htk:l.reverse.take (k+1)=l.reverse.take k++[x]:=(by rw[List.take_add_one,hr];rfl)
  simp only[hx,Option.getD_some]
  gi_wp2_with (refine⟨trivial,?_⟩;gi_at_call 99;refine(CallsIn.inRound l' (callsIn_wide.2 hp)).mono ?_)
  rintro e w' hq;cases hpq:zI x sk with
  |error m=>
    rw[hpq]at hq;obtain⟨rfl,sv2,fv2,t2⟩:=hq;have hm:yR (l.reverse.take (k+1)) s=.error m:=(by rw[htk,tPops_snoc,e1];show(zI x sk).bind _=_;rw[hpq];rfl)
    refine⟨rfl,e3.others t2,m,?_,rfl,sv2,fv2,e4.trans t2⟩;have:=tPops_err _ (l.reverse.drop (k+1)) _ _ hm
    rwa [List.take_append_drop]at this
  |ok q=>
    rw[hpq]at hq hps;obtain⟨rfl,sv2,h2,t2⟩:=hq;have hm:yR (l.reverse.take (k+1)) s=.ok q.2:=(by rw[htk,tPops_snoc,e1];show(zI x sk).bind _=_;rw[hpq];rfl)
    have hall:KeepsOthers W w'/\PopI N p cv lv w sv fv s w.heap.size (w.heap.size+1) l la lc (k+1) w':=
     ⟨e3.others t2,q.2,sv2,hm,hps.1,h2,e4.trans t2,e5.tw t2,⟨(e6.tw t2).1,(e6.tw t2).2.trans e7⟩,(e8.tw t2).1,(e8.tw t2).2.trans e9⟩
    replace hall:=zh hall;clear hm hpq htk hps hp hr e1 e2 e3 e4 e5 e6 e7 e8 e9 h2 t2
    gi_wp2
    exact hall.out
 case done=>
  rintro D W hD ⟨sk,sv',e1,e2,e3,e4,_⟩ hDk;rw[List.take_of_length_le (by rw[List.length_reverse];exact Nat.le_refl _)]at e1;have hlo:w.heap.size<=D:=(by simp at hD;omega)
  refine⟨by simp,.inl ⟨_,_,rfl,run_takeDeferred hDk,?_⟩⟩;refine⟨_,results_none rfl _ _ _,?_⟩;have hX:qP l s=.ok sk:=e1;rw[hX];exact⟨rfl,sv',e3.cs (Cs.of_grown (grownBy_putObj' W D _) (λr e=>by cases e;exact⟨_,hDk,rfl⟩)),e4.turn (grownBy_putObj' W D _) (λr e=>by cases e;exact hlo)⟩
 case pan=>
  rintro D ch W hD ⟨m,e1,rfl,sv',fv',t⟩ hDk;have hlo:w.heap.size<=D:=(by simp at hD;omega)
  refine⟨by simp,.inl ⟨_,_,rfl,run_takeDeferred hDk,?_⟩⟩;have hX:qP l s=.error m:=e1;rw[hX];exact⟨rfl,sv',fv',t.turn (grownBy_putObj' W D _) (λr e=>by cases e;exact hlo)⟩
end Go.Proofs.YtacohbllbjgdgaaGreatDoor
namespace Go.Proofs.YtacohbllbjgdgaaGreatDoor
open Go.RowKit
structure EnvAt (w:World) (c:Nat) (lv:Value) (E:Ev):Prop where
 types:∃a k,w.cell? ⟨c,0,none⟩=some (.slice a E.types.length k)/\RowsIn TypeAt 2 w a E.types
 tables:∃a k,w.cell? ⟨c,3,none⟩=some (.slice a E.tables k)
 mems:∃a k,w.cell? ⟨c,4,none⟩=some (.slice a E.mems k)
 globals:∃(a:Option Addr) (k:Nat) (gl:List (Int×Bool×One)),w.cell? ⟨c,5,none⟩=some (.slice a gl.length k)/\RowsIn GlobalAt 9 w a gl/\E.globals=gl.map λg=>(g.1,g.2.1)
 funcs:∃a k,w.cell? ⟨c,10,none⟩=some (.slice a E.funcs.length k)/\RowsIn TypeAt 2 w a E.funcs
 locals:∃a k,lv=.slice a E.locals.length k/\IntsIn w a E.locals
theorem EnvAt.keep{w w':World}(f:Keeps w w'){c:Nat}{lv:Value}{E:Ev}(h:EnvAt w c lv E):EnvAt w' c lv E:=by obtain⟨⟨a0,k0,h0,r0⟩,⟨a3,k3,h3⟩,⟨a4,k4,h4⟩,⟨a5,k5,gl,h5,r5,e5⟩,⟨a6,k6,h6,r6⟩,⟨a7,k7,e7,r7⟩⟩:=h;exact⟨⟨a0,k0,f _ _ h0,r0.keep λ_ _ _=>.keep f⟩,⟨a3,k3,f _ _ h3⟩,⟨a4,k4,f _ _ h4⟩,⟨a5,k5,gl,f _ _ h5,r5.keep λ_ _ _=>.keep f,e5⟩,⟨a6,k6,f _ _ h6,r6.keep λ_ _ _=>.keep f⟩,⟨a7,k7,e7,r7.keep f⟩⟩
structure Cx (w0:World) (N p c:Nat) (lv:Value) (E:Ev) (w:World) (sv fv:Value) (s:Ts):Prop where
 t:TyP N p (.pointer (some ⟨c,0,none⟩)) lv w sv fv s
 wf:Wf s
 b:Below w0.heap.size w0 w
 p0:w0.heap.size=p
 e0:EnvAt w0 c lv E
 ok:EvOk E
section
variable {w0:World} {N p c:Nat} {lv:Value} {E:Ev} {w w':World} {sv fv sv' fv':Value} {s:Ts}
theorem Cx.env(h:Cx w0 N p c lv E w sv fv s):EnvAt w c lv E:=h.e0.keep (zA h.b)
theorem Cx.step(h:Cx w0 N p c lv E w sv fv s)(b:Below w.heap.size w w'):Cx w0 N p c lv E w' sv fv s:=⟨h.t.step b,h.wf,h.b.trans (b.mono h.b.size),h.p0,h.e0,h.ok⟩
theorem Cx.go(h:Cx w0 N p c lv E w sv fv s){u:Ts}(hu:Wf u)(t:TyP N p (.pointer (some ⟨c,0,none⟩)) lv w' sv' fv' u)(tw:Tw p sv fv sv' fv' w w'):Cx w0 N p c lv E w' sv' fv' u:=
 ⟨t,hu,h.b.trans (by rw[h.p0];exact h.t.o.below tw),h.p0,h.e0,h.ok⟩
theorem Cx.old(h:Cx w0 N p c lv E w sv fv s){ao:Option Addr}{l:List Int}(hl:IntsIn w0 ao l):LiB w p sv fv ao l:=by
 have hN:=h.t.o.hN;obtain⟨h1,h2⟩:=h.t.o.low;refine .old (M:=p) (hl.keep (zA h.b)) ?_ (Nat.le_refl _) (λg hg=>by have:=h1 g hg;omega) (λg hg=>by have:=h2 g hg;omega)
 rcases hl.2 with rfl |⟨b,o,rfl,hc⟩
 . exact .inl rfl
 . cases l with
   |nil=>exact .inl rfl
   |cons x r=>
     refine .inr λad e=> ?_;cases e;have h3:b<w0.heap.size:=World.block_lt_of_cell? _ _ (hc 0 x rfl);have hp:=h.p0
     show b<p
     omega
end
def endF (N p:Nat) (cv lv:Value) (w:World) (sv fv:Value) (x:Except Int Ts) (e:Ending) (w':World):Prop:=
 match x with
 |.ok t=>e=.returned (.tuple #[])/\∃sv' fv',TyP N p cv lv w' sv' fv' t/\Tw p sv fv sv' fv' w w'
 |.error n=>e=.panicked (xH n)/\∃sv' fv',Tw p sv fv sv' fv' w w'
section
variable {N p:Nat} {cv lv:Value} {w w' wa:World} {sv fv:Value} {s:Ts}
theorem qL(h:TyP N p cv lv w sv fv s)(hw:Wf s){t t':Int}(ht:(t=0/\t'=2)\/(tyo t/\t'=t)){q:Int×Ts}(hq:zI t s=.ok q):Calls Tryz.prog 99 #[.pointer (some ⟨p,0,none⟩),.int .i64 t'] w λe w'=>e=.returned (.int .i64 (jR 1 q.1))/\∃sv',TyP N p cv lv w' sv' fv q.2/\Tw p sv fv sv' fv w w':=by
 have:=pop_any h hw ht;rw[hq]at this;exact this
theorem qR(h:TyP N p cv lv w sv fv s)(hw:Wf s){t t':Int}(ht:(t=0/\t'=2)\/(tyo t/\t'=t)){n:Int}(hq:zI t s=.error n):Calls Tryz.prog 99 #[.pointer (some ⟨p,0,none⟩),.int .i64 t'] w λe w'=>e=.panicked (xH n)/\∃sv' fv',Tw p sv fv sv' fv' w w':=by
 have:=pop_any h hw ht;rw[hq]at this;exact this
theorem pops_ok(h:TyP N p cv lv w sv fv s)(hw:Wf s){l:List Int}{la:Option Addr}{lc:Nat}(hl:LiB w p sv fv la l)(ht:∀t∈l,tyo t){u:Ts}(hq:qP l s=.ok u):Calls Tryz.prog 83 #[.pointer (some ⟨p,0,none⟩),.slice la l.length lc] w λe w'=>e=.returned (.tuple #[])/\∃sv',TyP N p cv lv w' sv' fv u/\Tw p sv fv sv' fv w w':=by
 have:=pops_any (lc:=lc) h hw hl ht;rw[hq]at this;exact this
theorem pops_er(h:TyP N p cv lv w sv fv s)(hw:Wf s){l:List Int}{la:Option Addr}{lc:Nat}(hl:LiB w p sv fv la l)(ht:∀t∈l,tyo t){n:Int}(hq:qP l s=.error n):Calls Tryz.prog 83 #[.pointer (some ⟨p,0,none⟩),.slice la l.length lc] w λe w'=>e=.panicked (xH n)/\∃sv' fv',Tw p sv fv sv' fv' w w':=by
 have:=pops_any (lc:=lc) h hw hl ht;rw[hq]at this;exact this
theorem enc_tyo{t:Int}(h:tyo t):jR 1 t=t:=by unfold jR;unfold tyo at h;rw[if_neg (by omega)]
theorem enc_map{l:List Int}(h:∀t∈l,tyo t):l.map (jR 1)=l:=by
 induction l with
 |nil=>rfl
 |cons x r ih=>rw[List.map_cons,enc_tyo (h x List.mem_cons_self),ih λt ht=>h t (List.mem_cons_of_mem _ ht)]
theorem push_ty(h:TyP N p cv lv w sv fv s){l:List Int}{la:Option Addr}{lc:Nat}(hl:IntsIn w la l)(ht:∀t∈l,tyo t)(hb:s.st.length+l.length<=1099511627776):Calls Tryz.prog 95 #[.pointer (some ⟨p,0,none⟩),.slice la l.length lc] w λe w'=>e=.returned (.tuple #[])/\∃sv',TyP N p cv lv w' sv' fv (zL l s)/\Tw p sv fv sv' fv w w':=
 push_any (lc:=lc) h (by rw[enc_map ht];exact hl) hb
theorem ints_one1(w:World)(v:Int):IntsIn (w.alloc (.cells #[.int .i64 v] 3)) (some ⟨w.heap.size,0,none⟩) [v]:=
 ⟨by simp,.inr ⟨_,_,rfl,λi x hx=>by
  have hi:i=0:=(by have:=(List.getElem?_eq_some_iff.1 hx).1;simp at this;omega)
  subst hi;simp at hx;subst hx;exact World.cell?_alloc_at _ _ _ 0 (by simp)⟩⟩
theorem yX(h:TyP N p cv lv w sv fv s){t v:Int}(hv:v=jR 1 t)(hb:s.st.length+1<=1099511627776):Calls Tryz.prog 95 #[.pointer (some ⟨p,0,none⟩),.slice (some ⟨w.heap.size,0,none⟩) 1 1] (w.alloc (.cells #[.int .i64 v] 3)) λe w'=>e=.returned (.tuple #[])/\∃sv',TyP N p cv lv w' sv' fv (zL [t] s)/\Tw p sv fv sv' fv w w':=by
 have ha:=Below.of_alloc w (.cells #[.int .i64 v] 3);have:=push_any (l:=[t]) (la:=some ⟨w.heap.size,0,none⟩) (lc:=1) (h.step ha) (by rw[List.map_singleton,<-hv];exact ints_one1 w v) hb;refine this.mono ?_;rintro e w' ⟨rfl,sv',h1,t1⟩;exact⟨rfl,sv',h1,(Tw.of_below ha).trans t1⟩
theorem zS{t:Int}{s:Ts}{q:Int×Ts}(h:zI t s=.ok q):q.2.st.length<=s.st.length:=by
 unfold zI at h;split at h
 . cases h
 . split at h
   . split at h
     . cases h;exact Nat.le_refl _
     . cases h
   . split at h
     . cases h
     . rename_i x r hst;split at h
       . cases h
       . cases h;rw[hst];simp
theorem vV:∀(l:List Int) {s u:Ts},yR l s=.ok u->u.st.length<=s.st.length
 | [],s,u,h=>by cases h;exact Nat.le_refl _
 |t::r,s,u,h=>by
   change (zI t s).bind (λq=>yR r q.2)=.ok u at h;cases hp:zI t s with
   |error n=>rw[hp]at h;cases h
   |ok q=>rw[hp]at h;exact Nat.le_trans (vV r h) (zS hp)
theorem tPopL_wf{s u:Ts}(hw:Wf s){l:List Int}(h:qP l s=.ok u):Wf u/\Kf s u:=by have:=popL_sm hw l;rw[h]at this;exact⟨this.1,this.2.1⟩
theorem qS{s:Ts}(hw:Wf s){t:Int}{q:Int×Ts}(h:zI t s=.ok q):Wf q.2/\Kf s q.2/\ok01 q.1:=by have:=pop_sm hw t;rw[h]at this;exact⟨this.1,this.2.1,this.2.2.1⟩
theorem calls_any(h:TyP N p cv lv w sv fv s)(hw:Wf s){t:List Int×List Int}{pa ra:Option Addr}{pc rc:Nat}(h1:LiB w p sv fv pa t.1)(h2:LiB w p sv fv ra t.2)(t1:∀x∈t.1,tyo x)(t2:∀x∈t.2,tyo x)(b2:s.st.length+t.2.length<=1099511627776):Calls Tryz.prog 100 #[.pointer (some ⟨p,0,none⟩),.agg #[.slice pa t.1.length pc,.slice ra t.2.length rc]] w (vG N p cv lv w sv fv (yE t s)):=by
 have ha:=Below.of_alloc w (.cells #[.slice pa t.1.length pc,.slice ra t.2.length rc] 44);have tw1:Tw p sv fv sv fv w (w.alloc (.cells #[.slice pa t.1.length pc,.slice ra t.2.length rc] 44)):=.of_below ha;cases hq:qP t.1 s with
 |error n=>
   have hX:yE t s=.error n:=(by unfold yE;rw[hq];rfl)
   rw[hX];have hc:=pops_er (lc:=pc) (h.step ha) hw (h1.tw tw1) t1 hq;clear hX hq;go_enter Tryz.func100,Tryz.ntmps100;go_wp2_with fail;refine hc.mono ?_;rintro e w2 ⟨rfl,sv2,fv2,tw2⟩;go_wp2;exact⟨rfl,rfl,sv2,fv2,tw1.trans tw2⟩
 |ok u=>
   have hX:yE t s=.ok (zL t.2 u):=(by unfold yE;rw[hq];rfl)
   rw[hX];have hc:=pops_ok (lc:=pc) (h.step ha) hw (h1.tw tw1) t1 hq;have hle:u.st.length<=s.st.length:=vV _ hq
   have hoff:Off (w.alloc (.cells #[.slice pa t.1.length pc,.slice ra t.2.length rc] 44)) p sv fv w.heap.size:=by obtain⟨L,_,h3,_⟩:=h.o.fs;exact⟨by simp,λe=>by have:=lt_of_block h.b;omega,λe=>by have:=(h.o.st.lt _ e).2;omega,λe=>by have:=(h3.lt _ e).2;omega⟩
   clear hX hq;go_enter Tryz.func100,Tryz.ntmps100;go_wp2_with fail;refine hc.mono ?_;rintro e w2 ⟨rfl,sv2,h3,tw2⟩
   have c1:w2.cell? ⟨w.heap.size,1,none⟩=some (.slice ra t.2.length rc):=by rw[World.cell?_of_block (hoff.tw tw2).2];exact World.cell?_alloc_at _ _ _ 1 (by simp)
   have hl2:=(h2.tw tw1).tw tw2;go_wp2_with fail;refine(push_ty (lc:=rc) h3 hl2.1 t2 (by omega)).mono ?_;rintro e w3 ⟨rfl,sv3,h4,tw3⟩;go_wp2;go_end0;exact⟨rfl,sv3,h4,(tw1.trans tw2).trans tw3⟩
end
theorem TyP.off{N p:Nat}{cv lv:Value}{w:World}{sv fv:Value}{s:Ts}(h:TyP N p cv lv w sv fv s)(o:Obj):Off (w.alloc o) p sv fv w.heap.size:=by obtain⟨L,_,h3,_⟩:=h.o.fs;exact⟨by simp,λe=>by have:=lt_of_block h.b;omega,λe=>by have:=(h.o.st.lt _ e).2;omega,λe=>by have:=(h3.lt _ e).2;omega⟩
end Go.Proofs.YtacohbllbjgdgaaGreatDoor
namespace Go.Proofs.YtacohbllbjgdgaaGreatDoor
open Go.RowKit
def zO (op a y n:Int) (v4 v5 v6:Value):Value:=.agg #[.int .i64 op,.int .i64 a,.int .i64 y,.int .i64 n,v4,v5,v6]
def insO (op a y n:Int) (v4 v5 v6:Value):Obj:=.cells #[.int .i64 op,.int .i64 a,.int .i64 y,.int .i64 n,v4,v5,v6] 49
theorem ins_c(w:World)(op a y n:Int)(v4 v5 v6:Value):(w.alloc (insO op a y n v4 v5 v6)).heap[w.heap.size]? =some (insO op a y n v4 v5 v6):=World.alloc_heap_new w _
structure Bx (w:World) (b:Nat) (op a y n:Int) (v4 v5 v6:Value):Prop where
 h:w.heap[b]? =some (insO op a y n v4 v5 v6)
theorem Bx.c{w:World}{b:Nat}{op a y n:Int}{v4 v5 v6:Value}(h:Bx w b op a y n v4 v5 v6):w.cell? ⟨b,0,none⟩=some (.int .i64 op)/\w.cell? ⟨b,1,none⟩=some (.int .i64 a)/\w.cell? ⟨b,2,none⟩=some (.int .i64 y)/\w.cell? ⟨b,3,none⟩=some (.int .i64 n)/\w.cell? ⟨b,4,none⟩=some v4/\w.cell? ⟨b,5,none⟩=some v5/\w.cell? ⟨b,6,none⟩=some v6:=by
 have:=h.h;unfold insO at this;refine⟨?_,?_,?_,?_,?_,?_,?_⟩;all_goals rw[cell_of_row w b _ _ _ _ this];rfl
theorem Bx.tw{w w':World}{p:Nat}{sv fv sv' fv':Value}{b:Nat}{op a y n:Int}{v4 v5 v6:Value}(h:Bx w b op a y n v4 v5 v6)(o:Off w p sv fv b)(t:Tw p sv fv sv' fv' w w'):Bx w' b op a y n v4 v5 v6:=⟨(o.tw t).2.trans h.h⟩
section
variable {w0:World} {N p c:Nat} {lv:Value} {E:Ev} {w:World} {sv fv:Value} {s:Ts}
theorem zT(h:Cx w0 N p c lv E w sv fv s)(op a y n:Int)(v4 v5 v6:Value):∃w1,w1=w.alloc (.cells #[.int .i64 op,.int .i64 a,.int .i64 y,.int .i64 n,v4,v5,v6] 49)/\Cx w0 N p c lv E w1 sv fv s/\Bx w1 w.heap.size op a y n v4 v5 v6/\Off w1 p sv fv w.heap.size/\Tw p sv fv sv fv w w1:=
 ⟨_,rfl,h.step (Below.of_alloc w _),⟨ins_c w op a y n v4 v5 v6⟩,h.t.off _,.of_below (Below.of_alloc w _)⟩
theorem ret_at{s:Ts}(hw:Wf s):∃f,s.fs[s.fs.length-1]? =some f/\tRet s=f.ends:=by
 obtain⟨f,r,e,_⟩:=hw.fs;have h1:s.fs.getLast? =s.fs[s.fs.length-1]? :=List.getLast?_eq_getElem? ..;have h2:s.fs.length-1<s.fs.length:=(by rw[e];simp)
 refine⟨s.fs[s.fs.length-1],List.getElem?_eq_getElem h2,?_⟩;unfold tRet;rw[h1,List.getElem?_eq_getElem h2]
theorem plain_0(h:Cx w0 N p c lv E w sv fv s)(a y n:Int)(v4 v5 v6:Value):Calls Tryz.prog 102 #[.pointer (some ⟨p,0,none⟩),zO 0 a y n v4 v5 v6] w (vG N p (.pointer (some ⟨c,0,none⟩)) lv w sv fv (.ok (xO s))):=by
 obtain⟨w1,hw1,h1,hx,ho,t1⟩:=zT h 0 a y n v4 v5 v6;obtain⟨x0,x1,x2,x3,x4,x5,x6⟩:=hx.c;unfold zO;go_enter Tryz.func102,Tryz.ntmps102;go_wp2_with fail;refine(dies_any (hw1▸h1.t) h.wf).mono ?_;rintro e w2 ⟨rfl,sv2,h2,t2⟩;go_wp2;go_end0;exact⟨rfl,sv2,h2,t1.trans (hw1▸t2)⟩
theorem plain_15(h:Cx w0 N p c lv E w sv fv s)(a y n:Int)(v4 v5 v6:Value):Calls Tryz.prog 102 #[.pointer (some ⟨p,0,none⟩),zO 15 a y n v4 v5 v6] w (vG N p (.pointer (some ⟨c,0,none⟩)) lv w sv fv ((qP (tRet s) s).bind λs=>.ok (xO s))):=by
 obtain⟨w1,hw1,h1,hx,ho,t1⟩:=zT h 15 a y n v4 v5 v6;obtain⟨fl,hfl,hret⟩:=ret_at h.wf;obtain⟨g,cap,fa,hfv,hg,c0,c1,c2,c3,z3,l1,l2,hn,hm⟩:=h1.t.o.frame hfl;have e0:s.fs.length-1-(s.fs.length-1)=0:=(by omega)
 have hpos:0<s.fs.length:=(by have:=(List.getElem?_eq_some_iff.1 hfl).1;omega)
 rw[e0]at c1;have hty:=(h.wf.ty fl (List.mem_of_getElem? hfl)).2;obtain⟨k0,k1,k2,k3,z2,z3'⟩:=h1.t.c;rw[hfv]at k3;rw[hret];unfold zO;rw[hw1]at h1 l2 k3 c1 t1;clear hfl hret e0 c0 c2 c3 z3 l1 hw1 k0 k1 k2;cases hq:qP fl.ends s with
 |error m=>have hc:=pops_er (lc:=fa.ec) h1.t h.wf l2 hty hq;clear hq;go_enter Tryz.func102,Tryz.ntmps102;go_wp2_with fail;refine hc.mono ?_;rintro e w2 ⟨rfl,sv2,fv2,t2⟩;go_wp2;exact⟨rfl,rfl,sv2,fv2,t1.trans t2⟩
 |ok u=>have hc:=pops_ok (lc:=fa.ec) h1.t h.wf l2 hty hq;have hu:=(tPopL_wf h.wf hq).1;clear hq;go_enter Tryz.func102,Tryz.ntmps102;go_wp2_with fail;refine hc.mono ?_;rintro e w2 ⟨rfl,sv2,h2,t2⟩;go_wp2_with fail;refine(dies_any h2 hu).mono ?_;rintro e w3 ⟨rfl,sv3,h3,t3⟩;go_wp2;go_end0;exact⟨rfl,sv3,h3,(t1.trans t2).trans t3⟩
theorem plain_26(h:Cx w0 N p c lv E w sv fv s)(a y n:Int)(v4 v5 v6:Value):Calls Tryz.prog 102 #[.pointer (some ⟨p,0,none⟩),zO 26 a y n v4 v5 v6] w (vG N p (.pointer (some ⟨c,0,none⟩)) lv w sv fv ((zI 0 s).bind λq=>.ok q.2)):=by
 obtain⟨w1,hw1,h1,hx,ho,t1⟩:=zT h 26 a y n v4 v5 v6;unfold zO;rw[hw1]at h1 t1;clear hw1;cases hq:zI 0 s with
 |error m=>have hc:=qR h1.t h.wf (.inl ⟨rfl,rfl⟩) hq;clear hq;go_enter Tryz.func102,Tryz.ntmps102;go_wp2_with fail;refine hc.mono ?_;rintro e w2 ⟨rfl,sv2,fv2,t2⟩;go_wp2;exact⟨rfl,rfl,sv2,fv2,t1.trans t2⟩
 |ok q=>have hc:=qL h1.t h.wf (.inl ⟨rfl,rfl⟩) hq;clear hq;go_enter Tryz.func102,Tryz.ntmps102;go_wp2_with fail;refine hc.mono ?_;rintro e w2 ⟨rfl,sv2,h2,t2⟩;go_wp2;go_end0;exact⟨rfl,sv2,h2,t1.trans t2⟩
theorem plain_27(h:Cx w0 N p c lv E w sv fv s)(a y n:Int)(v4 v5 v6:Value)(hb:s.st.length+1<=1099511627776):Calls Tryz.prog 102 #[.pointer (some ⟨p,0,none⟩),zO 27 a y n v4 v5 v6] w (vG N p (.pointer (some ⟨c,0,none⟩)) lv w sv fv (xK E 27 s)):=by
 obtain⟨w1,hw1,h1,hx,ho,t1⟩:=zT h 27 a y n v4 v5 v6;unfold zO;rw[hw1]at h1 t1;clear hw1;have e0:xK E 27 s=(zI 127 s).bind λq=>(zI 0 q.2).bind λa=>(zI 0 a.2).bind λb=>if a.1=b.1\/a.1=0\/b.1=0 then .ok (zL [if a.1=0 then b.1 else a.1] b.2)else .error 60:=rfl
 generalize xK E 27 s=X at e0 ⊢;cases hq:zI 127 s with
 |error m=>rw[hq]at e0;have hc:=qR h1.t h.wf (.inr ⟨.inr rfl,rfl⟩) hq;clear hq;replace e0:=zh e0;go_enter Tryz.func102,Tryz.ntmps102;go_wp2_with fail;refine hc.mono ?_;rintro e w2 ⟨rfl,sv2,fv2,t2⟩;go_wp2;exact⟨rfl,by rw[e0.out];exact⟨rfl,sv2,fv2,t1.trans t2⟩⟩
 |ok q=>
   rw[hq]at e0;have hc:=qL h1.t h.wf (.inr ⟨.inr rfl,rfl⟩) hq;have l1:=zS hq;have wq:=(qS h.wf hq).1;clear hq;change X=(zI 0 q.2).bind _ at e0;cases hq2:zI 0 q.2 with
   |error m=>rw[hq2]at e0;replace e0:=zh e0;go_enter Tryz.func102,Tryz.ntmps102;go_wp2_with fail;refine hc.mono ?_;rintro e w2 ⟨rfl,sv2,h2,t2⟩;have hc2:=qR h2 wq (.inl ⟨rfl,rfl⟩) hq2;clear hq2;go_wp2_with fail;refine hc2.mono ?_;rintro e w3 ⟨rfl,sv3,fv3,t3⟩;go_wp2;exact⟨rfl,by rw[e0.out];exact⟨rfl,sv3,fv3,(t1.trans t2).trans t3⟩⟩
   |ok r=>
     rw[hq2]at e0;have l2:=zS hq2;obtain⟨wr,_,or⟩:=qS wq hq2;change X=(zI 0 r.2).bind _ at e0;cases hq3:zI 0 r.2 with
     |error m=>rw[hq3]at e0;replace e0:=zh e0;go_enter Tryz.func102,Tryz.ntmps102;go_wp2_with fail;refine hc.mono ?_;rintro e w2 ⟨rfl,sv2,h2,t2⟩;have hc2:=qL h2 wq (.inl ⟨rfl,rfl⟩) hq2;clear hq2;go_wp2_with fail;refine hc2.mono ?_;rintro e w3 ⟨rfl,sv3,h3,t3⟩;have hc3:=qR h3 wr (.inl ⟨rfl,rfl⟩) hq3;clear hq3;go_wp2_with fail;refine hc3.mono ?_;rintro e w4 ⟨rfl,sv4,fv4,t4⟩;go_wp2;exact⟨rfl,by rw[e0.out];exact⟨rfl,sv4,fv4,((t1.trans t2).trans t3).trans t4⟩⟩
     |ok z=>
       rw[hq3]at e0;have l3:=zS hq3;obtain⟨wz,_,oz⟩:=qS wr hq3;change X=(if r.1=z.1\/r.1=0\/z.1=0 then .ok (zL [if r.1=0 then z.1 else r.1] z.2)else .error 60)at e0;unfold ok01 at or oz
       by_cases hb1:r.1=z.1\/r.1=0\/z.1=0
       . rw[if_pos hb1]at e0;replace e0:=zh e0
         have y4:((jR 1 r.1==jR 1 z.1)=true/\(jR 1 r.1==1)=true)\/((jR 1 r.1==jR 1 z.1)=true/\(jR 1 r.1==1)=false)\/((jR 1 r.1==jR 1 z.1)=false/\(jR 1 r.1==1)=true)\/((jR 1 r.1==jR 1 z.1)=false/\(jR 1 r.1==1)=false/\(jR 1 z.1==1)=true):=by unfold jR;simp;omega
         have hen:jR 1 (if r.1=0 then z.1 else r.1)=if(jR 1 r.1==1)=true then jR 1 z.1 else jR 1 r.1:=by unfold jR;simp;split<;>omega
         replace hb1:=zh hb1;have hlen:z.2.st.length+1<=1099511627776:=(by omega)
         rcases y4 with⟨y1,y2⟩ |⟨y1,y2⟩ |⟨y1,y2⟩ |⟨y1,y2,y3⟩
         all_goals first |rw[if_pos y2]at hen |rw[if_neg (show¬(jR 1 r.1==1)=true by rw[y2];exact Bool.false_ne_true)]at hen
         all_goals replace hen:=zh hen.symm
         all_goals clear or oz
         all_goals(
          go_enter Tryz.func102,Tryz.ntmps102;go_wp2_with fail;refine hc.mono ?_;rintro e w2 ⟨rfl,sv2,h2,t2⟩;have hc2:=qL h2 wq (.inl ⟨rfl,rfl⟩) hq2;clear hq2;go_wp2_with fail;refine hc2.mono ?_;rintro e w3 ⟨rfl,sv3,h3,t3⟩;have hc3:=qL h3 wr (.inl ⟨rfl,rfl⟩) hq3;clear hq3;go_wp2_with fail;refine hc3.mono ?_;rintro e w4 ⟨rfl,sv4,h4,t4⟩;go_wp2_with fail;refine(zM 60 _).mono ?_;rintro e w' ⟨rfl,rfl⟩;go_wp2_with fail;refine(yX h4 hen.out hlen).mono ?_;rintro e w5 ⟨rfl,sv5,h5,t5⟩;go_wp2;go_end0;rw[e0.out];exact⟨rfl,sv5,h5,(((t1.trans t2).trans t3).trans t4).trans t5⟩)
       . rw[if_neg hb1]at e0;replace e0:=zh e0;have y1:(jR 1 r.1==jR 1 z.1)=false:=(by unfold jR;simp;omega)
         have y2:(jR 1 r.1==1)=false:=(by unfold jR;simp;omega)
         have y3:(jR 1 z.1==1)=false:=(by unfold jR;simp;omega)
         clear hb1 or oz;go_enter Tryz.func102,Tryz.ntmps102;go_wp2_with fail;refine hc.mono ?_;rintro e w2 ⟨rfl,sv2,h2,t2⟩;have hc2:=qL h2 wq (.inl ⟨rfl,rfl⟩) hq2;clear hq2;go_wp2_with fail;refine hc2.mono ?_;rintro e w3 ⟨rfl,sv3,h3,t3⟩;have hc3:=qL h3 wr (.inl ⟨rfl,rfl⟩) hq3;clear hq3;go_wp2_with fail;refine hc3.mono ?_;rintro e w4 ⟨rfl,sv4,h4,t4⟩;go_wp2_with fail;refine(qK 60 _).mono ?_;rintro e w' ⟨rfl,rfl⟩;go_wp2;exact⟨rfl,by rw[e0.out];exact⟨rfl,sv4,fv,((t1.trans t2).trans t3).trans t4⟩⟩
theorem plain_63(h:Cx w0 N p c lv E w sv fv s)(a y n:Int)(v4 v5 v6:Value)(hb:s.st.length+1<=1099511627776):Calls Tryz.prog 102 #[.pointer (some ⟨p,0,none⟩),zO 63 a y n v4 v5 v6] w (vG N p (.pointer (some ⟨c,0,none⟩)) lv w sv fv (xK E 63 s)):=by
 obtain⟨w1,hw1,h1,hx,ho,t1⟩:=zT h 63 a y n v4 v5 v6;obtain⟨ma,mk,hm⟩:=h1.env.mems;obtain⟨k0,k1,k2,k3,z2,z3'⟩:=h1.t.c;unfold zO;obtain⟨x0,x1,x2,x3,x4,x5,x6⟩:=hx.c;clear k1 k2 k3 z2 z3';have e0:xK E 63 s=if 0<E.mems then .ok (zL [127] s)else .error 61:=rfl
 generalize xK E 63 s=X at e0 ⊢
 by_cases hm0:0<E.mems
 . rw[if_pos hm0]at e0;replace e0:=zh e0;have hm1:(0:Int)<(E.mems:Int):=(by omega)
   clear hm0;go_enter Tryz.func102,Tryz.ntmps102
   go_upto_region 1 with(fail)
   rw[<-hw1];clear hw1;go_wp2_with fail;refine(qE hm1 _).mono ?_;rintro e w2 ⟨rfl,rfl⟩;have hpu:=yX h1.t (t:=127) (v:=127) rfl hb;go_wp2_with fail;refine hpu.mono ?_;rintro e w5 ⟨rfl,sv5,h5,t5⟩;go_wp2;go_end0;rw[e0.out];exact⟨rfl,sv5,h5,t1.trans t5⟩
 . rw[if_neg hm0]at e0;replace e0:=zh e0;have hm1:¬(0:Int)<(E.mems:Int):=(by omega)
   have hHN:=λw=>zh (yB hm1 w);clear hm0 hm1;go_enter Tryz.func102,Tryz.ntmps102
   go_upto_region 1 with(fail)
   rw[<-hw1];clear hw1;go_wp2_with fail;refine(hHN _).out.mono ?_;rintro e w2 ⟨rfl,rfl⟩;go_wp2;exact⟨rfl,by rw[e0.out];exact⟨rfl,sv,fv,t1⟩⟩
theorem plain_64(h:Cx w0 N p c lv E w sv fv s)(a y n:Int)(v4 v5 v6:Value)(hb:s.st.length+1<=1099511627776):Calls Tryz.prog 102 #[.pointer (some ⟨p,0,none⟩),zO 64 a y n v4 v5 v6] w (vG N p (.pointer (some ⟨c,0,none⟩)) lv w sv fv (xK E 64 s)):=by
 obtain⟨w1,hw1,h1,hx,ho,t1⟩:=zT h 64 a y n v4 v5 v6;obtain⟨ma,mk,hm⟩:=h1.env.mems;obtain⟨k0,k1,k2,k3,z2,z3'⟩:=h1.t.c;unfold zO;rw[hw1]at h1 t1 k0 hm;clear hw1 k1 k2 k3 z2 z3';have e0:xK E 64 s=if 0<E.mems then(zI 127 s).bind λq=>.ok (zL [127] q.2)else .error 61:=rfl
 generalize xK E 64 s=X at e0 ⊢
 by_cases hm0:0<E.mems
 . rw[if_pos hm0]at e0;have hm1:(0:Int)<(E.mems:Int):=(by omega)
   clear hm0;cases hq:zI 127 s with
   |error m=>rw[hq]at e0;replace e0:=zh e0;have hc:=qR h1.t h.wf (.inr ⟨.inr rfl,rfl⟩) hq;clear hq;go_enter Tryz.func102,Tryz.ntmps102;go_wp2_with fail;refine(qE hm1 _).mono ?_;rintro e w2 ⟨rfl,rfl⟩;go_wp2_with fail;refine hc.mono ?_;rintro e w2 ⟨rfl,sv2,fv2,t2⟩;go_wp2;exact⟨rfl,by rw[e0.out];exact⟨rfl,sv2,fv2,t1.trans t2⟩⟩
   |ok q=>rw[hq]at e0;replace e0:=zh e0;have hc:=qL h1.t h.wf (.inr ⟨.inr rfl,rfl⟩) hq;have hlen:=zS hq;clear hq;go_enter Tryz.func102,Tryz.ntmps102;go_wp2_with fail;refine(qE hm1 _).mono ?_;rintro e w2 ⟨rfl,rfl⟩;go_wp2_with fail;refine hc.mono ?_;rintro e w2 ⟨rfl,sv2,h2,t2⟩;have hpu:=yX h2 (t:=127) (v:=127) rfl (by omega);go_wp2_with fail;refine hpu.mono ?_;rintro e w5 ⟨rfl,sv5,h5,t5⟩;go_wp2;go_end0;rw[e0.out];exact⟨rfl,sv5,h5,(t1.trans t2).trans t5⟩
 . rw[if_neg hm0]at e0;replace e0:=zh e0;have hm1:¬(0:Int)<(E.mems:Int):=(by omega)
   have hHN:=λw=>zh (yB hm1 w);clear hm0 hm1;go_enter Tryz.func102,Tryz.ntmps102;go_wp2_with fail;refine(hHN _).out.mono ?_;rintro e w2 ⟨rfl,rfl⟩;go_wp2;exact⟨rfl,by rw[e0.out];exact⟨rfl,sv,fv,t1⟩⟩
theorem plain_no(h:Cx w0 N p c lv E w sv fv s)(op a y n:Int)(v4 v5 v6:Value)(g0:op≠0)(g15:op≠15)(g26:op≠26)(g27:op≠27)(g63:op≠63)(g64:op≠64):Calls Tryz.prog 102 #[.pointer (some ⟨p,0,none⟩),zO op a y n v4 v5 v6] w (vG N p (.pointer (some ⟨c,0,none⟩)) lv w sv fv (.ok s)):=by
 obtain⟨w1,hw1,h1,hx,ho,t1⟩:=zT h op a y n v4 v5 v6;unfold zO;rw[hw1]at h1 t1;clear hw1;have f0:(op==0)=false:=(by simp[g0])
 have f15:(op==15)=false:=(by simp[g15])
 have f26:(op==26)=false:=(by simp[g26])
 have f27:(op==27)=false:=(by simp[g27])
 have f63:(op==63)=false:=(by simp[g63])
 have f64:(op==64)=false:=(by simp[g64])
 go_enter Tryz.func102,Tryz.ntmps102;go_wp2;go_end0;exact⟨rfl,sv,h1.t,t1⟩
theorem plain_any(h:Cx w0 N p c lv E w sv fv s)(op a y n:Int)(v4 v5 v6:Value)(hb:s.st.length+1<=1099511627776):Calls Tryz.prog 102 #[.pointer (some ⟨p,0,none⟩),zO op a y n v4 v5 v6] w (vG N p (.pointer (some ⟨c,0,none⟩)) lv w sv fv (xK E op s)):=by
 by_cases g0:op=0
 . subst g0;exact plain_0 h a y n v4 v5 v6
 by_cases g15:op=15
 . subst g15;exact plain_15 h a y n v4 v5 v6
 by_cases g26:op=26
 . subst g26;exact plain_26 h a y n v4 v5 v6
 by_cases g27:op=27
 . subst g27;exact plain_27 h a y n v4 v5 v6 hb
 by_cases g63:op=63
 . subst g63;exact plain_63 h a y n v4 v5 v6 hb
 by_cases g64:op=64
 . subst g64;exact plain_64 h a y n v4 v5 v6 hb
 have e:xK E op s=.ok s:=by unfold xK;rw[if_neg g0,if_neg g15,if_neg g26,if_neg g27,if_neg g63,if_neg g64]
 rw[e];exact plain_no h op a y n v4 v5 v6 g0 g15 g26 g27 g63 g64
end
end Go.Proofs.YtacohbllbjgdgaaGreatDoor
