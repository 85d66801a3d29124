/- The reference's checker of a body: pops, dead, label, result. -/
import Derived.Test.YtacohbllbjgdgaaGreatDoorZp
import Derived.Test.YtacohbllbjgdgaaGreatDoorXt
import Derived.Test.YtacohbllbjgdgaaGreatDoorOa
import Derived.Laws.ResultCell
set_option linter.all false
set_option maxRecDepth 100000
set_option maxHeartbeats 16000000
namespace Go.Proofs.YtacohbllbjgdgaaGreatDoor
open Go.RowKit
section
variable {N p:Nat} {M:M10} {lv:Value} {w w':World} {sv fv sv' fv':Value} {s:Rs}
theorem rpops_any(h:RcP N p M lv w sv fv s)(hwf:RWf s){l:List Int}{la:Option Addr}{lc:Nat}(hl:LiB w p sv fv la l):Calls Tryz.prog 85 #[.pointer (some ⟨p,0,none⟩),.slice la l.length lc] w (endO N p M lv w sv fv (jI l s)):=by
 have h63:=hl.1.1;have e1:IntKind.i64.wrap ((l.length:Int)-1)=(l.length:Int)-1:=(by rw[IntKind.wrap_i64];omega)
 generalize hX:jI l s=X;have hX0:Hid (rPops (l.take l.length).reverse s=X):=zh (by rw[List.take_length];exact hX);clear hX;have h00:Hid (RcP N p M lv w sv fv s/\Tw p sv fv sv fv w w/\RWf s):=zh ⟨h,.refl _ _ _ _,hwf⟩;replace hl:=zh hl;clear h hwf;go_enter Tryz.func85,Tryz.ntmps85;go_wp2_with fail;go_loopw [4] (λvi wr=>∃k:Nat,∃sv':Value,∃s':Rs,vi=.int .i64 ((k:Int)-1)/\k<=l.length/\Hid (rPops (l.take k).reverse s'=X)/\Hid (RcP N p M lv wr sv' fv s'/\Tw p sv fv sv' fv w wr/\RWf s')) (λvi _=>(intOf vi+1).toNat)
 case atStart=>exact⟨l.length,sv,s,rfl,Nat.le_refl _,hX0,h00⟩
 case round=>
  clear hX0 h00;obtain⟨k,sv',s',rfl,hk,hx,hh⟩:=hrel;obtain⟨h1,t1,hwf1⟩:=hh.out
  by_cases hk0:k=0
  . subst hk0;have hx2:s'=X:=hx.out;subst hx2;go_wp2;go_end0;exact⟨rfl,sv',h1,t1⟩
  . obtain⟨j,rfl⟩:∃j,k=j+1:=⟨k-1,by omega⟩
    have hj:j<l.length:=(by omega)
    have hli:=hl.out.tw t1
    obtain⟨b,o,rfl,hc⟩:∃b o,la=some ⟨b,o,none⟩/\∀i x,l[i]? =some x->wr.cell? ⟨b,o+i,none⟩=some (.int .i64 x):=by
     rcases hli.1.2 with e |e
     . rw[e]at hj;simp at hj
     . exact e
    obtain⟨x,hx1⟩:∃x,l[j]? =some x:=⟨_,List.getElem?_eq_getElem hj⟩
    have hcx:=hc j x hx1
    have hx2:Hid (rPops (l.take j).reverse (zQ x s').2=X):=zh (by
     have:=hx.out;rw[List.take_add_one,hx1,Option.toList_some,List.reverse_append]at this;exact this)
    have e2:(((j+1:Nat):Int)-1)=(j:Int):=(by omega)
    rw[e2];have e3:IntKind.i64.wrap ((j:Int)-1)=(j:Int)-1:=(by rw[IntKind.wrap_i64];omega)
    have hp:=qQ h1 hwf1 x;have g:=jF hwf1 x;clear hc hx hx1 hh hli;go_wp2_with fail;refine hp.mono ?_;rintro e w2 ⟨rfl,sv2,h2,t2⟩;go_wp2
    go_roundw
    case rel=>exact⟨j,sv2,_,rfl,by omega,hx2,zh ⟨h2,t1.trans t2,g.wf⟩⟩
    case measure=>simp[intOf]
theorem rDead_0{s:Rs}{f:Fr}{r:List Fr}(hw:s.w=0)(hf:s.fs=f::r):jY s=⟨s.w,s.st.drop (s.st.length-f.h),{f with dead:=true}::r⟩:=by unfold jY;rw[if_pos hw,hf]
theorem rdead_any(h:RcP N p M lv w sv fv s)(hwf:RWf s):Calls Tryz.prog 104 #[.pointer (some ⟨p,0,none⟩)] w (endO N p M lv w sv fv (jY s)):=by
 obtain⟨k0,k1,k2,k3,z1,z2,z3⟩:=h.c
 by_cases hw:s.w=0
 . obtain⟨f,r,hf⟩:=List.exists_cons_of_ne_nil hwf.fs;have hh:f.h<=s.st.length:=(by have:=hwf.ok hw;unfold hR at this;rw[hf]at this;exact this)
   rw[rDead_0 hw hf];rw[hw]at k3;replace hw:=zh hw;obtain⟨g,cap,fa,hfv,hg,c0,c1,c2,c3,z3',l1,l2,hn,hm⟩:=h.o.top hf;have hT:=λw (h:RcP N p M lv w sv fv s)=>rtop_any h hf;obtain⟨sa,sn,sc,hsv,hsc,hsn,hsl,hcl,ho,hob⟩:=h.o.cut hh;rw[hsv]at k1;have i0:(0:Int)<=(f.h:Int):=(by omega)
   have i1:(f.h:Int)<=(sc:Int):=(by omega)
   go_enter Tryz.func104,Tryz.ntmps104;go_wp2_with fail
   go_region_with (first |(go_at_call 86;refine(hT _ (h.step (zB _))).mono ?_;rintro e w1 ⟨⟨g',cap',hfv',rfl⟩,m1,rfl⟩;rw[hfv]at hfv';cases hfv'))
   all_goals(
    go_wp2_with fail;have h5:=(h.step (zB (1+m1))).setS (ho.step (zB (1+m1)));have t5:=((Tw.of_below (p:=p) (sv:=sv) (fv:=fv) (zB (w:=w) (1+m1))).cutS (sv'':=.slice sa f.h sc) hob).set 11 (.slice sa f.h sc);clear h k0 k1 k2 k3 z1 z2 z3 c0 c1 c2 c3 z3' hT;refine(rtop_any h5 hf).mono ?_;rintro e w1 ⟨⟨g',cap',hfv',rfl⟩,m2,rfl⟩;rw[hfv]at hfv';cases hfv';have h6:=h5.step (zB m2);have t6:=t5.step (zB m2);obtain⟨g',cap',fa',hfv',_,_,_,c2',c3',z3,_,_,_,_⟩:=h6.o.top (f:=f) (r:=r) hf;rw[hfv]at hfv';cases hfv';obtain⟨o7,t7⟩:=h6.o.die (by decide) hfv (f:=f) (r:=r) hf;have hgp:g≠p:=λe=>by have:=h6.o.hN;omega
    have hb7:=(Below.heap_setCell _ ⟨g,r.length*4+3,none⟩ (.bool true) p (show p≠g fromλe=>hgp e.symm)).trans h6.b;have hR:RcP N p M lv _ _ _ ⟨s.w,s.st.drop (s.st.length-f.h),{f with dead:=true}::r⟩:=⟨hb7,o7⟩
    go_wp2_with fail;go_end0;exact⟨rfl,_,hR,t6.trans t7⟩)
 . have hX:jY s=s:=(by unfold jY;rw[if_neg hw])
   rw[hX];have hb:(s.w==0)=false:=(by simp[hw])
   go_enter Tryz.func104,Tryz.ntmps104;go_wp2;go_end0;exact⟨rfl,_,h,.refl _ _ _ _⟩
theorem rresult_any(a:Int)(w:World):Calls Tryz.prog 105 #[.int .i64 a] w λe w'=>(∃la lc,e=.returned (.slice la (zK a).length lc)/\IntsIn w' la (zK a)/\(zK a=[]\/∀ad,la=some ad->w.heap.size<=ad.block))/\Below w.heap.size w w':=by
 by_cases ha:a=0
 . have e:zK a=[]:=(by unfold zK;rw[if_pos ha])
   rw[e];have hb:(a==0)=true:=(by simp[ha])
   clear ha;go_enter Tryz.func105,Tryz.ntmps105;go_wp2;go_ret;exact⟨⟨none,0,rfl,⟨by simp,.inl rfl⟩,by simp⟩,Below.refl _ _⟩
 . have e:zK a=[a]:=(by unfold zK;rw[if_neg ha])
   rw[e];have hb:(a==0)=false:=(by simp[ha])
   clear ha;go_enter Tryz.func105,Tryz.ntmps105;go_wp2;go_ret;refine⟨⟨_,_,rfl,⟨by simp,.inr ⟨_,_,rfl,λi x hx=> ?_⟩⟩,.inr λad e=>by cases e;exact Nat.le_refl _⟩,Below.of_alloc w _⟩;have hi:i=0:=(by have:=(List.getElem?_eq_some_iff.1 hx).1;simp at this;omega)
   subst hi;simp at hx;subst hx;exact World.cell?_alloc_at _ _ _ 0 (by simp)
def endL (N p:Nat) (M:M10) (lv:Value) (w:World) (sv fv:Value) (s:Rs) (a:Int) (e:Ending) (w':World):Prop:=
 (if qX a s then(∃ga gc,e=.returned (.tuple #[.slice ga (qT a s).length gc,.bool true])/\LiB w' p sv fv ga (qT a s))/\RcP N p M lv w' sv fv s
  else e=.returned (.tuple #[.slice none 0 0,.bool false])/\RcP N p M lv w' sv fv (zR 61 s))/\Tw p sv fv sv fv w w'
theorem rlabel_any(h:RcP N p M lv w sv fv s)(a:Int):Calls Tryz.prog 108 #[.pointer (some ⟨p,0,none⟩),.int .i64 a] w (endL N p M lv w sv fv s a):=by
 obtain⟨k0,k1,k2,k3,z1,z2,z3⟩:=h.c;obtain⟨L,hL1,hL2,hL3⟩:=h.o.fs;replace hL1:L.map Prod.fst=s.fs:=hL1;have hll:L.length=s.fs.length:=(by rw[<-hL1,List.length_map])
 obtain⟨fa,fc,hfv⟩:=own_sl hL2;rw[hll]at hfv;rw[hfv]at k2
 by_cases hr:qX a s
 . obtain⟨hr0,hr1⟩:=hr;obtain⟨k,rfl⟩:∃k:Nat,a=k:=⟨a.toNat,by omega⟩
   have hk:k<s.fs.length:=(by omega)
   obtain⟨f,hf⟩:∃f,s.fs[k]? =some f:=⟨_,List.getElem?_eq_getElem hk⟩
   have hX:qT (k:Int) s=f.goes:=by unfold qT;rw[Int.toNat_natCast,List.getD_eq_getElem?_getD,hf];rfl
   obtain⟨g,cap,fa',hfv',hg,c0,c1,c2,c3,z3',l1,l2,hn2,hm⟩:=h.o.frame hf;rw[hfv]at hfv';cases hfv';simp only[maxLen]at hm;replace hn2:s.fs.length<=fc:=hn2;replace hm:fc<=9223372036854775807:=by omega
   have e1:IntKind.i64.wrap ((s.fs.length:Int)-1)=((s.fs.length-1:Nat):Int):=(by rw[IntKind.wrap_i64];omega)
   have e2:IntKind.i64.wrap (((s.fs.length-1:Nat):Int)-(k:Int))=((s.fs.length-1-k:Nat):Int):=(by rw[IntKind.wrap_i64];omega)
   have i1:(0:Int)<=((s.fs.length-1-k:Nat):Int):=(by omega)
   have i2:((s.fs.length-1-k:Nat):Int)<(s.fs.length:Int):=(by omega)
   have hend:∀n,endL N p M lv w sv fv s (k:Int) (.returned (.tuple #[.slice fa'.ga f.goes.length fa'.gc,.bool true])) (w.drewN n):=λn=>by
    unfold endL;rw[if_pos ⟨hr0,hr1⟩,hX];exact⟨⟨⟨_,_,rfl,l1.tw (.of_below (zB _))⟩,h.step (zB _)⟩,.of_below (zB _)⟩
   replace hend:=zh hend;have d1:decide ((k:Int)<0)=false:=decide_eq_false (by omega);have d2:decide ((s.fs.length:Int)<=(k:Int))=false:=decide_eq_false (by omega);clear hX hf h l1 l2 hL1 hL2 hL3;go_enter Tryz.func108,Tryz.ntmps108;go_wp2_with fail
   go_quiet (fail)
   go_wp2_with fail;go_ret2;exact hend.out nq
 . have hend:∀w1,RcP N p M lv w1 sv fv (zR 61 s)->Tw p sv fv sv fv w w1->endL N p M lv w sv fv s a (.returned (.tuple #[.slice none 0 0,.bool false])) w1:=λw1 h1 t1=>by
    unfold endL;rw[if_neg hr];exact⟨⟨rfl,h1⟩,t1⟩
   have hB:=xV h 61;replace hend:=zh hend;replace hB:=zh hB
   have hr2:a<0\/(¬a<0/\(s.fs.length:Int)<=a):=by unfold qX at hr;omega
   rcases hr2 with hr2 |⟨hr2,hr3⟩
   all_goals(
    go_enter Tryz.func108,Tryz.ntmps108;go_wp2_with fail;refine hB.out.mono ?_;rintro e w1 ⟨rfl,h1,t1⟩;go_wp2;go_ret2;exact hend.out _ h1 t1)
end
end Go.Proofs.YtacohbllbjgdgaaGreatDoor
namespace Go.Proofs.YtacohbllbjgdgaaGreatDoor
open Go.RowKit
def vZ (m:Md):Int:=zD (λt=>if t.2.length<=1 then 0 else 60) m.types
def vB (m:Md):List Int:=m.imports.map (λt=>t.2.2)++m.funcs.map (λt=>t.1)
def idxV (m:Md):Int:=zD (λn=>vD n m.types.length) (vB m)
def zP (m:Md):List (List Int×List Int):=(vB m).map λn=>m.types.getD n.toNat ([],[])
def yS (m:Md) (k:Int):Int:=if k=0 then(zP m).length else if k=1 then m.tables.length else if k=2 then m.mems.length else m.globals.length
def expGo (m:Md):List (ByteArray×Int×Int)->List ByteArray->Int
 | [],_=>0
 |x::r,seen=>if x.1.data.toList∈seen.map (λs=>s.data.toList)then 63 else if x.2.2<yS m x.2.1 then expGo m r (x.1::seen)else 61
def yV (m:Md) (n:Int):Int:=if n<((zP m).length:Int)then(if((zP m).getD n.toNat ([],[])).1.length=0/\((zP m).getD n.toNat ([],[])).2.length=0 then 0 else 60)else 61
def xB (m:Md):Int:=qC (expGo m m.exports []) (zD (yV m) m.start)
def jB (m:Md):List (Int×List Int×Il)->Nat->Int×Int
 | [],_=>(-1,0)
 |fn::r,n=>match vQ m (zP m) ((zP m).getD n ([],[])) fn with
   |.ok _=>jB m r (n+1)
   |.error e=>(n,e)
def headV (m:Md):Int:=qC (zU m) (qC (vZ m) (qC (idxV m) (qC (partsV m) (qC (xB m) (yC m (zP m).length)))))
def zW (m:Md):Int×Int:=if headV m=0 then jB m m.funcs m.imports.length else(-1,headV m)
theorem funcT_length(m:Md):(zP m).length=m.imports.length+m.funcs.length:=by unfold zP vB;simp
theorem yK {α:Type} {f:α->Int}:∀{l:List α},zD f l=0->∀x∈l,f x=0
 | [],_,x,hx=>by cases hx
 |y::r,h,x,hx=>by
   unfold zD at h
   by_cases hy:f y=0
   . rw[if_pos hy]at h
     rcases List.mem_cons.1 hx with rfl |hx
     . exact hy
     . exact yK h x hx
   . rw[if_neg hy]at h;exact absurd h hy
theorem xE{a b:Int}(h:qC a b=0):a=0/\b=0:=by
 unfold qC at h
 by_cases ha:a=0
 . rw[if_pos ha]at h;exact⟨ha,h⟩
 . rw[if_neg ha]at h;exact absurd h ha
end Go.Proofs.YtacohbllbjgdgaaGreatDoor
namespace Go.Proofs.YtacohbllbjgdgaaGreatDoor
open Go.RowKit
structure MA where
 a0:Option Addr
 k0:Nat
 a1:Option Addr
 k1:Nat
 a2:Option Addr
 k2:Nat
 a3:Option Addr
 k3:Nat
 a4:Option Addr
 k4:Nat
 a5:Option Addr
 k5:Nat
 a6:Option Addr
 k6:Nat
 a7:Option Addr
 k7:Nat
 a8:Option Addr
 k8:Nat
 a9:Option Addr
 k9:Nat
def MA.v (A:MA) (m:Md):M10:=⟨.slice A.a0 m.types.length A.k0,.slice A.a1 m.imports.length A.k1,.slice A.a2 m.funcs.length A.k2,.slice A.a3 m.tables.length A.k3,.slice A.a4 m.mems.length A.k4,.slice A.a5 m.globals.length A.k5,.slice A.a6 m.exports.length A.k6,.slice A.a7 m.start.length A.k7,.slice A.a8 m.elems.length A.k8,.slice A.a9 m.datas.length A.k9⟩
def MdA (w:World) (m:Md) (A:MA):Prop:=MdAt w m A.a0 A.k0 A.a1 A.k1 A.a2 A.k2 A.a3 A.k3 A.a4 A.k4 A.a5 A.k5 A.a6 A.k6 A.a7 A.k7 A.a8 A.k8 A.a9 A.k9
structure Rx (wa:World) (N p:Nat) (A:MA) (lv:Value) (m:Md) (E:Ev) (w:World) (sv fv:Value) (s:Rs):Prop where
 t:RcP N p (A.v m) lv w sv fv s
 wf:RWf s
 b:Below wa.heap.size wa w
 p0:wa.heap.size<=p
 md:MdA wa m A
 lc:∃a k,lv=.slice a E.locals.length k/\LiB w p sv fv a E.locals
 e1:E.types=m.types
 e2:E.globals=m.globals.map λg=>(g.1,g.2.1)
 e3:E.tables=m.tables.length
 e4:E.mems=m.mems.length
section
variable {wa:World} {N p:Nat} {A:MA} {lv:Value} {m:Md} {E:Ev} {w w':World} {sv fv sv' fv':Value} {s u:Rs}
theorem Rx.go(h:Rx wa N p A lv m E w sv fv s)(hu:RWf u)(t:RcP N p (A.v m) lv w' sv' fv' u)(tw:Tw p sv fv sv' fv' w w'):Rx wa N p A lv m E w' sv' fv' u:=by obtain⟨a,k,e,l⟩:=h.lc;have hN:=h.t.o.hN;have hp:=h.p0;refine⟨t,hu,h.b.trans (tw.below h.p0 (λg hg=>by have:=h.t.o.low.1 g hg;omega) (λg hg=>by have:=h.t.o.low.2 g hg;omega) h.b.size),h.p0,h.md,⟨a,k,e,l.tw tw⟩,h.e1,h.e2,h.e3,h.e4⟩
theorem Rx.step(h:Rx wa N p A lv m E w sv fv s)(b:Below w.heap.size w w'):Rx wa N p A lv m E w' sv fv s:=h.go h.wf (h.t.step b) (.of_below b)
theorem Rx.mdw(h:Rx wa N p A lv m E w sv fv s):MdA w m A:=MdAt.keep (zA h.b) h.md
theorem Rx.old(h:Rx wa N p A lv m E w sv fv s){l:List Int}{a:Option Addr}(hl:IntsIn wa a l):LiB w p sv fv a l:=by
 have hN:=h.t.o.hN;have hp:=h.p0;refine .old (M:=wa.heap.size) (hl.below h.b) ?_ h.p0 (λg hg=>by have:=h.t.o.low.1 g hg;omega) (λg hg=>by have:=h.t.o.low.2 g hg;omega)
 rcases hl.2 with e |⟨b,o,rfl,hc⟩
 . exact .inl e
 . cases hts:l with
   |nil=>exact .inl rfl
   |cons x r=>refine .inr λad e=> ?_;cases e;exact World.block_lt_of_cell? _ _ (hc 0 x (by rw[hts];rfl))
theorem RcP.off{M:M10}(h:RcP N p M lv w sv fv s)(o:Obj):Off (w.alloc o) p sv fv w.heap.size:=by obtain⟨L,_,h3,_⟩:=h.o.fs;exact⟨by simp,λe=>by have:=lt_of_block h.b;omega,λe=>by have:=(h.o.st.lt _ e).2;omega,λe=>by have:=(h3.lt _ e).2;omega⟩
def Lh (s:Rs):Prop:=s.w=0->s.st.length+1<=1099511627776
theorem Gr.lh{s s':Rs}(g:Gr 0 s s')(h:Lh s):Lh s':=λhw=>by have:=g.ok hw;have:=h this.1;omega
theorem Lh.l(h:Lh s){l:List Int}(hl:l.length<=1):s.w=0->s.st.length+l.length<=1099511627776:=λhw=>by have:=h hw;omega
theorem rcall_any(h:Rx wa N p A lv m E w sv fv s){t:List Int×List Int}{pa ra:Option Addr}{pc rc:Nat}(l1:LiB w p sv fv pa t.1)(l2:LiB w p sv fv ra t.2)(ht:t.2.length<=1)(hb:Lh s):Calls Tryz.prog 110 #[.pointer (some ⟨p,0,none⟩),.agg #[.slice pa t.1.length pc,.slice ra t.2.length rc]] w (endO N p (A.v m) lv w sv fv (rCall t s)):=by
 have ha:=Below.of_alloc w (.cells #[.slice pa t.1.length pc,.slice ra t.2.length rc] 44);have tw1:Tw p sv fv sv fv w (w.alloc (.cells #[.slice pa t.1.length pc,.slice ra t.2.length rc] 44)):=.of_below ha;have h2:=h.step ha;have hoff:=h.t.off (.cells #[.slice pa t.1.length pc,.slice ra t.2.length rc] 44);have hc:=rpops_any (lc:=pc) h2.t h2.wf (l1.tw tw1);have g:=gr_popL h.wf t.1;unfold rCall;go_enter Tryz.func110,Tryz.ntmps110;go_wp2_with fail;refine hc.mono ?_;rintro e w2 ⟨rfl,sv2,h3,tw2⟩
 have c1:w2.cell? ⟨w.heap.size,1,none⟩=some (.slice ra t.2.length rc):=by rw[World.cell?_of_block (hoff.tw tw2).2];exact World.cell?_alloc_at _ _ _ 1 (by simp)
 have hl2:=(l2.tw tw1).tw tw2;go_wp2_with fail;refine(rpush_any (lc:=rc) h3 hl2.1 ((g.lh hb).l ht)).mono ?_;rintro e w3 ⟨rfl,sv3,h4,tw3⟩;go_wp2;go_end0;exact⟨rfl,sv3,h4,(tw1.trans tw2).trans tw3⟩
theorem tup2{a b a' b':Int}(h:a=a')(k:b=b'):Ending.returned (.tuple #[.int .i64 a,.int .i64 b])=.returned (.tuple #[.int .i64 a',.int .i64 b']):=by rw[h,k]
theorem wide_any(op:Int)(w:World):Calls Tryz.prog 123 #[.int .i64 op] w λe w'=>e=.returned (.tuple #[.int .i64 (wideN op),.int .i64 (wideT op)])/\w'=w:=by
 go_enter Tryz.func123,Tryz.ntmps123;go_wp2;all_goals go_ret2
 all_goals refine⟨?_,rfl⟩
 all_goals refine tup2 ?_ ?_
 all_goals simp only[beq_iff_eq,beq_eq_false_iff_ne,ne_eq]at*
 all_goals first |unfold wideN |unfold wideT
 all_goals repeat' split
 all_goals omega
end
end Go.Proofs.YtacohbllbjgdgaaGreatDoor
namespace Go.Proofs.YtacohbllbjgdgaaGreatDoor
open Go.RowKit
theorem qM{P:Program}{fn:Func}{p u:Tmp}{ty:TypeId}(h:fn.results= #[.cell p ty,.tmp u])(tmps:Array Value)(w:World)(g:Nat)(t:TypeId)(cs:Array Value)(fr:Nat×Nat)(d:TypeDesc)(hp:tmps.getD p undef=.pointer (some ⟨g,0,none⟩))(hg:w.heap[g]? =some (.cells cs t fr))(hu:P.underlying ty=some d)(hd:(match d with |.struct _ |.array _ _=>true |_=>false)=true)(hi:(P.info? ty).map (·.size)=some cs.size):(results fn tmps).run P w=.ok (.tuple #[.agg cs,tmps.getD u undef]) w:=by
 rw[results_cell_tmp h,hp];simp[asAddr,run_loadVar_row w g t ty cs fr d hg hu hd hi,Result.andThen]
theorem info44s:(Tryz.prog.info? 44).map (·.size)=some 2:=by kernel_rfl
def typV (m:Md) (n:Int):Option (List Int×List Int):=
 if 0<=n then match (vB m)[n.toNat]? with |some t=>if 0<=t then m.types[t.toNat]? else none |none=>none else none
def TypQ (wa w:World) (x:Option (List Int×List Int)) (e:Ending) (w':World):Prop:=
 (match x with
  |some t=>∃pa pc ra rc,e=.returned (.tuple #[.agg #[.slice pa t.1.length pc,.slice ra t.2.length rc],.bool true])/\IntsIn wa pa t.1/\IntsIn wa ra t.2
  |none=>e=.returned (.tuple #[.agg #[.slice none 0 0,.slice none 0 0],.bool false]))/\Below w.heap.size w w'
theorem idx_imp{m:Md}{k:Nat}{x:ByteArray×ByteArray×Int}(h:m.imports[k]? =some x):(vB m)[k]? =some x.2.2:=by have hl:=(List.getElem?_eq_some_iff.1 h).1;unfold vB;rw[List.getElem?_append_left (by simpa using hl),List.getElem?_map,h];rfl
theorem idx_fun{m:Md}{k:Nat}{x:Int×List Int×Il}(h:m.funcs[k]? =some x):(vB m)[m.imports.length+k]? =some x.1:=by unfold vB;rw[List.getElem?_append_right (by simp),List.length_map,Nat.add_sub_cancel_left,List.getElem?_map,h];rfl
theorem idx_none{m:Md}{k:Nat}(h:m.imports.length+m.funcs.length<=k):(vB m)[k]? =none:=by unfold vB;exact List.getElem?_eq_none (by simpa using h)
theorem typ_none_neg{m:Md}{n:Int}(h:n<0):typV m n=none:=by unfold typV;rw[if_neg (by omega)]
theorem typ_out{m:Md}{k:Nat}(h:m.imports.length+m.funcs.length<=k):typV m (k:Int)=none:=by unfold typV;rw[if_pos (by omega),Int.toNat_natCast,idx_none h]
theorem typ_at{m:Md}{k:Nat}{t:Int}(h:(vB m)[k]? =some t):typV m (k:Int)=if 0<=t then m.types[t.toNat]? else none:=by unfold typV;rw[if_pos (by omega),Int.toNat_natCast,h]
theorem alloc2(w:World)(o o':Obj):((w.alloc o).alloc o').heap[w.heap.size+1]? =some o':=by
 have h:=heap_alloc_new (w.alloc o) o';have e:(w.alloc o).heap.size=w.heap.size+1:=(by simp)
 rw[e]at h;exact h
theorem vM(w:World)(o o':Obj):Below w.heap.size w ((w.alloc o).alloc o'):=(Below.of_alloc w o).trans ((Below.of_alloc (w.alloc o) o').mono (by simp))
section
variable {wa w:World} {m:Md} {A:MA}
theorem typ_any(hA:MdA wa m A)(hb:Below wa.heap.size wa w)(n:Int)(hsz:m.imports.length+m.funcs.length<=1099511627776):Calls Tryz.prog 55 #[.agg #[(A.v m).v0,(A.v m).v1,(A.v m).v2,(A.v m).v3,(A.v m).v4,(A.v m).v5,(A.v m).v6,(A.v m).v7,(A.v m).v8,(A.v m).v9],.int .i64 n] w (TypQ wa w (typV m n)):=by
 generalize hX:typV m n=X;replace hX:=zh hX;obtain⟨a0,k0,a1,k1,a2,k2,a3,k3,a4,k4,a5,k5,a6,k6,a7,k7,a8,k8,a9,k9⟩:=A;unfold MA.v;unfold MdA at hA
 dsimp only at hA ⊢
 have l1:=hA.imports.1;have l2:=hA.funcs.1;have l0:=hA.types.1
 have hnone:∀w',Below w.heap.size w w'->X=none->TypQ wa w X (.returned (.tuple #[.agg #[.slice none 0 0,.slice none 0 0],.bool false])) w':=λw' b e=>by
  subst e;exact⟨rfl,b⟩
 replace hnone:=zh hnone;have w1:IntKind.i64.wrap ((m.imports.length:Int)+(m.funcs.length:Int))=(m.imports.length:Int)+(m.funcs.length:Int):=(by rw[IntKind.wrap_i64];omega)
 by_cases hn:n<0
 . have e:Hid (X=none):=zh (hX.out.symm.trans (typ_none_neg hn));clear hA hX;go_enter Tryz.func55,Tryz.ntmps55;go_wp2_with fail
   all_goals(
    refine bodyPost_ret (qM (P:=Tryz.prog) rfl _ _ (w.heap.size+1) 44 #[.slice none 0 0,.slice none 0 0] (0,0) _ rfl (alloc2 _ _ _) Tryz.underlying44 rfl info44s) rfl ?_;exact hnone.out _ (vM _ _ _) e.out)
 . obtain⟨k,rfl⟩:∃k:Nat,n=k:=⟨n.toNat,by omega⟩
   have i0:(0:Int)<=(k:Int):=(by omega)
   by_cases hi:k<m.imports.length
   . obtain⟨x,hx⟩:∃x,m.imports[k]? =some x:=⟨_,List.getElem?_eq_getElem hi⟩
     have hT:Hid (typV m (k:Int)=if 0<=x.2.2 then m.types[x.2.2.toNat]? else none):=zh (typ_at (idx_imp hx));obtain⟨b1,o1,rfl,_,_,hc⟩:=hA.imports.row hx;replace hc:wa.cell? ⟨b1,o1+k*3+2,none⟩=some (.int .i64 x.2.2):=hc;have hc':=zA (vM w (.cells #[.slice a0 m.types.length k0,.slice (some ⟨b1,o1,none⟩) m.imports.length k1,.slice a2 m.funcs.length k2,.slice a3 m.tables.length k3,.slice a4 m.mems.length k4,.slice a5 m.globals.length k5,.slice a6 m.exports.length k6,.slice a7 m.start.length k7,.slice a8 m.elems.length k8,.slice a9 m.datas.length k9] 32) (.cells #[.slice none 0 0,.slice none 0 0] 44)) _ _ (zA hb _ _ hc);have i1:(k:Int)<(m.imports.length:Int):=(by omega)
     clear hc hx;generalize x.2.2=t at hT hc'
     obtain hcase |hcase |⟨ty,hty⟩:t<0\/(¬t<0/\(m.types.length:Int)<=t)\/∃ty,m.types[t.toNat]? =some ty:=by
      by_cases c1:t<0
      . exact .inl c1
      . by_cases c2:(m.types.length:Int)<=t
        . exact .inr (.inl ⟨c1,c2⟩)
        . exact .inr (.inr ⟨_,List.getElem?_eq_getElem (show t.toNat<m.types.length by omega)⟩)
     . have e:Hid (X=none):=zh (by rw[<-hX.out,hT.out,if_neg (by omega)]);clear hX hT;go_enter Tryz.func55,Tryz.ntmps55;go_wp2_with fail
       all_goals(
        refine bodyPost_ret (qM (P:=Tryz.prog) rfl _ _ (w.heap.size+1) 44 #[.slice none 0 0,.slice none 0 0] (0,0) _ rfl (alloc2 _ _ _) Tryz.underlying44 rfl info44s) rfl ?_;exact hnone.out _ (vM _ _ _) e.out)
     . have e:Hid (X=none):=zh (by rw[<-hX.out,hT.out,if_pos (by omega),List.getElem?_eq_none (by omega)]);obtain⟨hc1,hc2⟩:=hcase;clear hX hT;go_enter Tryz.func55,Tryz.ntmps55;go_wp2_with fail
       all_goals(
        refine bodyPost_ret (qM (P:=Tryz.prog) rfl _ _ (w.heap.size+1) 44 #[.slice none 0 0,.slice none 0 0] (0,0) _ rfl (alloc2 _ _ _) Tryz.underlying44 rfl info44s) rfl ?_;exact hnone.out _ (vM _ _ _) e.out)
     . have htl:=(List.getElem?_eq_some_iff.1 hty).1;have ht0:0<=t\/t<0:=(by omega)
       by_cases hneg:t<0
       . have e:Hid (X=none):=zh (by rw[<-hX.out,hT.out,if_neg (by omega)]);clear hX hT;go_enter Tryz.func55,Tryz.ntmps55;go_wp2_with fail
         all_goals(
          refine bodyPost_ret (qM (P:=Tryz.prog) rfl _ _ (w.heap.size+1) 44 #[.slice none 0 0,.slice none 0 0] (0,0) _ rfl (alloc2 _ _ _) Tryz.underlying44 rfl info44s) rfl ?_;exact hnone.out _ (vM _ _ _) e.out)
       . obtain⟨j,rfl⟩:∃j:Nat,t=j:=⟨t.toNat,by omega⟩
         rw[Int.toNat_natCast]at hty htl;have e:Hid (X=some ty):=zh (by rw[<-hX.out,hT.out,if_pos (by omega),Int.toNat_natCast,hty]);obtain⟨b0,o0,rfl,⟨pa,pc,g1,g1i⟩,⟨ra,rc,g2,g2i⟩⟩:=hA.types.row hty;have g1':=zA (vM w (.cells #[.slice (some ⟨b0,o0,none⟩) m.types.length k0,.slice (some ⟨b1,o1,none⟩) m.imports.length k1,.slice a2 m.funcs.length k2,.slice a3 m.tables.length k3,.slice a4 m.mems.length k4,.slice a5 m.globals.length k5,.slice a6 m.exports.length k6,.slice a7 m.start.length k7,.slice a8 m.elems.length k8,.slice a9 m.datas.length k9] 32) (.cells #[.slice none 0 0,.slice none 0 0] 44)) _ _ (zA hb _ _ g1);have g2':=zA (vM w (.cells #[.slice (some ⟨b0,o0,none⟩) m.types.length k0,.slice (some ⟨b1,o1,none⟩) m.imports.length k1,.slice a2 m.funcs.length k2,.slice a3 m.tables.length k3,.slice a4 m.mems.length k4,.slice a5 m.globals.length k5,.slice a6 m.exports.length k6,.slice a7 m.start.length k7,.slice a8 m.elems.length k8,.slice a9 m.datas.length k9] 32) (.cells #[.slice none 0 0,.slice none 0 0] 44)) _ _ (zA hb _ _ g2)
         have hdone:Hid (∀w',Below w.heap.size w w'->TypQ wa w X (.returned (.tuple #[.agg #[.slice pa ty.1.length pc,.slice ra ty.2.length rc],.bool true])) w'):=zh (λw' b=>by
          rw[e.out];exact⟨⟨_,_,_,_,rfl,g1i,g2i⟩,b⟩)
         have c3:¬((m.types.length:Int)<=(j:Int)):=(by omega)
         have c4:(j:Int)<(m.types.length:Int):=(by omega)
         have c5:(0:Int)<=(j:Int):=(by omega)
         clear hX hT e hty g1 g2;go_enter Tryz.func55,Tryz.ntmps55;go_wp2_with fail
         all_goals(
          refine bodyPost_ret (qM (P:=Tryz.prog) rfl _ _ (w.heap.size+1) 44 #[.slice pa ty.1.length pc,.slice ra ty.2.length rc] (0,0) _ rfl (alloc2 _ _ _) Tryz.underlying44 rfl info44s) rfl ?_;exact hdone.out _ (vM _ _ _))
   . have hk1:¬((k:Int)<(m.imports.length:Int)):=(by omega)
     by_cases hf:k<m.imports.length+m.funcs.length
     . obtain⟨j',rfl⟩:∃j',k=m.imports.length+j':=⟨k-m.imports.length,by omega⟩
       obtain⟨x,hx⟩:∃x,m.funcs[j']? =some x:=⟨_,List.getElem?_eq_getElem (by omega)⟩
       have hT:Hid (typV m ((m.imports.length+j':Nat):Int)=if 0<=x.1 then m.types[x.1.toNat]? else none):=zh (typ_at (idx_fun hx));obtain⟨b1,o1,rfl,hc,_,_⟩:=hA.funcs.row hx;replace hc:wa.cell? ⟨b1,o1+j'*3,none⟩=some (.int .i64 x.1):=hc;have hc':=zA (vM w (.cells #[.slice a0 m.types.length k0,.slice a1 m.imports.length k1,.slice (some ⟨b1,o1,none⟩) m.funcs.length k2,.slice a3 m.tables.length k3,.slice a4 m.mems.length k4,.slice a5 m.globals.length k5,.slice a6 m.exports.length k6,.slice a7 m.start.length k7,.slice a8 m.elems.length k8,.slice a9 m.datas.length k9] 32) (.cells #[.slice none 0 0,.slice none 0 0] 44)) _ _ (zA hb _ _ hc);generalize hK:((m.imports.length+j':Nat):Int)=K at hX hT hk1 i0 ⊢;have i1:K<(m.imports.length:Int)+(m.funcs.length:Int):=(by omega)
       have w2:IntKind.i64.wrap (K-(m.imports.length:Int))=(j':Int):=(by rw[IntKind.wrap_i64];omega)
       have i2:(0:Int)<=(j':Int):=(by omega)
       have i3:(j':Int)<(m.funcs.length:Int):=(by omega)
       have hn':¬K<0:=(by omega)
       replace hK:=zh hK;clear hc hx hi hf;generalize x.1=t at hT hc'
       obtain hcase |hcase |⟨ty,hty⟩:t<0\/(¬t<0/\(m.types.length:Int)<=t)\/∃ty,m.types[t.toNat]? =some ty:=by
        by_cases c1:t<0
        . exact .inl c1
        . by_cases c2:(m.types.length:Int)<=t
          . exact .inr (.inl ⟨c1,c2⟩)
          . exact .inr (.inr ⟨_,List.getElem?_eq_getElem (show t.toNat<m.types.length by omega)⟩)
       . have e:Hid (X=none):=zh (by rw[<-hX.out,hT.out,if_neg (by omega)]);clear hX hT;go_enter Tryz.func55,Tryz.ntmps55;go_wp2_with fail
         all_goals(
          refine bodyPost_ret (qM (P:=Tryz.prog) rfl _ _ (w.heap.size+1) 44 #[.slice none 0 0,.slice none 0 0] (0,0) _ rfl (alloc2 _ _ _) Tryz.underlying44 rfl info44s) rfl ?_;exact hnone.out _ (vM _ _ _) e.out)
       . have e:Hid (X=none):=zh (by rw[<-hX.out,hT.out,if_pos (by omega),List.getElem?_eq_none (by omega)]);obtain⟨hc1,hc2⟩:=hcase;clear hX hT;go_enter Tryz.func55,Tryz.ntmps55;go_wp2_with fail
         all_goals(
          refine bodyPost_ret (qM (P:=Tryz.prog) rfl _ _ (w.heap.size+1) 44 #[.slice none 0 0,.slice none 0 0] (0,0) _ rfl (alloc2 _ _ _) Tryz.underlying44 rfl info44s) rfl ?_;exact hnone.out _ (vM _ _ _) e.out)
       . have htl:=(List.getElem?_eq_some_iff.1 hty).1;have ht0:0<=t\/t<0:=(by omega)
         by_cases hneg:t<0
         . have e:Hid (X=none):=zh (by rw[<-hX.out,hT.out,if_neg (by omega)]);clear hX hT;go_enter Tryz.func55,Tryz.ntmps55;go_wp2_with fail
           all_goals(
            refine bodyPost_ret (qM (P:=Tryz.prog) rfl _ _ (w.heap.size+1) 44 #[.slice none 0 0,.slice none 0 0] (0,0) _ rfl (alloc2 _ _ _) Tryz.underlying44 rfl info44s) rfl ?_;exact hnone.out _ (vM _ _ _) e.out)
         . obtain⟨j,rfl⟩:∃j:Nat,t=j:=⟨t.toNat,by omega⟩
           rw[Int.toNat_natCast]at hty htl;have e:Hid (X=some ty):=zh (by rw[<-hX.out,hT.out,if_pos (by omega),Int.toNat_natCast,hty]);obtain⟨b0,o0,rfl,⟨pa,pc,g1,g1i⟩,⟨ra,rc,g2,g2i⟩⟩:=hA.types.row hty;have g1':=zA (vM w (.cells #[.slice (some ⟨b0,o0,none⟩) m.types.length k0,.slice a1 m.imports.length k1,.slice (some ⟨b1,o1,none⟩) m.funcs.length k2,.slice a3 m.tables.length k3,.slice a4 m.mems.length k4,.slice a5 m.globals.length k5,.slice a6 m.exports.length k6,.slice a7 m.start.length k7,.slice a8 m.elems.length k8,.slice a9 m.datas.length k9] 32) (.cells #[.slice none 0 0,.slice none 0 0] 44)) _ _ (zA hb _ _ g1);have g2':=zA (vM w (.cells #[.slice (some ⟨b0,o0,none⟩) m.types.length k0,.slice a1 m.imports.length k1,.slice (some ⟨b1,o1,none⟩) m.funcs.length k2,.slice a3 m.tables.length k3,.slice a4 m.mems.length k4,.slice a5 m.globals.length k5,.slice a6 m.exports.length k6,.slice a7 m.start.length k7,.slice a8 m.elems.length k8,.slice a9 m.datas.length k9] 32) (.cells #[.slice none 0 0,.slice none 0 0] 44)) _ _ (zA hb _ _ g2)
           have hdone:Hid (∀w',Below w.heap.size w w'->TypQ wa w X (.returned (.tuple #[.agg #[.slice pa ty.1.length pc,.slice ra ty.2.length rc],.bool true])) w'):=zh (λw' b=>by
            rw[e.out];exact⟨⟨_,_,_,_,rfl,g1i,g2i⟩,b⟩)
           have c3:¬((m.types.length:Int)<=(j:Int)):=(by omega)
           have c4:(j:Int)<(m.types.length:Int):=(by omega)
           have c5:(0:Int)<=(j:Int):=(by omega)
           clear hX hT e hty g1 g2;go_enter Tryz.func55,Tryz.ntmps55;go_wp2_with fail
           all_goals(
            refine bodyPost_ret (qM (P:=Tryz.prog) rfl _ _ (w.heap.size+1) 44 #[.slice pa ty.1.length pc,.slice ra ty.2.length rc] (0,0) _ rfl (alloc2 _ _ _) Tryz.underlying44 rfl info44s) rfl ?_;exact hdone.out _ (vM _ _ _))
     . have e:Hid (X=none):=zh (hX.out.symm.trans (typ_out (by omega)));have i1:¬((k:Int)<(m.imports.length:Int)+(m.funcs.length:Int)):=(by omega)
       clear hA hX hf hi;go_enter Tryz.func55,Tryz.ntmps55;go_wp2_with fail
       all_goals(
        refine bodyPost_ret (qM (P:=Tryz.prog) rfl _ _ (w.heap.size+1) 44 #[.slice none 0 0,.slice none 0 0] (0,0) _ rfl (alloc2 _ _ _) Tryz.underlying44 rfl info44s) rfl ?_;exact hnone.out _ (vM _ _ _) e.out)
end
end Go.Proofs.YtacohbllbjgdgaaGreatDoor
