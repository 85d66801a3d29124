/- The reference's checker of a body: its block, and its smallest functions. -/
import Derived.Test.YtacohbllbjgdgaaGreatDoorXc
import Derived.Test.YtacohbllbjgdgaaGreatDoorOa
import Derived.Deep.RegionWith
import Derived.Test.YtacohbllbjgdgaaGreatDoorFa
import Derived.Deep.AppendLies
import Derived.Laws.MakeOwn
import Derived.Laws.AppendOwn
import Derived.OwnWalk
import Derived.KernelRfl
import Derived.Test.YtacohbllbjgdgaaGreatDoorMj
import Derived.Test.YtacohbllbjgdgaaGreatDoorMh
import Derived.RegionTactic
import Derived.BigRegion
import Derived.Deep.Cut
import Derived.Deep.CutRange
import Derived.Deep.RegionHeld3
set_option linter.all false
set_option maxRecDepth 100000
set_option maxHeartbeats 8000000
namespace Go.Proofs.YtacohbllbjgdgaaGreatDoor
open Go.RowKit
structure M10 where
 v0:Value
 v1:Value
 v2:Value
 v3:Value
 v4:Value
 v5:Value
 v6:Value
 v7:Value
 v8:Value
 v9:Value
structure RcP (N p:Nat) (M:M10) (lv:Value) (w:World) (sv fv:Value) (s:Rs):Prop where
 b:w.heap[p]? =some (.cells #[M.v0,M.v1,M.v2,M.v3,M.v4,M.v5,M.v6,M.v7,M.v8,M.v9,lv,sv,fv,.int .i64 s.w] 108 (0,0))
 o:Ows N p 131 0 w sv fv ⟨s.st,s.fs⟩
def endS (N p:Nat) (M:M10) (lv:Value) (w:World) (sv fv:Value) (x:Rs) (e:Ending) (w':World):Prop:=
 e=.returned (.tuple #[])/\∃sv' fv',RcP N p M lv w' sv' fv' x/\Tw p sv fv sv' fv' w w'
def endO (N p:Nat) (M:M10) (lv:Value) (w:World) (sv fv:Value) (x:Rs) (e:Ending) (w':World):Prop:=
 e=.returned (.tuple #[])/\∃sv',RcP N p M lv w' sv' fv x/\Tw p sv fv sv' fv w w'
section
variable {N p:Nat} {M:M10} {lv:Value} {w w':World} {sv fv sv' fv':Value} {s:Rs}
theorem RcP.c(h:RcP N p M lv w sv fv s):w.cell? ⟨p,10,none⟩=some lv/\w.cell? ⟨p,11,none⟩=some sv/\w.cell? ⟨p,12,none⟩=some fv/\w.cell? ⟨p,13,none⟩=some (.int .i64 s.w)/\w.frozen? ⟨p,11,none⟩=false/\w.frozen? ⟨p,12,none⟩=false/\w.frozen? ⟨p,13,none⟩=false:=
 ⟨by rw[cell_of_row w p 10 _ _ _ h.b];rfl,by rw[cell_of_row w p 11 _ _ _ h.b];rfl,by rw[cell_of_row w p 12 _ _ _ h.b];rfl,by rw[cell_of_row w p 13 _ _ _ h.b];rfl,frozen_of_row w p 11 _ _ h.b,frozen_of_row w p 12 _ _ h.b,frozen_of_row w p 13 _ _ h.b⟩
theorem RcP.c10(h:RcP N p M lv w sv fv s):w.cell? ⟨p,0,none⟩=some M.v0/\w.cell? ⟨p,1,none⟩=some M.v1/\w.cell? ⟨p,2,none⟩=some M.v2/\w.cell? ⟨p,3,none⟩=some M.v3/\w.cell? ⟨p,4,none⟩=some M.v4/\w.cell? ⟨p,5,none⟩=some M.v5/\w.cell? ⟨p,6,none⟩=some M.v6/\w.cell? ⟨p,7,none⟩=some M.v7/\w.cell? ⟨p,8,none⟩=some M.v8/\w.cell? ⟨p,9,none⟩=some M.v9:=by
 have:=h.b;refine⟨?_,?_,?_,?_,?_,?_,?_,?_,?_,?_⟩;all_goals rw[cell_of_row w p _ _ _ _ this];rfl
theorem RcP.step(h:RcP N p M lv w sv fv s)(b:Below w.heap.size w w'):RcP N p M lv w' sv fv s:=⟨by rw[b.block p (lt_of_block h.b)];exact h.b,h.o.step b⟩
theorem RcP.setS(h:RcP N p M lv w sv fv s){v':Value}{st:List Int}(o:Ows N p 131 0 w v' fv ⟨st,s.fs⟩):RcP N p M lv (w.setCell ⟨p,11,none⟩ v') v' fv ⟨s.w,st,s.fs⟩:=
 ⟨by rw[heap_setCell_same w p 11 _ _ _ h.b];rfl,o.setP 11 v'⟩
theorem RcP.setF(h:RcP N p M lv w sv fv s){v':Value}{fs:List Fr}(o:Ows N p 131 0 w sv v' ⟨s.st,fs⟩):RcP N p M lv (w.setCell ⟨p,12,none⟩ v') sv v' ⟨s.w,s.st,fs⟩:=
 ⟨by rw[heap_setCell_same w p 12 _ _ _ h.b];rfl,o.setP 12 v'⟩
theorem RcP.setW(h:RcP N p M lv w sv fv s)(n:Int):RcP N p M lv (w.setCell ⟨p,13,none⟩ (.int .i64 n)) sv fv ⟨n,s.st,s.fs⟩:=
 ⟨by rw[heap_setCell_same w p 13 _ _ _ h.b];rfl,h.o.setP 13 _⟩
theorem rBad_0{e:Int}{s:Rs}(h:s.w=0):zQ e s=⟨e,s.st,s.fs⟩:=by unfold zQ;rw[if_pos h]
theorem rBad_1{e:Int}{s:Rs}(h:s.w≠0):zQ e s=s:=by unfold zQ;rw[if_neg h]
theorem j8(h:RcP N p M lv w sv fv s)(n:Int):Calls Tryz.prog 87 #[.pointer (some ⟨p,0,none⟩),.int .i64 n] w λe w'=>e=.returned (.tuple #[])/\RcP N p M lv w' sv fv (zQ n s)/\Tw p sv fv sv fv w w':=by
 obtain⟨k0,k1,k2,k3,z1,z2,z3⟩:=h.c
 by_cases hw:s.w=0
 . rw[rBad_0 hw];have h2:=h.setW n;have t2:=(Tw.refl p sv fv w).set 13 (.int .i64 n);rw[hw]at k3;clear h hw;go_enter Tryz.func87,Tryz.ntmps87;go_wp2;go_end0;exact⟨rfl,h2,t2⟩
 . rw[rBad_1 hw];have hb:(s.w==0)=false:=(by simp[hw])
   go_enter Tryz.func87,Tryz.ntmps87;go_wp2;go_end0;exact⟨rfl,h,.refl _ _ _ _⟩
theorem rtop_any(h:RcP N p M lv w sv fv s){f:Fr}{r:List Fr}(hf:s.fs=f::r):Calls Tryz.prog 86 #[.pointer (some ⟨p,0,none⟩)] w λe w'=>(∃g cap,fv=.slice (some ⟨g,0,none⟩) (r.length+1) cap/\e=.returned (.pointer (some ⟨g,r.length*4,none⟩)))/\∃m,w'=w.drewN m:=by
 obtain⟨g,cap,fa,rfl,hg,c0,c1,c2,c3,z3,l1,l2,hn,hm⟩:=h.o.top hf;obtain⟨k0,k1,k2,k3,z1,z2,z3'⟩:=h.c;have e1:IntKind.i64.wrap (((r.length+1:Nat):Int)-1)=(r.length:Int):=(by rw[IntKind.wrap_i64];omega)
 clear hf;go_enter Tryz.func86,Tryz.ntmps86;go_wp2_with fail
 go_quiet (fail)
 go_wp2_with fail;go_ret;exact⟨⟨g,cap,rfl,rfl⟩,nq,rfl⟩
theorem vZ(h:RcP N p M lv w sv fv s){l:List Int}{la:Option Addr}{lc:Nat}(hl:IntsIn w la l)(hb:s.w=0->s.st.length+l.length<=1099511627776):Calls Tryz.prog 106 #[.pointer (some ⟨p,0,none⟩),.slice la l.length lc] w (endO N p M lv w sv fv (zW l s)):=by
 by_cases hw:s.w=0
 . replace hb:=hb hw;have hX:zW l s=⟨s.w,(zN l ⟨s.st,s.fs⟩).st,s.fs⟩:=(by unfold zW;rw[if_pos hw];rfl)
   rw[hX];obtain⟨i3,hi3,hz3,hs3,hb3⟩:=vN;obtain⟨k0,k1,k2,k3,z1,z2,z3⟩:=h.c;rw[hw]at k3;have hpb:=lt_of_block h.b;have hne:sv.ownBlock≠some p:=λe=>by have:=h.o.low.1 p e;have:=h.o.hN;omega
   have hN:=h.o.hw;have e0:∀x,jG 0 x=x:=λx=>by unfold jG;split<;>omega
   have em:l.map (jG 0)=l:=(by rw[show jG 0=id from funext e0];simp)
   have fin:∀v' w1,w1.ownsRow N 3 1 v' (s.st.length+l.length) (stC 0 s.st++l.map λx=>Value.int .i64 x)->w.grownBy w1 sv.ownBlock->(v'.ownBlock=sv.ownBlock\/v'.ownBlock=some w.heap.size)->
    Hid (RcP N p M lv (w1.setCell ⟨p,11,none⟩ v') v' fv ⟨s.w,(zN l ⟨s.st,s.fs⟩).st,s.fs⟩/\Tw p sv fv v' fv w (w1.setCell ⟨p,11,none⟩ v'))/\w1.cell? ⟨p,11,none⟩=some sv/\w1.frozen? ⟨p,11,none⟩=false:=λv' w1 ho hg ha=>by
    obtain⟨o1,t1⟩:=h.o.push (by decide) (l:=l) (by simp only[e0];exact ho) hg ha;have hp1:w1.heap[p]? =some (.cells #[M.v0,M.v1,M.v2,M.v3,M.v4,M.v5,M.v6,M.v7,M.v8,M.v9,lv,sv,fv,.int .i64 s.w] 108 (0,0)):=(by rw[hg.block p hpb (λe=>hne e.symm)];exact h.b)
    exact⟨zh ⟨⟨by rw[heap_setCell_same w1 p 11 _ _ _ hp1];rfl,o1.setP 11 v'⟩,t1.set 11 v'⟩,by rw[cell_of_row w1 p 11 _ _ _ hp1];rfl,frozen_of_row w1 p 11 _ _ hp1⟩
   obtain⟨h63,hc⟩:=hl;have hown:=h.o.st;replace hown:w.ownsRow N 3 1 sv s.st.length (stC 0 s.st):=hown;cases la with
   |none=>
     have hnil:l=[]:=by
      rcases hc with hc |⟨b,o,e,_⟩
      . exact hc
      . cases e
     subst hnil;obtain⟨hf,_,_⟩:=fin sv w (by simpa using hown) ⟨rfl,rfl,rfl,Nat.le_refl _,λ_ _ _=>rfl⟩ (.inl rfl);obtain⟨sa,sc,rfl⟩:=yR hown;clear fin h hpb hne hN hw hX;go_enter Tryz.func106,Tryz.ntmps106
     go_wp2_with (first |(
      at_builtin
      refine xY _ rfl _ _ _ rfl N 3 i3 1 Tryz.underlying28 hi3 _ s.st.length lc _ (by rfl) hown (by rfl) ?_))
     go_end0;exact⟨rfl,_,hf.out.1,hf.out.2⟩
   |some ad=>
     have hnews:∀j u,(l.map λx=>Value.int .i64 x)[j]? =some u->w.cell? (ad.add j)=some u:=by
      rcases hc with hc |⟨b',o',e,hc⟩
      . rw[hc];intro j u hu;cases hu
      . cases e;exact ints_news hc
     clear hc h hw hX em;go_enter Tryz.func106,Tryz.ntmps106
     go_wp2_with (first |(
      at_builtin
      refine wpList_append_own_at _ rfl _ _ _ rfl N 3 i3 _ 1 8 Tryz.underlying28 hi3 hz3 hs3 hb3 rfl (by omega) sv s.st.length _ (by rfl) hown ad l.length lc _ (by rfl) (by simp) hnews (by intro u hu;simp only[List.mem_map]at hu;obtain⟨x,_,rfl⟩:=hu;rfl) (by unfold maxLen;omega) (by omega) hN ?_;intro v' w1 hown1 hgrow hnil hat;obtain⟨sa',sc',rfl⟩:=yR hown1;obtain⟨hf,y2,f2⟩:=fin _ w1 hown1 hgrow hat;obtain⟨sa,sc,hsv⟩:=yR hown;rw[hsv]at y2))
     go_end0;exact⟨rfl,_,hf.out.1,hf.out.2⟩
 . have hX:zW l s=s:=(by unfold zW;rw[if_neg hw])
   rw[hX];obtain⟨k0,k1,k2,k3,z1,z2,z3⟩:=h.c;have hb:(s.w==0)=false:=(by simp[hw])
   go_enter Tryz.func106,Tryz.ntmps106;go_wp2;go_end0;exact⟨rfl,_,h,.refl _ _ _ _⟩
end
end Go.Proofs.YtacohbllbjgdgaaGreatDoor
namespace Go.Proofs.YtacohbllbjgdgaaGreatDoor
open Go.RowKit
section
variable {N p:Nat} {M:M10} {lv:Value} {w w':World} {sv fv sv' fv':Value} {s:Rs}
theorem RcP.popped(h:RcP N p M lv w sv fv s){g c x:Nat}{t:Int}{q:List Int}(e:sv=.slice (some ⟨g,0,none⟩) x c)(hs:s.st=t::q):RcP N p M lv (w.setCell ⟨p,11,none⟩ (.slice (some ⟨g,0,none⟩) q.length c)) (.slice (some ⟨g,0,none⟩) q.length c) fv ⟨s.w,q,s.fs⟩:=by
 have:=h.o.drop e (m:=q.length) (by rw[hs];simp);rw[hs,show(t::q).length-q.length=1 by simp]at this;exact h.setS this
theorem rPop_w{t:Int}{s:Rs}(h:s.w≠0):zP t s=(0,s):=by unfold zP;rw[if_neg h]
theorem rPop_nil{t:Int}{s:Rs}{f:Fr}{r:List Fr}(hw:s.w=0)(hf:s.fs=f::r)(hl:s.st.length=f.h):zP t s=(0,if f.dead=true then s else zQ 60 s):=by
 unfold zP;rw[if_pos hw,hf]
 dsimp only
 rw[if_pos hl]
theorem rPop_cons{t:Int}{s:Rs}{f:Fr}{r:List Fr}{x:Int}{q:List Int}(hw:s.w=0)(hf:s.fs=f::r)(hl:¬s.st.length=f.h)(hs:s.st=x::q):zP t s=(x,if t≠0/\x≠0/\x≠t then zQ 60 ⟨s.w,q,s.fs⟩else⟨s.w,q,s.fs⟩):=by
 unfold zP;rw[if_pos hw,hf]
 dsimp only
 rw[if_neg hl,hs]
def endP (N p:Nat) (M:M10) (lv:Value) (w:World) (sv fv:Value) (x:Int×Rs) (e:Ending) (w':World):Prop:=
 e=.returned (.int .i64 x.1)/\∃sv',RcP N p M lv w' sv' fv x.2/\Tw p sv fv sv' fv w w'
theorem qL(h:RcP N p M lv w sv fv s)(hwf:RWf s)(t:Int):Calls Tryz.prog 107 #[.pointer (some ⟨p,0,none⟩),.int .i64 t] w (endP N p M lv w sv fv (zP t s)):=by
 obtain⟨k0,k1,k2,k3,z1,z2,z3⟩:=h.c;generalize hX:zP t s=X;replace hX:=zh hX
 by_cases hw:s.w=0
 . obtain⟨f,r,hf⟩:=List.exists_cons_of_ne_nil hwf.fs;have hh:f.h<=s.st.length:=(by have:=hwf.ok hw;unfold hR at this;rw[hf]at this;exact this)
   rw[hw]at k3;obtain⟨g,cap,fa,hfv,hg,c0,c1,c2,c3,z3',l1,l2,hn,hm⟩:=h.o.top hf;have hT:=λw (h:RcP N p M lv w sv fv s)=>rtop_any h hf
   by_cases hl:s.st.length=f.h
   . replace hX:=zh ((rPop_nil hw hf hl).symm.trans hX.out);obtain⟨sa,sc,hsv,hsl⟩:=h.o.sl;rw[hsv]at k1;have hlb:(((s.st.length:Nat):Int)==((f.h:Nat):Int))=true:=(by simp[hl])
     clear hh hl hw hf;go_enter Tryz.func107,Tryz.ntmps107;go_wp2_with fail;refine(hT _ h).mono ?_;rintro e w1 ⟨⟨g',cap',hfv',rfl⟩,m1,rfl⟩;rw[hfv]at hfv';cases hfv';have h1:=h.step (zB m1);have b1:=zB (w:=w) m1;go_wp2_with fail
     by_cases hd:f.dead=true
     . have hX1:=hX.out;rw[if_pos hd]at hX1;subst hX1;rw[hd]at c3;go_wp2_with fail;refine(hT _ h1).mono ?_;rintro e w1 ⟨⟨g',cap',hfv',rfl⟩,m2,rfl⟩;rw[hfv]at hfv';cases hfv';go_wp2;go_ret;exact⟨rfl,sv,h.step (zB _),.of_below (zB _)⟩
     . have hX1:=hX.out;rw[if_neg hd]at hX1;subst hX1;rw[Bool.not_eq_true]at hd;rw[hd]at c3;go_wp2_with fail;refine(hT _ h1).mono ?_;rintro e w1 ⟨⟨g',cap',hfv',rfl⟩,m2,rfl⟩;rw[hfv]at hfv';cases hfv';have h2:=h.step (zB (m1+m2));have t2:Tw p sv fv sv fv w (w.drewN (m1+m2)):=.of_below (zB _);go_wp2_with fail;refine(j8 h2 60).mono ?_;rintro e w3 ⟨rfl,h3,t3⟩;go_wp2;go_ret;exact⟨rfl,sv,h3,t2.trans t3⟩
   . cases hs:s.st with
     |nil=>rw[hs]at hl hh;simp at hl hh;omega
     |cons x q=>
       replace hX:=zh ((rPop_cons hw hf hl hs).symm.trans hX.out);obtain⟨sg,sc,hsv,hsg,hlast,hsn,hsm⟩:=h.o.last hs;simp only[maxLen]at hsm;rw[show jG 0 x=x by unfold jG;split<;>omega]at hlast;rw[hsv]at k1;rw[hs,List.length_cons]at hl;have hlb:(((q.length+1:Nat):Int)==((f.h:Nat):Int))=false:=(by simp;omega)
       have e1:IntKind.i64.wrap (((q.length+1:Nat):Int)-1)=(q.length:Int):=(by rw[IntKind.wrap_i64];omega)
       have e2:IntKind.i64.wrap (q.length:Int)=(q.length:Int):=(by rw[IntKind.wrap_i64];omega)
       have i0:(0:Int)<=(q.length:Int):=(by omega)
       have i1:(q.length:Int)<=(sc:Int):=(by omega)
       have i2:q.length<=sc:=(by omega)
       have hP:=λw (h:RcP N p M lv w sv fv s)=>h.popped hsv hs;clear hh hl hf;go_enter Tryz.func107,Tryz.ntmps107;go_wp2_with fail;refine(hT _ h).mono ?_;rintro e w1 ⟨⟨g',cap',hfv',rfl⟩,m1,rfl⟩;rw[hfv]at hfv';cases hfv';have h1:=h.step (zB m1);have b1:=zB (w:=w) m1;have h2:=hP _ h1;have t2:=((Tw.of_below (p:=p) (sv:=sv) (fv:=fv) b1).cutS (sv'':=.slice (some ⟨sg,0,none⟩) q.length sc) (by rw[hsv];rfl)).set 11 (.slice (some ⟨sg,0,none⟩) q.length sc);replace hw:=zh hw
       by_cases hb:t≠0/\x≠0/\x≠t
       . have hX1:=hX.out;rw[if_pos hb]at hX1;subst hX1;obtain⟨y1,y2,y3⟩:=hb;have u1:(t !=0)=true:=(by simp[y1])
         have u2:(x !=0)=true:=(by simp[y2])
         have u3:(x !=t)=true:=(by simp[y3])
         go_wp2_with fail;refine(j8 h2 60).mono ?_;rintro e w3 ⟨rfl,h3,t3⟩;go_wp2;go_ret;exact⟨rfl,_,h3,t2.trans t3⟩
       . have hX1:=hX.out;rw[if_neg hb]at hX1;subst hX1;have y4:(t !=0)=false\/((t !=0)=true/\(x !=0)=false)\/((t !=0)=true/\(x !=0)=true/\(x !=t)=false):=(by simp;omega)
         clear hb
         rcases y4 with y1 |⟨y1,y2⟩ |⟨y1,y2,y3⟩
         all_goals(
          go_wp2;go_ret;exact⟨rfl,_,h2,t2⟩)
 . have hb:(s.w==0)=false:=(by simp[hw])
   replace hX:=hX.out;rw[rPop_w hw]at hX;subst hX;go_enter Tryz.func107,Tryz.ntmps107;go_wp2;go_ret;exact⟨rfl,_,h,.refl _ _ _ _⟩
end
end Go.Proofs.YtacohbllbjgdgaaGreatDoor
namespace Go.Proofs.YtacohbllbjgdgaaGreatDoor
open Go.RowKit
section
variable {N p:Nat} {M:M10} {lv:Value} {w w':World} {sv fv sv' fv':Value} {s:Rs}
theorem rpops_any(h:RcP N p M lv w sv fv s)(hwf:RWf s){l:List Int}{la:Option Addr}{lc:Nat}(hl:LiB w p sv fv la l):Calls Tryz.prog 85 #[.pointer (some ⟨p,0,none⟩),.slice la l.length lc] w (endO N p M lv w sv fv (jC l s)):=by
 have h63:=hl.1.1;have e1:IntKind.i64.wrap ((l.length:Int)-1)=(l.length:Int)-1:=(by rw[IntKind.wrap_i64];omega)
 generalize hX:jC l s=X;have hX0:Hid (rPops (l.take l.length).reverse s=X):=zh (by rw[List.take_length];exact hX);clear hX;have h00:Hid (RcP N p M lv w sv fv s/\Tw p sv fv sv fv w w/\RWf s):=zh ⟨h,.refl _ _ _ _,hwf⟩;replace hl:=zh hl;clear h hwf;go_enter Tryz.func85,Tryz.ntmps85;go_wp2_with fail;go_loopw [4] (λvi wr=>∃k:Nat,∃sv':Value,∃s':Rs,vi=.int .i64 ((k:Int)-1)/\k<=l.length/\Hid (rPops (l.take k).reverse s'=X)/\Hid (RcP N p M lv wr sv' fv s'/\Tw p sv fv sv' fv w wr/\RWf s')) (λvi _=>(intOf vi+1).toNat)
 case atStart=>exact⟨l.length,sv,s,rfl,Nat.le_refl _,hX0,h00⟩
 case round=>
  clear hX0 h00;obtain⟨k,sv',s',rfl,hk,hx,hh⟩:=hrel;obtain⟨h1,t1,hwf1⟩:=hh.out
  by_cases hk0:k=0
  . subst hk0;have hx2:s'=X:=hx.out;subst hx2;go_wp2;go_end0;exact⟨rfl,sv',h1,t1⟩
  . obtain⟨j,rfl⟩:∃j,k=j+1:=⟨k-1,by omega⟩
    have hj:j<l.length:=(by omega)
    have hli:=hl.out.tw t1
    obtain⟨b,o,rfl,hc⟩:∃b o,la=some ⟨b,o,none⟩/\∀i x,l[i]? =some x->wr.cell? ⟨b,o+i,none⟩=some (.int .i64 x):=by
     rcases hli.1.2 with e |e
     . rw[e]at hj;simp at hj
     . exact e
    obtain⟨x,hx1⟩:∃x,l[j]? =some x:=⟨_,List.getElem?_eq_getElem hj⟩
    have hcx:=hc j x hx1
    have hx2:Hid (rPops (l.take j).reverse (zP x s').2=X):=zh (by
     have:=hx.out;rw[List.take_add_one,hx1,Option.toList_some,List.reverse_append]at this;exact this)
    have e2:(((j+1:Nat):Int)-1)=(j:Int):=(by omega)
    rw[e2];have e3:IntKind.i64.wrap ((j:Int)-1)=(j:Int)-1:=(by rw[IntKind.wrap_i64];omega)
    have hp:=qL h1 hwf1 x;have g:=jA hwf1 x;clear hc hx hx1 hh hli;go_wp2_with fail;refine hp.mono ?_;rintro e w2 ⟨rfl,sv2,h2,t2⟩;go_wp2
    go_roundw
    case rel=>exact⟨j,sv2,_,rfl,by omega,hx2,zh ⟨h2,t1.trans t2,g.wf⟩⟩
    case measure=>simp[intOf]
theorem rDead_0{s:Rs}{f:Fr}{r:List Fr}(hw:s.w=0)(hf:s.fs=f::r):jP s=⟨s.w,s.st.drop (s.st.length-f.h),{f with dead:=true}::r⟩:=by unfold jP;rw[if_pos hw,hf]
theorem rdead_any(h:RcP N p M lv w sv fv s)(hwf:RWf s):Calls Tryz.prog 104 #[.pointer (some ⟨p,0,none⟩)] w (endO N p M lv w sv fv (jP s)):=by
 obtain⟨k0,k1,k2,k3,z1,z2,z3⟩:=h.c
 by_cases hw:s.w=0
 . obtain⟨f,r,hf⟩:=List.exists_cons_of_ne_nil hwf.fs;have hh:f.h<=s.st.length:=(by have:=hwf.ok hw;unfold hR at this;rw[hf]at this;exact this)
   rw[rDead_0 hw hf];rw[hw]at k3;replace hw:=zh hw;obtain⟨g,cap,fa,hfv,hg,c0,c1,c2,c3,z3',l1,l2,hn,hm⟩:=h.o.top hf;have hT:=λw (h:RcP N p M lv w sv fv s)=>rtop_any h hf;obtain⟨sa,sn,sc,hsv,hsc,hsn,hsl,hcl,ho,hob⟩:=h.o.cut hh;rw[hsv]at k1;have i0:(0:Int)<=(f.h:Int):=(by omega)
   have i1:(f.h:Int)<=(sc:Int):=(by omega)
   go_enter Tryz.func104,Tryz.ntmps104;go_wp2_with fail
   go_region_with (first |(go_at_call 86;refine(hT _ (h.step (zB _))).mono ?_;rintro e w1 ⟨⟨g',cap',hfv',rfl⟩,m1,rfl⟩;rw[hfv]at hfv';cases hfv'))
   all_goals(
    go_wp2_with fail;have h5:=(h.step (zB (1+m1))).setS (ho.step (zB (1+m1)));have t5:=((Tw.of_below (p:=p) (sv:=sv) (fv:=fv) (zB (w:=w) (1+m1))).cutS (sv'':=.slice sa f.h sc) hob).set 11 (.slice sa f.h sc);clear h k0 k1 k2 k3 z1 z2 z3 c0 c1 c2 c3 z3' hT;refine(rtop_any h5 hf).mono ?_;rintro e w1 ⟨⟨g',cap',hfv',rfl⟩,m2,rfl⟩;rw[hfv]at hfv';cases hfv';have h6:=h5.step (zB m2);have t6:=t5.step (zB m2);obtain⟨g',cap',fa',hfv',_,_,_,c2',c3',z3,_,_,_,_⟩:=h6.o.top (f:=f) (r:=r) hf;rw[hfv]at hfv';cases hfv';obtain⟨o7,t7⟩:=h6.o.die (by decide) hfv (f:=f) (r:=r) hf;have hgp:g≠p:=λe=>by have:=h6.o.hN;omega
    have hb7:=(Below.heap_setCell _ ⟨g,r.length*4+3,none⟩ (.bool true) p (show p≠g fromλe=>hgp e.symm)).trans h6.b;have hR:RcP N p M lv _ _ _ ⟨s.w,s.st.drop (s.st.length-f.h),{f with dead:=true}::r⟩:=⟨hb7,o7⟩
    go_wp2_with fail;go_end0;exact⟨rfl,_,hR,t6.trans t7⟩)
 . have hX:jP s=s:=(by unfold jP;rw[if_neg hw])
   rw[hX];have hb:(s.w==0)=false:=(by simp[hw])
   go_enter Tryz.func104,Tryz.ntmps104;go_wp2;go_end0;exact⟨rfl,_,h,.refl _ _ _ _⟩
theorem rresult_any(a:Int)(w:World):Calls Tryz.prog 105 #[.int .i64 a] w λe w'=>(∃la lc,e=.returned (.slice la (zL a).length lc)/\IntsIn w' la (zL a)/\(zL a=[]\/∀ad,la=some ad->w.heap.size<=ad.block))/\Below w.heap.size w w':=by
 by_cases ha:a=0
 . have e:zL a=[]:=(by unfold zL;rw[if_pos ha])
   rw[e];have hb:(a==0)=true:=(by simp[ha])
   clear ha;go_enter Tryz.func105,Tryz.ntmps105;go_wp2;go_ret;exact⟨⟨none,0,rfl,⟨by simp,.inl rfl⟩,by simp⟩,Below.refl _ _⟩
 . have e:zL a=[a]:=(by unfold zL;rw[if_neg ha])
   rw[e];have hb:(a==0)=false:=(by simp[ha])
   clear ha;go_enter Tryz.func105,Tryz.ntmps105;go_wp2;go_ret;refine⟨⟨_,_,rfl,⟨by simp,.inr ⟨_,_,rfl,λi x hx=> ?_⟩⟩,.inr λad e=>by cases e;exact Nat.le_refl _⟩,Below.of_alloc w _⟩;have hi:i=0:=(by have:=(List.getElem?_eq_some_iff.1 hx).1;simp at this;omega)
   subst hi;simp at hx;subst hx;exact World.cell?_alloc_at _ _ _ 0 (by simp)
def endL (N p:Nat) (M:M10) (lv:Value) (w:World) (sv fv:Value) (s:Rs) (a:Int) (e:Ending) (w':World):Prop:=
 (if qT a s then(∃ga gc,e=.returned (.tuple #[.slice ga (qP a s).length gc,.bool true])/\LiB w' p sv fv ga (qP a s))/\RcP N p M lv w' sv fv s
  else e=.returned (.tuple #[.slice none 0 0,.bool false])/\RcP N p M lv w' sv fv (zQ 61 s))/\Tw p sv fv sv fv w w'
theorem rlabel_any(h:RcP N p M lv w sv fv s)(a:Int):Calls Tryz.prog 108 #[.pointer (some ⟨p,0,none⟩),.int .i64 a] w (endL N p M lv w sv fv s a):=by
 obtain⟨k0,k1,k2,k3,z1,z2,z3⟩:=h.c;obtain⟨L,hL1,hL2,hL3⟩:=h.o.fs;replace hL1:L.map Prod.fst=s.fs:=hL1;have hll:L.length=s.fs.length:=(by rw[<-hL1,List.length_map])
 obtain⟨fa,fc,hfv⟩:=yR hL2;rw[hll]at hfv;rw[hfv]at k2
 by_cases hr:qT a s
 . obtain⟨hr0,hr1⟩:=hr;obtain⟨k,rfl⟩:∃k:Nat,a=k:=⟨a.toNat,by omega⟩
   have hk:k<s.fs.length:=(by omega)
   obtain⟨f,hf⟩:∃f,s.fs[k]? =some f:=⟨_,List.getElem?_eq_getElem hk⟩
   have hX:qP (k:Int) s=f.goes:=by unfold qP;rw[Int.toNat_natCast,List.getD_eq_getElem?_getD,hf];rfl
   obtain⟨g,cap,fa',hfv',hg,c0,c1,c2,c3,z3',l1,l2,hn2,hm⟩:=h.o.frame hf;rw[hfv]at hfv';cases hfv';simp only[maxLen]at hm;replace hn2:s.fs.length<=fc:=hn2;replace hm:fc<=9223372036854775807:=by omega
   have e1:IntKind.i64.wrap ((s.fs.length:Int)-1)=((s.fs.length-1:Nat):Int):=(by rw[IntKind.wrap_i64];omega)
   have e2:IntKind.i64.wrap (((s.fs.length-1:Nat):Int)-(k:Int))=((s.fs.length-1-k:Nat):Int):=(by rw[IntKind.wrap_i64];omega)
   have i1:(0:Int)<=((s.fs.length-1-k:Nat):Int):=(by omega)
   have i2:((s.fs.length-1-k:Nat):Int)<(s.fs.length:Int):=(by omega)
   have hend:∀n,endL N p M lv w sv fv s (k:Int) (.returned (.tuple #[.slice fa'.ga f.goes.length fa'.gc,.bool true])) (w.drewN n):=λn=>by
    unfold endL;rw[if_pos ⟨hr0,hr1⟩,hX];exact⟨⟨⟨_,_,rfl,l1.tw (.of_below (zB _))⟩,h.step (zB _)⟩,.of_below (zB _)⟩
   replace hend:=zh hend;have d1:decide ((k:Int)<0)=false:=decide_eq_false (by omega);have d2:decide ((s.fs.length:Int)<=(k:Int))=false:=decide_eq_false (by omega);clear hX hf h l1 l2 hL1 hL2 hL3;go_enter Tryz.func108,Tryz.ntmps108;go_wp2_with fail
   go_quiet (fail)
   go_wp2_with fail;go_ret2;exact hend.out nq
 . have hend:∀w1,RcP N p M lv w1 sv fv (zQ 61 s)->Tw p sv fv sv fv w w1->endL N p M lv w sv fv s a (.returned (.tuple #[.slice none 0 0,.bool false])) w1:=λw1 h1 t1=>by
    unfold endL;rw[if_neg hr];exact⟨⟨rfl,h1⟩,t1⟩
   have hB:=j8 h 61;replace hend:=zh hend;replace hB:=zh hB
   have hr2:a<0\/(¬a<0/\(s.fs.length:Int)<=a):=by unfold qT at hr;omega
   rcases hr2 with hr2 |⟨hr2,hr3⟩
   all_goals(
    go_enter Tryz.func108,Tryz.ntmps108;go_wp2_with fail;refine hB.out.mono ?_;rintro e w1 ⟨rfl,h1,t1⟩;go_wp2;go_ret2;exact hend.out _ h1 t1)
end
end Go.Proofs.YtacohbllbjgdgaaGreatDoor
namespace Go.Proofs.YtacohbllbjgdgaaGreatDoor
open Go.RowKit
theorem in_any(op a b:Int)(w:World):Calls Tryz.prog 65 #[.int .i64 op,.int .i64 a,.int .i64 b] w λe w'=>e=.returned (.bool (decide (a<=op)&&decide (op<=b)))/\w=w':=by
 go_enter Tryz.func65,Tryz.ntmps65;go_wp2;all_goals go_ret
 all_goals exact⟨by first |rfl |(simp_all;done) |(simp;omega),rfl⟩
theorem sN_pos{op k n t:Int}(h:OfIs op k n t)(hk:k≠0):0<sN k:=by
 unfold sN;rw[if_neg hk];split
 . decide
 . split<;>decide
theorem jY(op:Int)(w:World):Calls Tryz.prog 111 #[.int .i64 op] w λe w'=>e=.returned (.int .i64 (zG op))/\w=w':=by
 obtain⟨k,n,t,h⟩:=of_ex op;have HS:=λw=>zh (rsig_any op k n t w h)
 by_cases hk:k=0
 . subst hk;have h0:=of_0 h;clear h;rw[show sN 0=0 from rfl]at HS;go_enter Tryz.func111,Tryz.ntmps111;go_wp2_with fail;refine(HS _).out.mono ?_;rintro e w' ⟨rfl,rfl⟩;go_wp2_with (first |(go_at_call 65;refine(in_any _ _ _ _).mono ?_;rintro e w' ⟨rfl,rfl⟩))
   all_goals go_ret
   all_goals refine⟨?_,rfl⟩
   all_goals(unfold zG;rw[if_neg h0])
   all_goals clear HS
   all_goals simp only[beq_eq_false_iff_ne,beq_iff_eq,ne_eq]at*
   all_goals repeat (first |rw[if_neg (by omega)] |rw[if_pos (by omega)])
   all_goals rfl
 . have hf:=of_non h hk;have hp:=sN_pos h hk;rw[hf]
   generalize sN k=N at*
   clear h hk hf;go_enter Tryz.func111,Tryz.ntmps111;go_wp2_with fail;refine(HS _).out.mono ?_;rintro e w' ⟨rfl,rfl⟩;go_wp2;go_ret;exact⟨rfl,rfl⟩
def zero7:Array Value:= #[.int .i64 0,.int .i64 0,.int .i64 0,.int .i64 0,.slice none 0 0,.slice none 0 0,.slice none 0 0]
theorem info45:(Tryz.prog.info? 49).map (λi=>(i.zero,i.size,i.bytes))=some (some (.agg zero7),7,104):=by kernel_rfl
theorem info49:(Tryz.prog.info? 53).map (λi=>(i.zero,i.size,i.bytes))=some (some (.agg #[.int .i64 0,.slice none 0 0,.slice none 0 0]),3,56):=by kernel_rfl
def Box (w:World) (p:Nat) (vs:Array Value):Prop:=∀j v,vs[j]? =some v->w.cell? ⟨p,j,none⟩=some v
theorem Box.keep{w w':World}{p:Nat}{vs:Array Value}(f:Keeps w w')(h:Box w p vs):Box w' p vs:=λj v e=>f _ _ (h j v e)
theorem keeps_drew(w:World):Keeps w w.drew:=λ_ _ h=>h
theorem box_new(w:World)(vs:Array Value)(t:TypeId):Box (w.alloc (.cells vs t)) w.heap.size vs:=λj v e=>(World.cell?_alloc_at _ _ _ j rfl).trans e
theorem box_new2(w:World)(o:Obj)(vs:Array Value)(t:TypeId):Box ((w.alloc o).alloc (.cells vs t)) (w.heap.size+1) vs:=by have:=box_new (w.alloc o) vs t;simpa using this
theorem keeps_new(w:World)(o:Obj):Keeps w (w.alloc o):=zA ((Below.refl _ _).alloc (Nat.le_refl _) _)
end Go.Proofs.YtacohbllbjgdgaaGreatDoor
